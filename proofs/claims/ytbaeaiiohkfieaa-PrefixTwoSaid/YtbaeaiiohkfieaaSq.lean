/-
  Symbolic walks: a state is told by what is known of its slots (a list) and of its blocks (a list); a region whose operations only read, reckon and call is walked once, in the order of the text.
-/
import Derived.Test.YtbaeaiiohkfieaaProg
import Derived.Deep.Quiet
import Derived.Deep.MidRow
import Derived.Laws.Rows
import Derived.Laws.StructEq
import Derived.Below
import Derived.WalkKit
namespace Go.Proofs.Ytbaeaiiohkfieaa.Sq
open Go.RowKit
set_option linter.unusedVariables false
set_option linter.unusedSimpArgs false

/-- What is known of the slots: the newest first. -/
abbrev Slots := List (Nat × Value)
def look : Slots → Nat → Option Value
  | [], _ => none
  | (d, v) :: L, t => match Nat.beq d t with
    | true => some v
    | false => look L t
/-- What is known of the blocks: number, cells, type. -/
abbrev Mem := List (Nat × List Value × TypeId)

theorem nbeq (t : Nat) : Nat.beq t t = true := by induction t with | zero => rfl | succ t ih => exact ih
structure Holds (n : Nat) (L : Slots) (a : Act) : Prop where
  defers : a.defers = []
  size : a.tmps.size = n
  slot : ∀ t v, look L t = some v → a.tmps[t]? = some v
/-- From W on nothing but the blocks of F (and new ones) has changed. -/
structure Keep (F : Nat → Prop) (W w : World) : Prop where
  os : w.os = W.os
  tape : w.tape = W.tape
  output : w.output = W.output
  size : W.heap.size ≤ w.heap.size
  block : ∀ k, k < W.heap.size → ¬ F k → w.heap[k]? = W.heap[k]?
structure Has (W : World) (F : Nat → Prop) (m : Mem) (w : World) : Prop where
  keep : Keep F W w
  cells : ∀ b ∈ m, w.heap[b.1]? = some (.cells b.2.1.toArray b.2.2 (0, 0))
  own : ∀ b ∈ m, W.heap.size ≤ b.1 ∨ F b.1
  nodup : (m.map (·.1)).Nodup
theorem Keep.refl (F : Nat → Prop) (W : World) : Keep F W W := ⟨rfl, rfl, rfl, Nat.le_refl _, fun _ _ _ => rfl⟩
theorem Keep.below {W w : World} (h : Keep (fun _ => False) W w) : Below W.heap.size W w := ⟨h.os, h.tape, h.output, h.size, fun k hk => h.block k hk id⟩
theorem Keep.step {F : Nat → Prop} {W w w' : World} (h : Keep F W w) (hb : Below w.heap.size w w') : Keep F W w' :=
  ⟨hb.os.trans h.os, hb.tape.trans h.tape, hb.output.trans h.output, Nat.le_trans h.size hb.size, fun k hk hf => (hb.block k (Nat.lt_of_lt_of_le hk h.size)).trans (h.block k hk hf)⟩
theorem lt_of_heap {w : World} {g : Nat} {o : Obj} (h : w.heap[g]? = some o) : g < w.heap.size := by
  rcases Nat.lt_or_ge g w.heap.size with h' | h'
  · exact h'
  · rw [Array.getElem?_eq_none h'] at h; cases h
theorem Has.step {W w w' : World} {F : Nat → Prop} {m : Mem} (h : Has W F m w) (hb : Below w.heap.size w w') : Has W F m w' :=
  ⟨h.keep.step hb, fun b hm => (hb.block _ (lt_of_heap (h.cells b hm))).trans (h.cells b hm), h.own, h.nodup⟩
theorem below_drawn (w : World) : Below w.heap.size w { w with drawn := w.drawn + 1 } := ⟨rfl, rfl, rfl, Nat.le_refl _, fun _ _ => rfl⟩
theorem Has.drew {W w : World} {F : Nat → Prop} {m : Mem} (h : Has W F m w) : Has W F m { w with drawn := w.drawn + 1 } := h.step (below_drawn w)
theorem Has.start (W : World) (F : Nat → Prop) : Has W F [] W := ⟨Keep.refl F W, fun _ h => (by cases h), fun _ h => (by cases h), List.nodup_nil⟩
theorem Has.alloc {W w : World} {F : Nat → Prop} {m : Mem} (h : Has W F m w) (cs : List Value) (t : TypeId) : Has W F ((w.heap.size, cs, t) :: m) (w.alloc (.cells cs.toArray t)) := by
  have hb : Below w.heap.size w (w.alloc (.cells cs.toArray t)) := (Below.refl _ _).alloc (Nat.le_refl _) _
  have h' := h.step hb
  refine ⟨h'.keep, fun b hm => ?_, fun b hm => ?_, ?_⟩
  · rcases List.mem_cons.1 hm with rfl | hm
    · exact heap_alloc_new w _
    · exact h'.cells b hm
  · rcases List.mem_cons.1 hm with rfl | hm
    · exact .inl h.keep.size
    · exact h.own b hm
  · rw [List.map_cons, List.nodup_cons]
    refine ⟨fun hin => ?_, h.nodup⟩
    obtain ⟨b, hm, he⟩ := List.mem_map.1 hin
    have := lt_of_heap (h.cells b hm)
    omega

/-- What an operand is. -/
def opv (L : Slots) : Operand → Option Value
  | .tmp t => look L t
  | .const v => some v
  | .global g => some (.pointer (some ⟨g, 0, none⟩))
  | .func f => some (.func (.func f) #[] #[])
theorem ev {n : Nat} {L : Slots} {a : Act} (h : Holds n L a) {x : Operand} {v : Value} (hx : opv L x = some v) : a.eval x = v := by
  cases x with
  | tmp t =>
    have := h.slot t v hx
    simp [Act.eval, this]
  | const c => exact Option.some.inj hx
  | global g => exact Option.some.inj hx
  | func f => exact Option.some.inj hx
def opvs (L : Slots) : List Operand → Option (List Value)
  | [] => some []
  | x :: l => match opv L x, opvs L l with
    | some v, some vs => some (v :: vs)
    | _, _ => none
theorem evs {n : Nat} {L : Slots} {a : Act} (h : Holds n L a) : ∀ {l : List Operand} {vs : List Value}, opvs L l = some vs → l.map a.eval = vs
  | [], vs, e => by cases e; rfl
  | x :: l, vs, e => by
    unfold opvs at e
    cases h1 : opv L x with
    | none => rw [h1] at e; cases e
    | some v =>
      cases h2 : opvs L l with
      | none => rw [h1, h2] at e; cases e
      | some us =>
        rw [h1, h2] at e
        cases e
        rw [List.map_cons, ev h h1, evs h h2]
/-- The slots behind an operation. -/
def putL (d : Option Tmp) (v : Value) (L : Slots) : Slots := match d with
  | some t => (t, v) :: L
  | none => L
def fits (n : Nat) (d : Option Tmp) : Bool := match d with
  | some t => Nat.blt t n
  | none => true
theorem Holds.put {n : Nat} {L : Slots} {a : Act} (h : Holds n L a) {d : Option Tmp} (hd : fits n d = true) (v : Value) : Holds n (putL d v L) (a.put d v) := by
  cases d with
  | none => exact h
  | some t =>
    have ht : t < n := by simpa [fits, Nat.blt_eq] using hd
    refine ⟨h.defers, by simpa [Act.put] using h.size, fun u x hx => ?_⟩
    unfold putL look at hx
    by_cases e : t = u
    · subst e
      rw [nbeq t] at hx
      cases hx
      simp [Act.put, h.size, ht]
    · rw [show Nat.beq t u = false from by cases hq : Nat.beq t u; rfl; exact absurd (Nat.eq_of_beq_eq_true hq) e] at hx
      simp only [Act.put, Array.getElem?_setIfInBounds_ne e]
      exact h.slot u x hx
theorem Holds.cover {n : Nat} {L L' : Slots} {a : Act} (h : Holds n L a) (hc : ∀ b ∈ L', look L b.1 = some b.2) : Holds n L' a := by
  refine ⟨h.defers, h.size, fun t v ht => h.slot t v ?_⟩
  clear h
  induction L' with
  | nil => cases ht
  | cons b l ih =>
    obtain ⟨d, x⟩ := b
    unfold look at ht
    cases hq : Nat.beq d t with
    | true => rw [hq] at ht; cases ht; obtain rfl := Nat.eq_of_beq_eq_true hq; exact hc _ (List.mem_cons_self ..)
    | false => rw [hq] at ht; exact ih (fun b hb => hc b (List.mem_cons_of_mem _ hb)) ht

section
variable {P : Program} {ops : Array Oper} {n : Nat} {C : World → Prop} {W : World} {F : Nat → Prop} {m : Mem} {L : Slots} {Q : Exit → Act → World → Prop} {K : Slots → Prop}
/-- From every state that is known so, the code comes to what is asked. -/
def Wp (P : Program) (n : Nat) (W : World) (F : Nat → Prop) (c : Code) (L : Slots) (m : Mem) (Q : Exit → Act → World → Prop) : Prop := ∀ a w, Holds n L a → Has W F m w → c.wp P Q a w
/-- What is asked behind it is so in every state that is known so. -/
def Fin (n : Nat) (W : World) (F : Nat → Prop) (Q : Exit → Act → World → Prop) (e : Exit) (L : Slots) (m : Mem) : Prop := ∀ a w, Holds n L a → Has W F m w → Q e a w
theorem w_seq {x y : Code} (h : Wp P n W F x L m (Exit.then (y.wp P Q) Q)) : Wp P n W F (.seq x y) L m Q := fun a w ha hw => wp_seq (h a w ha hw)
theorem w_skip (h : Fin n W F Q .normal L m) : Wp P n W F .skip L m Q := fun a w ha hw => wp_skip (h a w ha hw)
theorem w_ret (h : Fin n W F Q .ret L m) : Wp P n W F .ret L m Q := fun a w ha hw => wp_ret (h a w ha hw)
theorem w_exit {id : Nat} (h : Fin n W F Q (.exit id) L m) : Wp P n W F (.exit id) L m Q := fun a w ha hw => wp_exit (h a w ha hw)
theorem w_block {id : Nat} {c : Code} (h : Wp P n W F c L m (Exit.inBlock id Q)) : Wp P n W F (.block id c) L m Q := fun a w ha hw => wp_block (h a w ha hw)
theorem w_cond {c : Operand} {x y : Code} {b : Bool} (hc : opv L c = some (.bool b)) (ht : b = true → Wp P n W F x L m Q) (hf : b = false → Wp P n W F y L m Q) : Wp P n W F (.cond c x y) L m Q :=
  fun a w ha hw => wp_cond_split (ev ha hc) (fun e => ht e a w ha hw) (fun e => hf e a w ha hw)
theorem w_cond_t {c : Operand} {x y : Code} (hc : opv L c = some (.bool true)) (ht : Wp P n W F x L m Q) : Wp P n W F (.cond c x y) L m Q := fun a w ha hw => wp_cond_true (ev ha hc) (ht a w ha hw)
theorem w_cond_f {c : Operand} {x y : Code} (hc : opv L c = some (.bool false)) (hf : Wp P n W F y L m Q) : Wp P n W F (.cond c x y) L m Q := fun a w ha hw => wp_cond_false (ev ha hc) (hf a w ha hw)
theorem w_cond_tt {c : Operand} {x y : Code} {b : Bool} (hc : opv L c = some (.bool b)) (hb : b = true) (ht : Wp P n W F x L m Q) : Wp P n W F (.cond c x y) L m Q := w_cond hc (fun _ => ht) (fun e => by rw [hb] at e; cases e)
theorem w_cond_ff {c : Operand} {x y : Code} {b : Bool} (hc : opv L c = some (.bool b)) (hb : b = false) (hf : Wp P n W F y L m Q) : Wp P n W F (.cond c x y) L m Q := w_cond hc (fun e => by rw [hb] at e; cases e) (fun _ => hf)
theorem f_then {y : Code} (h : Wp P n W F y L m Q) : Fin n W F (Exit.then (y.wp P Q) Q) .normal L m := h
theorem f_ret {K : Act → World → Prop} (h : Fin n W F Q .ret L m) : Fin n W F (Exit.then K Q) .ret L m := h
theorem f_out {K : Act → World → Prop} {id : Nat} (h : Fin n W F Q (.exit id) L m) : Fin n W F (Exit.then K Q) (.exit id) L m := h
theorem f_ret_block {id : Nat} (h : Fin n W F Q .ret L m) : Fin n W F (Exit.inBlock id Q) .ret L m := h
theorem f_norm_block {id : Nat} (h : Fin n W F Q .normal L m) : Fin n W F (Exit.inBlock id Q) .normal L m := h
theorem f_exit_block {id : Nat} (h : Fin n W F Q .normal L m) : Fin n W F (Exit.inBlock id Q) (.exit id) L m := fun a w ha hw => by
  show if id = id then Q .normal a w else _
  rw [if_pos rfl]
  exact h a w ha hw
theorem f_exit_far {id id' : Nat} (hne : Nat.beq id' id = false) (h : Fin n W F Q (.exit id') L m) : Fin n W F (Exit.inBlock id Q) (.exit id') L m := fun a w ha hw => by
  show if id' = id then Q .normal a w else _
  rw [if_neg (fun e => by subst e; rw [nbeq id'] at hne; cases hne)]
  exact h a w ha hw

/-- An operation's value, whatever world of the class it meets. -/
def Yld (P : Program) (n : Nat) (C : World → Prop) (L : Slots) (o : Oper) (v : Value) : Prop := ∀ a, Holds n L a → ∀ w, C w → o.quietAt P a C w v
/-- The walk of a region in the order of the text. -/
def QSeq (P : Program) (ops : Array Oper) (n : Nat) (C : World → Prop) (K : Slots → Prop) : List Oper → Slots → Prop
  | [], L => K L
  | o :: l, L => ∃ v, (∀ a, Holds n L a → YieldsIn P ops C o v a) ∧ fits n o.dst = true ∧ QSeq P ops n C K l (putL o.dst v L)
theorem QSeq.quiet {Q' : Act → Prop} (hK : ∀ L a, Holds n L a → K L → Q' a) : ∀ (l : List Oper) (L : Slots) (a : Act), Holds n L a → QSeq P ops n C K l L → wpQuiet P ops C Q' l a
  | [], L, a, ha, h => hK L a ha h
  | o :: l, L, a, ha, h => by
    obtain ⟨v, hy, hd, hn⟩ := h
    unfold wpQuiet
    rcases hy a ha with ⟨hw, hv⟩ | ⟨hw, rfl⟩
    · rw [if_pos hw]
      exact ⟨v, hv, QSeq.quiet hK l _ _ (ha.put hd v) hn⟩
    · rw [if_neg (by rw [hw]; exact Bool.false_ne_true)]
      exact QSeq.quiet hK l _ _ (ha.put hd _) hn
theorem wpList_of_quiet {Q' : Act → Prop} (hQ : ∀ a w, C w → Q' a → Q .normal a w) : ∀ (l : List Oper) (a : Act) (w : World), C w → wpQuiet P ops C Q' l a → wpList P ops Q l a w
  | [], a, w, hw, h => hQ a w hw h
  | o :: l, a, w, hw, h => by
    unfold wpQuiet at h
    unfold wpList
    split at h
    · rename_i hq
      rw [if_pos hq]
      exact .inl (Oper.wp_of_quiet hw (fun a' w' hw' hk => wpList_of_quiet hQ l a' w' hw' hk) h)
    · rename_i hq
      rw [if_neg hq]
      exact wpList_of_quiet hQ l _ w hw h
/-- A region that asks the tape. -/
theorem w_draw {id : Nat} (hm : P.follows .mixedOrders = true) (hB : Region.lexB .any ops = true) (h : QSeq P ops n (Has W F m) (fun L' => Fin n W F Q .normal L' m) ops.toList L) : Wp P n W F (.region id ops true) L m Q :=
  fun a w ha hw => wp_region_quiet hm hB hw.drew (QSeq.quiet (fun L' a' ha' hk w' hw' => hk a' w' ha' hw') _ L a ha h)
/-- One that asks nothing, whose operations only read, reckon and call. -/
theorem w_plain {id : Nat} (h : QSeq P ops n (Has W F m) (fun L' => Fin n W F Q .normal L' m) ops.toList L) : Wp P n W F (.region id ops false) L m Q :=
  fun a w ha hw => wp_region_list (wpList_of_quiet (Q' := fun a' => ∀ w', Has W F m w' → Q .normal a' w') (fun a' w' hw' hk => hk w' hw') _ a w hw (QSeq.quiet (fun L' a' ha' hk w' hw' => hk a' w' ha' hw') _ L a ha h))

/-! ### The steps of such a walk -/
theorem q_nil (h : K L) : QSeq P ops n C K [] L := h
/-- What a guard's slot holds. -/
def gval (ops : Array Oper) (L : Slots) (j : Nat) : Option Value := ((ops[j]?).bind (·.dst)).bind (look L)
theorem yielded_of {a : Act} (ha : Holds n L a) {j : Nat} {g : Bool} (hg : gval ops L j = some (.bool g)) : yielded ops a.tmps j = some g := by
  unfold gval at hg
  unfold yielded
  cases ht : (ops[j]?).bind (·.dst) with
  | none => rw [ht] at hg; cases hg
  | some t =>
    rw [ht] at hg
    have := ha.slot t _ hg
    simp [this]
/-- A value that is there if b is. -/
def gv (b : Bool) (v : Value) : Value := match b with
  | true => v
  | false => undef
/-- An operation of a region: wanted or not, it leaves this. -/
def Stp (P : Program) (ops : Array Oper) (n : Nat) (C : World → Prop) (L : Slots) (o : Oper) (v : Value) : Prop := ∀ a, Holds n L a → YieldsIn P ops C o v a
section
variable {dst : Option Tmp} {op : Op} {ty : TypeId} {pos : String} {af : Array Edge} {gd : Option (Nat × Bool)} {l : List Oper} {v : Value} {j : Nat} {g want : Bool}
theorem st_go (hy : Yld P n C L ⟨dst, op, ty, pos, af, none⟩ v) : Stp P ops n C L ⟨dst, op, ty, pos, af, none⟩ v := fun a ha => .inl ⟨rfl, hy a ha⟩
theorem wanted_of {a : Act} (ha : Holds n L a) (hg : gval ops L j = some (.bool g)) : Region.wanted ⟨dst, op, ty, pos, af, some (j, want)⟩ (yielded ops a.tmps) = (g == want) := by
  show (yielded ops a.tmps j == some want) = (g == want)
  rw [yielded_of ha hg]
  cases g <;> cases want <;> rfl
theorem st_on (hg : gval ops L j = some (.bool want)) (hy : Yld P n C L ⟨dst, op, ty, pos, af, some (j, want)⟩ v) : Stp P ops n C L ⟨dst, op, ty, pos, af, some (j, want)⟩ v := fun a ha => .inl ⟨by rw [wanted_of ha hg]; simp, hy a ha⟩
theorem st_off (hg : gval ops L j = some (.bool (!want))) : Stp P ops n C L ⟨dst, op, ty, pos, af, some (j, want)⟩ undef := fun a ha => .inr ⟨by rw [wanted_of ha hg]; cases want <;> rfl, rfl⟩
theorem st_offe {b : Bool} (hg : gval ops L j = some (.bool g)) (hq : g = b) (hb : b = !want) : Stp P ops n C L ⟨dst, op, ty, pos, af, some (j, want)⟩ undef := st_off (by rw [hg, hq, hb])
/-- A guard that is not decided: the operation is walked under it; what it leaves is there if the guard is. -/
theorem st_if (hg : gval ops L j = some (.bool g)) (hy : (g == want) = true → Yld P n C L ⟨dst, op, ty, pos, af, some (j, want)⟩ v) : Stp P ops n C L ⟨dst, op, ty, pos, af, some (j, want)⟩ (gv (g == want) v) := fun a ha => by
  cases hq : g == want with
  | true => exact .inl ⟨(wanted_of ha hg).trans hq, hy hq a ha⟩
  | false => exact .inr ⟨(wanted_of ha hg).trans hq, rfl⟩
set_option linter.unusedVariables false in
theorem yielded_gv {a : Act} (ha : Holds n L a) {B : Bool} (hg : gval ops L j = some (gv B (.bool g))) : (yielded ops a.tmps j == some want) = (B && (g == want)) := by
  cases B with
  | true => rw [yielded_of (g := g) ha hg]; cases g <;> cases want <;> rfl
  | false =>
    unfold gval at hg
    unfold yielded
    cases ht : (ops[j]?).bind (·.dst) with
    | none => rw [ht] at hg; cases hg
    | some t =>
      rw [ht] at hg
      have := ha.slot t _ hg
      simp [this, gv, undef]
theorem st_if2 {B : Bool} (hg : gval ops L j = some (gv B (.bool g))) (hy : B = true → (g == want) = true → Yld P n C L ⟨dst, op, ty, pos, af, some (j, want)⟩ v) : Stp P ops n C L ⟨dst, op, ty, pos, af, some (j, want)⟩ (gv (B && (g == want)) v) := fun a ha => by
  have e : Region.wanted ⟨dst, op, ty, pos, af, some (j, want)⟩ (yielded ops a.tmps) = (B && (g == want)) := yielded_gv ha hg
  cases hq : B && (g == want) with
  | true =>
    have h2 := hq
    rw [Bool.and_eq_true] at h2
    exact .inl ⟨e.trans hq, hy h2.1 h2.2 a ha⟩
  | false => exact .inr ⟨e.trans hq, rfl⟩
theorem st_if3 {A B : Bool} (hg : gval ops L j = some (gv (A && B) (.bool g))) (hy : A = true → B = true → (g == want) = true → Yld P n C L ⟨dst, op, ty, pos, af, some (j, want)⟩ v) : Stp P ops n C L ⟨dst, op, ty, pos, af, some (j, want)⟩ (gv ((A && B) && (g == want)) v) :=
  st_if2 hg (fun h1 h2 => by rw [Bool.and_eq_true] at h1; exact hy h1.1 h1.2 h2)
theorem st_if4 {A B D : Bool} (hg : gval ops L j = some (gv ((A && B) && D) (.bool g))) (hy : A = true → B = true → D = true → (g == want) = true → Yld P n C L ⟨dst, op, ty, pos, af, some (j, want)⟩ v) : Stp P ops n C L ⟨dst, op, ty, pos, af, some (j, want)⟩ (gv (((A && B) && D) && (g == want)) v) :=
  st_if3 hg (fun h1 h2 h3 => by rw [Bool.and_eq_true] at h1; exact hy h1.1 h1.2 h2 h3)
theorem q_st {d : Nat} (hs : Stp P ops n C L ⟨some d, op, ty, pos, af, gd⟩ v) (hd : Nat.blt d n = true) (h : QSeq P ops n C K l ((d, v) :: L)) : QSeq P ops n C K (⟨some d, op, ty, pos, af, gd⟩ :: l) L := ⟨v, hs, hd, h⟩
theorem q_sn (hs : Stp P ops n C L ⟨none, op, ty, pos, af, gd⟩ v) (h : QSeq P ops n C K l L) : QSeq P ops n C K (⟨none, op, ty, pos, af, gd⟩ :: l) L := ⟨v, hs, rfl, h⟩
end
end

/-! ### Looking into lists -/
inductive At : List Value → Nat → Value → Prop
  | hit {v : Value} {l : List Value} : At (v :: l) 0 v
  | miss {x v : Value} {l : List Value} {k : Nat} (h : At l k v) : At (x :: l) (k + 1) v
theorem At.get {l : List Value} {k : Nat} {v : Value} (h : At l k v) : l[k]? = some v := by
  induction h with
  | hit => rfl
  | miss _ ih => simpa using ih
inductive Sub : List Value → Nat → Nat → List Value → Prop
  | nil {l : List Value} : Sub l 0 0 []
  | take {x : Value} {l r : List Value} {k : Nat} (h : Sub l 0 k r) : Sub (x :: l) 0 (k + 1) (x :: r)
  | drop {x : Value} {l r : List Value} {o k : Nat} (h : Sub l o k r) : Sub (x :: l) (o + 1) k r
theorem Sub.spec {l r : List Value} {o k : Nat} (h : Sub l o k r) : (l.drop o).take k = r ∧ r.length = k := by
  induction h with
  | nil => simp
  | take _ ih => simpa using ih
  | drop _ ih => simpa using ih
theorem Sub.get {l r : List Value} {o k : Nat} (h : Sub l o k r) (j : Nat) (v : Value) (hv : r[j]? = some v) : l[o + j]? = some v := by
  obtain ⟨h1, h2⟩ := h.spec
  rw [← h1] at hv
  rw [List.getElem?_take] at hv
  split at hv
  · simpa using hv
  · cases hv
def setAt : List Value → Nat → List Value → List Value
  | l, _, [] => l
  | l, o, v :: vs => setAt (l.set o v) (o + 1) vs
theorem setAt_length : ∀ (vs l : List Value) (o : Nat), (setAt l o vs).length = l.length
  | [], _, _ => rfl
  | v :: vs, l, o => by rw [setAt, setAt_length vs]; simp
/-- A block's cells are put in place of its old ones. -/
inductive MUpd : Mem → Nat → List Value → TypeId → List Value → Mem → Prop
  | hit {g : Nat} {cs cs' : List Value} {t : TypeId} {m : Mem} : MUpd ((g, cs, t) :: m) g cs t cs' ((g, cs', t) :: m)
  | miss {b : Nat × List Value × TypeId} {m m' : Mem} {g : Nat} {cs cs' : List Value} {t : TypeId} (h : MUpd m g cs t cs' m') : MUpd (b :: m) g cs t cs' (b :: m')
theorem MUpd.mem {m m' : Mem} {g : Nat} {cs cs' : List Value} {t : TypeId} (h : MUpd m g cs t cs' m') : (g, cs, t) ∈ m ∧ m'.map (·.1) = m.map (·.1) ∧ ∀ b ∈ m', b = (g, cs', t) ∨ b ∈ m := by
  induction h with
  | hit => exact ⟨List.mem_cons_self .., rfl, fun b hb => (List.mem_cons.1 hb).imp id (List.mem_cons_of_mem _)⟩
  | miss _ ih =>
    refine ⟨List.mem_cons_of_mem _ ih.1, by simp [ih.2.1], fun b hb => ?_⟩
    rcases List.mem_cons.1 hb with rfl | hb
    · exact .inr (List.mem_cons_self ..)
    · exact (ih.2.2 b hb).imp id (List.mem_cons_of_mem _)
theorem MUpd.new {m m' : Mem} {g : Nat} {cs cs' : List Value} {t : TypeId} (h : MUpd m g cs t cs' m') : (g, cs', t) ∈ m' := by
  induction h with
  | hit => exact List.mem_cons_self ..
  | miss _ ih => exact List.mem_cons_of_mem _ ih
theorem nodup_inj {m : Mem} (h : (m.map (·.1)).Nodup) {b b' : Nat × List Value × TypeId} (hb : b ∈ m) (hb' : b' ∈ m) (e : b.1 = b'.1) : b = b' := by
  induction m with
  | nil => cases hb
  | cons x m ih =>
    rw [List.map_cons, List.nodup_cons] at h
    rcases List.mem_cons.1 hb with rfl | hb1 <;> rcases List.mem_cons.1 hb' with rfl | hb2
    · rfl
    · exact absurd (List.mem_map.2 ⟨b', hb2, e.symm⟩) h.1
    · exact absurd (List.mem_map.2 ⟨b, hb1, e⟩) h.1
    · exact ih h.2 hb1 hb2
/-- What is in the new list and not the block itself was there, and is another block. -/
theorem MUpd.others {m m' : Mem} {g : Nat} {cs cs' : List Value} {t : TypeId} (h : MUpd m g cs t cs' m') (hn : (m.map (·.1)).Nodup) {b : Nat × List Value × TypeId} (hb : b ∈ m') (hne : b.1 ≠ g) : b ∈ m :=
  (h.mem.2.2 b hb).resolve_left (fun e => hne (by rw [e]))
theorem MUpd.self {m m' : Mem} {g : Nat} {cs cs' : List Value} {t : TypeId} (h : MUpd m g cs t cs' m') (hn : (m.map (·.1)).Nodup) {b : Nat × List Value × TypeId} (hb : b ∈ m') (he : b.1 = g) : b = (g, cs', t) := by
  have hn' : (m'.map (·.1)).Nodup := by rw [h.mem.2.1]; exact hn
  exact nodup_inj hn' hb h.new he
theorem MUpd.same {m m' : Mem} {g : Nat} {cs cs' : List Value} {t : TypeId} (h : MUpd m g cs t cs' m') : cs' = cs → m' = m := by
  induction h with
  | hit => exact fun he => by rw [he]
  | miss _ ih => exact fun he => by rw [ih he]
theorem MUpd.split {m m' : Mem} {g : Nat} {cs cs' : List Value} {t : TypeId} (h : MUpd m g cs t cs' m') (c1 : List Value) : ∃ m1, MUpd m g cs t c1 m1 ∧ MUpd m1 g c1 t cs' m' := by
  induction h with
  | hit => exact ⟨_, .hit, .hit⟩
  | miss _ ih => obtain ⟨m1, a, b⟩ := ih; exact ⟨_, .miss a, .miss b⟩
theorem Has.setCell {W w : World} {F : Nat → Prop} {m m' : Mem} {g o : Nat} {cs : List Value} {t : TypeId} {v : Value} (h : Has W F m w) (hu : MUpd m g cs t (cs.set o v) m') : Has W F m' (w.setCell ⟨g, o, none⟩ v) := by
  have hg := h.cells _ hu.mem.1
  have hown := h.own _ hu.mem.1
  refine ⟨⟨h.keep.os, h.keep.tape, h.keep.output, ?_, fun k hk hf => ?_⟩, fun b hb => ?_, fun b hb => ?_, by rw [hu.mem.2.1]; exact h.nodup⟩
  · simpa [World.setCell] using h.keep.size
  · have hne : k ≠ g := by rintro rfl; rcases hown with q | q; exact absurd hk (Nat.not_lt.2 q); exact hf q
    rw [heap_setCell_other w ⟨g, o, none⟩ k v hne]
    exact h.keep.block k hk hf
  · by_cases e : b.1 = g
    · rw [hu.self h.nodup hb e, heap_setCell_same w g o _ t v hg]
      simp
    · rw [heap_setCell_other w ⟨g, o, none⟩ b.1 v e]
      exact h.cells b (hu.others h.nodup hb e)
  · by_cases e : b.1 = g
    · rw [e]; exact hown
    · exact h.own b (hu.others h.nodup hb e)

section
variable {P : Program} {ops : Array Oper} {n : Nat} {C : World → Prop} {W : World} {F : Nat → Prop} {m m' : Mem} {L : Slots} {Q : Exit → Act → World → Prop} {K : Slots → Prop}
  {dst : Option Tmp} {ty : TypeId} {pos : String} {af : Array Edge} {gd : Option (Nat × Bool)} {x y z : Operand} {l : List Oper}
/-- A class of worlds in which the blocks are known, and that new memory does not leave. -/
class Cls (C : World → Prop) (W : outParam World) (F : outParam (Nat → Prop)) (m : outParam Mem) : Prop where
  has : ∀ w, C w → Has W F m w
  step : ∀ w w', C w → Below w.heap.size w w' → C w'
instance : Cls (Has W F m) W F m := ⟨fun _ h => h, fun _ _ h hb => h.step hb⟩
def HB (W : World) (F : Nat → Prop) (m : Mem) (W0 w : World) : Prop := Has W F m w ∧ Below W0.heap.size W0 w
theorem below_on {W0 w w' : World} (h : Below W0.heap.size W0 w) (hb : Below w.heap.size w w') : Below W0.heap.size W0 w' := h.trans (hb.mono h.size)
instance {W0 : World} : Cls (HB W F m W0) W F m := ⟨fun _ h => h.1, fun _ _ h hb => ⟨h.1.step hb, below_on h.2 hb⟩⟩
theorem y_run {o : Oper} {v : Value} (h : ∀ a, Holds n L a → ∀ w, C w → (execOp a.eval o).run P w = .ok (.value v) w) : Yld P n C L o v := fun a ha w hw => by
  unfold Oper.quietAt
  rw [h a ha w hw]
  exact ⟨rfl, rfl⟩
theorem y_move {v : Value} (hx : opv L x = some v) : Yld P n C L ⟨dst, .move x, ty, pos, af, gd⟩ v := fun a ha w hw => ⟨rfl, ev ha hx⟩
theorem y_assign {v : Value} (hx : opv L x = some v) : Yld P n C L ⟨dst, .assign x, ty, pos, af, gd⟩ v := fun a ha w hw => ⟨rfl, ev ha hx⟩
theorem y_pick {g : Bool} {v : Value} (hc : opv L x = some (.bool g)) (ht : g = true → opv L y = some v) (hf : g = false → opv L z = some v) : Yld P n C L ⟨dst, .pick x y z, ty, pos, af, gd⟩ v := y_run fun a ha w hw => by
  have h0 : a.eval x = .bool g := ev ha hc
  simp only [execOp, h0, asBool]
  cases g
  · simp [ev ha (hf rfl)]
  · simp [ev ha (ht rfl)]
theorem opv_gv {g : Bool} {v : Value} (h : opv L x = some (gv g v)) (hg : g = true) : opv L x = some v := by subst hg; exact h
/-- x && y -/
theorem y_and {g t : Bool} (hc : opv L x = some (.bool g)) (hy : opv L y = some (gv (g == true) (.bool t))) : Yld P n C L ⟨dst, .pick x y (.const (.bool false)), ty, pos, af, gd⟩ (.bool (g && t)) :=
  y_pick hc (fun e => by subst e; exact hy) (fun e => by subst e; rfl)
theorem y_or {g t : Bool} (hc : opv L x = some (.bool g)) (hz : opv L z = some (gv (g == false) (.bool t))) : Yld P n C L ⟨dst, .pick x (.const (.bool true)) z, ty, pos, af, gd⟩ (.bool (g || t)) :=
  y_pick hc (fun e => by subst e; rfl) (fun e => by subst e; exact hz)
theorem y_or_t (hc : opv L x = some (.bool true)) : Yld P n C L ⟨dst, .pick x (.const (.bool true)) z, ty, pos, af, gd⟩ (.bool true) := y_pick hc (fun _ => rfl) (fun e => by cases e)
theorem y_and_f (hc : opv L x = some (.bool false)) : Yld P n C L ⟨dst, .pick x y (.const (.bool false)), ty, pos, af, gd⟩ (.bool false) := y_pick hc (fun e => by cases e) (fun _ => rfl)
theorem y_or_te {g : Bool} (hc : opv L x = some (.bool g)) (hq : g = true) : Yld P n C L ⟨dst, .pick x (.const (.bool true)) z, ty, pos, af, gd⟩ (.bool true) := y_or_t (by rw [hc, hq])
theorem y_and_fe {g : Bool} (hc : opv L x = some (.bool g)) (hq : g = false) : Yld P n C L ⟨dst, .pick x y (.const (.bool false)), ty, pos, af, gd⟩ (.bool false) := y_and_f (by rw [hc, hq])
theorem y_un {u : UnOp} {v r : Value} (hx : opv L x = some v) (h : ∀ w, (Op.unary u v).run P w = .ok r w) : Yld P n C L ⟨dst, .unOp u ty x, ty, pos, af, gd⟩ r := y_run fun a ha w hw => by
  simp [execOp, ev ha hx, h]
theorem y_not {b : Bool} {t : TypeId} (hx : opv L x = some (.bool b)) : Yld P n C L ⟨dst, .unOp .not t x, ty, pos, af, gd⟩ (.bool (!b)) := y_run fun a ha w hw => by
  simp [execOp, ev ha hx, Op.unary]
theorem y_neg {k : IntKind} {b : Int} {t : TypeId} (hx : opv L x = some (.int k b)) : Yld P n C L ⟨dst, .unOp .neg t x, ty, pos, af, gd⟩ (.int k (k.wrap (0 - b))) := y_run fun a ha w hw => by
  cases k <;> simp [execOp, ev ha hx, Op.unary, Op.intArith]
theorem y_bin {op : BinOp} {t t' : TypeId} {v u r : Value} (hx : opv L x = some v) (hy : opv L y = some u) (h : ∀ w, (do eqGuard op t x y v u; binOp op t v u : Sem Value).run P w = .ok r w) : Yld P n C L ⟨dst, .binOp op t x y t', ty, pos, af, gd⟩ r := y_run fun a ha w hw => by
  have := h w
  simp only [execOp, ev ha hx, ev ha hy]
  rw [Sem.run_bind, this]
  rfl
theorem y_eq {k : IntKind} {t t' : TypeId} {a b : Int} (hx : opv L x = some (.int k a)) (hy : opv L y = some (.int k b)) : Yld P n C L ⟨dst, .binOp .eql t x y t', ty, pos, af, gd⟩ (.bool (a == b)) := y_bin hx hy fun w => by
  cases k <;> simp [eqGuard, binOp, Op.intCmp]
theorem y_ne {k : IntKind} {t t' : TypeId} {a b : Int} (hx : opv L x = some (.int k a)) (hy : opv L y = some (.int k b)) : Yld P n C L ⟨dst, .binOp .neq t x y t', ty, pos, af, gd⟩ (.bool (a != b)) := y_bin hx hy fun w => by
  cases k <;> simp [eqGuard, binOp, Op.intCmp]
theorem y_lt {k : IntKind} {t t' : TypeId} {a b : Int} (hx : opv L x = some (.int k a)) (hy : opv L y = some (.int k b)) : Yld P n C L ⟨dst, .binOp .lss t x y t', ty, pos, af, gd⟩ (.bool (decide (a < b))) := y_bin hx hy fun w => by
  cases k <;> simp [eqGuard, binOp, Op.intCmp]
theorem y_le {k : IntKind} {t t' : TypeId} {a b : Int} (hx : opv L x = some (.int k a)) (hy : opv L y = some (.int k b)) : Yld P n C L ⟨dst, .binOp .leq t x y t', ty, pos, af, gd⟩ (.bool (decide (a ≤ b))) := y_bin hx hy fun w => by
  cases k <;> simp [eqGuard, binOp, Op.intCmp]
theorem y_gt {k : IntKind} {t t' : TypeId} {a b : Int} (hx : opv L x = some (.int k a)) (hy : opv L y = some (.int k b)) : Yld P n C L ⟨dst, .binOp .gtr t x y t', ty, pos, af, gd⟩ (.bool (decide (a > b))) := y_bin hx hy fun w => by
  cases k <;> simp [eqGuard, binOp, Op.intCmp]
theorem y_ge {k : IntKind} {t t' : TypeId} {a b : Int} (hx : opv L x = some (.int k a)) (hy : opv L y = some (.int k b)) : Yld P n C L ⟨dst, .binOp .geq t x y t', ty, pos, af, gd⟩ (.bool (decide (a ≥ b))) := y_bin hx hy fun w => by
  cases k <;> simp [eqGuard, binOp, Op.intCmp]
theorem y_add {k : IntKind} {t t' : TypeId} {a b : Int} (hx : opv L x = some (.int k a)) (hy : opv L y = some (.int k b)) : Yld P n C L ⟨dst, .binOp .add t x y t', ty, pos, af, gd⟩ (.int k (k.wrap (a + b))) := y_bin hx hy fun w => by
  cases k <;> simp [eqGuard, binOp, Op.intArith]
theorem y_sub {k : IntKind} {t t' : TypeId} {a b : Int} (hx : opv L x = some (.int k a)) (hy : opv L y = some (.int k b)) : Yld P n C L ⟨dst, .binOp .sub t x y t', ty, pos, af, gd⟩ (.int k (k.wrap (a - b))) := y_bin hx hy fun w => by
  cases k <;> simp [eqGuard, binOp, Op.intArith]
theorem y_mul {k : IntKind} {t t' : TypeId} {a b : Int} (hx : opv L x = some (.int k a)) (hy : opv L y = some (.int k b)) : Yld P n C L ⟨dst, .binOp .mul t x y t', ty, pos, af, gd⟩ (.int k (k.wrap (a * b))) := y_bin hx hy fun w => by
  cases k <;> simp [eqGuard, binOp, Op.intArith]
theorem y_quo {k : IntKind} {t t' : TypeId} {a b : Int} (hx : opv L x = some (.int k a)) (hy : opv L y = some (.int k b)) (h0 : b ≠ 0) : Yld P n C L ⟨dst, .binOp .quo t x y t', ty, pos, af, gd⟩ (.int k (k.wrap (a.tdiv b))) := y_bin hx hy fun w => by
  cases k <;> simp [eqGuard, binOp, Op.intDiv, h0]
theorem y_rem {k : IntKind} {t t' : TypeId} {a b : Int} (hx : opv L x = some (.int k a)) (hy : opv L y = some (.int k b)) (h0 : b ≠ 0) : Yld P n C L ⟨dst, .binOp .rem t x y t', ty, pos, af, gd⟩ (.int k (a.tmod b)) := y_bin hx hy fun w => by
  cases k <;> simp [eqGuard, binOp, Op.intDiv, h0]
theorem y_shr {k yk : IntKind} {t t' : TypeId} {a b : Int} (hx : opv L x = some (.int k a)) (hy : opv L y = some (.int yk b)) (h0 : 0 ≤ b ∧ b ≤ k.bits) : Yld P n C L ⟨dst, .binOp .shr t x y t', ty, pos, af, gd⟩ (.int k (a / 2 ^ b.toNat)) := y_bin hx hy fun w => by
  rw [binOp_shr, shift_shr k yk a b h0.1 h0.2]
  rfl
theorem y_shl {k yk : IntKind} {t t' : TypeId} {a b : Int} (hx : opv L x = some (.int k a)) (hy : opv L y = some (.int yk b)) (h0 : 0 ≤ b ∧ b ≤ k.bits) : Yld P n C L ⟨dst, .binOp .shl t x y t', ty, pos, af, gd⟩ (.int k (k.wrap (a * 2 ^ b.toNat))) := y_bin hx hy fun w => by
  rw [binOp_shl, shift_shl k yk a b h0.1 h0.2]
  rfl
theorem y_band {k : IntKind} {t t' : TypeId} {a b : Int} (hx : opv L x = some (.int k a)) (hy : opv L y = some (.int k b)) : Yld P n C L ⟨dst, .binOp .and t x y t', ty, pos, af, gd⟩ (.int k (bits .and k a b)) := y_bin hx hy fun w => by
  rw [binOp_and]; rfl
theorem y_bor {k : IntKind} {t t' : TypeId} {a b : Int} (hx : opv L x = some (.int k a)) (hy : opv L y = some (.int k b)) : Yld P n C L ⟨dst, .binOp .or t x y t', ty, pos, af, gd⟩ (.int k (bits .or k a b)) := y_bin hx hy fun w => by
  rw [binOp_or]; rfl
theorem y_bxor {k : IntKind} {t t' : TypeId} {a b : Int} (hx : opv L x = some (.int k a)) (hy : opv L y = some (.int k b)) : Yld P n C L ⟨dst, .binOp .xor t x y t', ty, pos, af, gd⟩ (.int k (bits .xor k a b)) := y_bin hx hy fun w => by
  rw [binOp_xor]; rfl
theorem y_conv {k k' : IntKind} {s t : TypeId} {a : Int} (hx : opv L x = some (.int k a)) (hs : (P.underlying s).isSome = true) (hd : P.underlying t = some (.int k')) : Yld P n C L ⟨dst, .convert s t x, ty, pos, af, gd⟩ (.int k' (k'.wrap a)) := y_run fun ac ha w hw => by
  have e : P.intKind t = k' := by unfold Program.intKind; rw [hd]
  have := run_convert_int w s t k a hs (by rw [e]; exact hd)
  rw [e] at this
  simp [execOp, ev ha hx, this]
theorem run_equal_bool {t : TypeId} (ht : P.underlying t = some .bool) (a b : Bool) (w : World) : (Op.equal t (.bool a) (.bool b)).run P w = .ok (a == b) w := by
  have e : Op.maxDepth = 9999 + 1 := rfl
  unfold Op.equal
  rw [e, Op.equalIn, Sem.run_bind, run_underlying ht w]
  rfl
theorem y_beq {t t' : TypeId} {a b : Bool} (ht : P.underlying t = some .bool) (hx : opv L x = some (.bool a)) (hy : opv L y = some (.bool b)) : Yld P n C L ⟨dst, .binOp .eql t x y t', ty, pos, af, gd⟩ (.bool (a == b)) := y_bin hx hy fun w => by
  show (do pure (.bool (← Op.equal t (.bool a) (.bool b))) : Sem Value).run P w = _
  rw [Sem.run_bind, run_equal_bool ht]; rfl
theorem y_bne {t t' : TypeId} {a b : Bool} (ht : P.underlying t = some .bool) (hx : opv L x = some (.bool a)) (hy : opv L y = some (.bool b)) : Yld P n C L ⟨dst, .binOp .neq t x y t', ty, pos, af, gd⟩ (.bool (a != b)) := y_bin hx hy fun w => by
  show (do pure (.bool (!(← Op.equal t (.bool a) (.bool b)))) : Sem Value).run P w = _
  rw [Sem.run_bind, run_equal_bool ht]; rfl
theorem y_extract {vs : Array Value} {i : Nat} {v : Value} (hx : opv L x = some (.tuple vs)) (hi : At vs.toList i v) : Yld P n C L ⟨dst, .extract x i, ty, pos, af, gd⟩ v := y_run fun a ha w hw => by
  have hg : vs[i]? = some v := by have := hi.get; simpa using this
  simp [execOp, ev ha hx, Instr.extract, hg]
theorem y_field {t : TypeId} {f : Nat} {v r : Value} (hx : opv L x = some v) (h : ∀ w, (Instr.field t v f).run P w = .ok r w) : Yld P n C L ⟨dst, .field t x f, ty, pos, af, gd⟩ r := y_run fun a ha w hw => by
  simp only [execOp, ev ha hx]
  rw [Sem.run_bind, h w]
  rfl
/-- A type of structs or arrays, of so many cells. -/
def aggB (P : Program) (ty : TypeId) (k : Nat) : Bool := match P.underlying ty with
  | some (.struct _) | some (.array _ _) => ((P.info? ty).map (·.size)) == some k
  | _ => false
def scalB (P : Program) (ty : TypeId) : Bool := match P.underlying ty with
  | some (.struct _) | some (.array _ _) | none => false
  | _ => true
theorem aggB_spec {k : Nat} (h : aggB P ty k = true) : ∃ d, P.underlying ty = some d ∧ d.isRow = true ∧ (P.info? ty).map (·.size) = some k := by
  unfold aggB at h
  cases hu : P.underlying ty with
  | none => rw [hu] at h; cases h
  | some d => rw [hu] at h; cases d <;> simp at h <;> exact ⟨_, rfl, rfl, by simpa using h⟩
theorem scalB_spec (h : scalB P ty = true) (w : World) : (isAgg ty).run P w = .ok false w := by
  unfold scalB at h
  cases hu : P.underlying ty with
  | none => rw [hu] at h; cases h
  | some d =>
    rw [hu] at h
    unfold isAgg
    rw [Sem.run_bind, run_underlying hu w]
    cases d <;> simp_all
/-- How many cells a type of structs or arrays has. -/
class AggT (P : Program) (ty : TypeId) (k : outParam Nat) : Prop where
  ok : aggB P ty k = true
theorem y_load {g o k : Nat} {cs r : List Value} {t : TypeId} [hk : AggT P ty k] [hcl : Cls C W F m] (hx : opv L x = some (.pointer (some ⟨g, o, none⟩))) (hm : (g, cs, t) ∈ m) (hr : Sub cs o k r) : Yld P n C L ⟨dst, .load ty x, ty, pos, af, gd⟩ (.agg r.toArray) := y_run fun a ha w hw => by
  obtain ⟨d, hu, hd, hi⟩ := aggB_spec hk.ok
  have hg := (hcl.has w hw).cells _ hm
  have hl := run_loadVar_mid (P := P) w g o ty r d (fun j v hv => by rw [cell_of_row w g _ _ _ _ hg]; simpa using hr.get j v hv) hu hd (by rw [hr.spec.2]; exact hi)
  simp [execOp, ev ha hx, Instr.loadAt, Instr.sureAddr, hl]
theorem run_part_agg {t : TypeId} {o k : Nat} {cs r : List Value} (hk : aggB P t k = true) (hr : Sub cs o k r) (w : World) : (part t cs.toArray o).run P w = .ok (.agg r.toArray) w := by
  obtain ⟨d, hu, hd, hi⟩ := aggB_spec hk
  have h1 : (isAgg t).run P w = .ok true w := by
    unfold isAgg
    rw [Sem.run_bind, run_underlying hu w]
    cases d <;> simp_all
  have h2 : (sizeOf t).run P w = .ok k w := by
    cases hq : P.info? t with
    | none => rw [hq] at hi; cases hi
    | some i => rw [hq] at hi; simp at hi; simp [sizeOf, typeInfo, hq, hi]
  unfold part
  rw [Sem.run_bind, h1]
  simp only [Result.andThen_ok, if_true, Sem.run_bind, h2, Sem.run_pure]
  have e := hr.spec.1
  have e2 : cs.toArray.extract o (o + k) = r.toArray := by
    rw [List.extract_toArray, List.extract_eq_take_drop, Nat.add_sub_cancel_left, e]
  rw [e2]
theorem run_part_cell {t : TypeId} {o : Nat} {cs : List Value} {v : Value} (hk : scalB P t = true) (hr : At cs o v) (w : World) : (part t cs.toArray o).run P w = .ok v w := by
  unfold part
  rw [Sem.run_bind, scalB_spec hk w]
  have e := hr.get
  simp [e]
/-- A struct type's field: where it lies, its type. -/
class FldT (P : Program) (t : TypeId) (f : Nat) (off ft : outParam Nat) : Prop where
  ok : ((match P.underlying t with | some (.struct fs) => fs[f]? | _ => none : Option Field).map fun x => (x.offset, x.type)) = some (off, ft)
theorem run_field {t : TypeId} {f off ft : Nat} {cs : Array Value} {r : Value} [hf : FldT P t f off ft] (w : World) (h : (part ft cs off).run P w = .ok r w) : (Instr.field t (.agg cs) f).run P w = .ok r w := by
  have h0 := hf.ok
  unfold Instr.field
  cases hu : P.underlying t with
  | none => rw [hu] at h0; cases h0
  | some d =>
    rw [hu] at h0
    cases d <;> first | cases h0 | skip
    rename_i fs
    dsimp only at h0
    rw [Sem.run_bind, run_underlying hu w]
    cases hx : fs[f]? with
    | none => rw [hx] at h0; cases h0
    | some x =>
      rw [hx] at h0
      simp only [Option.map_some, Option.some.injEq, Prod.mk.injEq] at h0
      obtain ⟨rfl, rfl⟩ := h0
      simp [hx, asAgg, h]
theorem y_fagg {t : TypeId} {f off ft k : Nat} {cs r : List Value} [hf : FldT P t f off ft] [hk : AggT P ft k] (hx : opv L x = some (.agg cs.toArray)) (hr : Sub cs off k r) : Yld P n C L ⟨dst, .field t x f, ty, pos, af, gd⟩ (.agg r.toArray) :=
  y_field hx fun w => run_field w (run_part_agg hk.ok hr w)
theorem y_fcell {t : TypeId} {f off ft : Nat} {cs : List Value} {v : Value} [hf : FldT P t f off ft] (hk : scalB P ft = true) (hx : opv L x = some (.agg cs.toArray)) (hr : At cs off v) : Yld P n C L ⟨dst, .field t x f, ty, pos, af, gd⟩ v :=
  y_field hx fun w => run_field w (run_part_cell hk hr w)
/-- A field that has cells, seen from its struct's address. -/
theorem y_faddr {t : TypeId} {f off ft : Nat} {g o : Nat} [hf : FldT P t f off ft] (hk : ((P.info? ft).map fun i => Nat.beq i.size 0) = some false) (hx : opv L x = some (.pointer (some ⟨g, o, none⟩))) : Yld P n C L ⟨dst, .fieldAddr t x f, ty, pos, af, gd⟩ (.pointer (some ⟨g, o + off, none⟩)) := y_run fun a ha w hw => by
  have h0 := hf.ok
  cases hu : P.underlying t with
  | none => rw [hu] at h0; cases h0
  | some d =>
    rw [hu] at h0
    cases d <;> first | cases h0 | skip
    rename_i fs
    dsimp only at h0
    cases hq : fs[f]? with
    | none => rw [hq] at h0; cases h0
    | some y =>
      rw [hq] at h0
      simp only [Option.map_some, Option.some.injEq, Prod.mk.injEq] at h0
      obtain ⟨rfl, rfl⟩ := h0
      cases hi : P.info? y.type with
      | none => rw [hi] at hk; cases hk
      | some i =>
        rw [hi] at hk
        have hne : i.size ≠ 0 := by intro e; simp [e] at hk
        have hp : (fieldPlace ⟨g, o, none⟩ y).run P w = .ok ⟨g, o + y.offset, none⟩ w := by
          have ha : (Addr.add ⟨g, o, none⟩ y.offset) = ⟨g, o + y.offset, none⟩ := Addr.add_mid ..
          simp [fieldPlace, sizeOf, typeInfo, hi, hne, ha]
        simp [execOp, ev ha hx, Instr.fieldAt, run_underlying hu w, hq, Instr.sureAddr, hp]
theorem y_cell {g o : Nat} {cs : List Value} {t : TypeId} {v : Value} [hcl : Cls C W F m] (hx : opv L x = some (.pointer (some ⟨g, o, none⟩))) (hm : (g, cs, t) ∈ m) (hr : At cs o v) (hk : scalB P ty = true) : Yld P n C L ⟨dst, .load ty x, ty, pos, af, gd⟩ v := y_run fun a ha w hw => by
  have hg := (hcl.has w hw).cells _ hm
  have hc : w.cell? ⟨g, o, none⟩ = some v := by rw [cell_of_row w g _ _ _ _ hg]; simpa using hr.get
  simp [execOp, ev ha hx, Instr.loadAt, Instr.sureAddr, loadVar, scalB_spec hk, hc]
/-- A call whose answer is known in every world (of the class). -/
theorem y_call {f : FuncId} {fn : Func} {xs : Array Operand} {ts : Array TypeId} {vs : List Value} {v : Value} (hf : P.funcs[f]? = some fn) (hq : ((fn.name == "runtime.NumGoroutine") || !fn.body.isSome) = false) (hv : opvs L xs.toList = some vs)
    (h : ∀ w, C w → Calls P f vs.toArray w fun e w' => e = .returned v ∧ C w') : Yld P n C L ⟨dst, .call { callee := .value (.func f), args := xs, argTypes := ts }, ty, pos, af, gd⟩ v := fun a ha w hw => by
  have hname : (fn.name == "runtime.NumGoroutine") = false := by cases q : fn.name == "runtime.NumGoroutine" <;> simp_all
  have hb : fn.body.isSome = true := by cases q : fn.body.isSome <;> simp_all
  obtain ⟨c, hc⟩ := Option.isSome_iff_exists.1 hb
  have h1 : fn.name ≠ "runtime.NumGoroutine" := by simpa using hname
  have hargs : xs.map a.eval = vs.toArray := by
    have := evs ha hv
    apply Array.toList_inj.1
    simpa using this
  unfold Oper.quietAt
  have hrun : (execOp a.eval ⟨dst, .call { callee := .value (.func f), args := xs, argTypes := ts }, ty, pos, af, gd⟩).run P w = .ok (.enter f vs.toArray) w := by
    simp [execOp, resolve, Deferred.ofValue, invoke, Act.eval, hargs, callFunc, hf, h1, hc]
  rw [hrun]
  exact ⟨rfl, h w hw⟩
/-- What a function answers, whatever the world. -/
def Cal (P : Program) (f : FuncId) (vs : List Value) (v : Value) : Prop := ∀ w, Calls P f vs.toArray w fun e w' => e = .returned v ∧ Below w.heap.size w w'
theorem Cal.mk {f : FuncId} {vs : List Value} {v : Value} (h : ∀ w, Calls P f vs.toArray w fun e w' => e = .returned v ∧ Below w.heap.size w w') : Cal P f vs v := h
theorem Cal.out {f : FuncId} {vs : List Value} {v : Value} (h : Cal P f vs v) : ∀ w, Calls P f vs.toArray w fun e w' => e = .returned v ∧ Below w.heap.size w w' := h
theorem y_calls [hcl : Cls C W F m] {f : FuncId} {fn : Func} {xs : Array Operand} {ts : Array TypeId} {vs : List Value} {v : Value} (hf : P.funcs[f]? = some fn) (hq : ((fn.name == "runtime.NumGoroutine") || !fn.body.isSome) = false) (hv : opvs L xs.toList = some vs)
    (h : Cal P f vs v) : Yld P n C L ⟨dst, .call { callee := .value (.func f), args := xs, argTypes := ts }, ty, pos, af, gd⟩ v :=
  y_call hf hq hv fun w hw => (h w).mono fun e w' ⟨he, hb⟩ => ⟨he, hcl.step _ _ hw hb⟩

/-- A value's cells. -/
inductive Cells : Value → List Value → Prop
  | agg {l : List Value} : Cells (.agg l.toArray) l
  | int {k : IntKind} {x : Int} : Cells (.int k x) [.int k x]
  | bool {b : Bool} : Cells (.bool b) [.bool b]
  | string {b : ByteArray} : Cells (.string b) [.string b]
  | pointer {a : Option Addr} : Cells (.pointer a) [.pointer a]
  | slice {a : Option Addr} {n c : Nat} : Cells (.slice a n c) [.slice a n c]
  | func {f : Fn} {a b : Array Value} : Cells (.func f a b) [.func f a b]
  | map {r : Option Nat} : Cells (.map r) [.map r]
theorem Cells.spec {v : Value} {l : List Value} (h : Cells v l) : v.cells.toList = l := by cases h <;> rfl
/-- A type's zero. -/
class ZeroT (P : Program) (t : TypeId) (cs : outParam (List Value)) : Prop where
  ok : ((P.info? t).bind (·.zero)).map (fun v => v.cells.toList) = some cs
/-- The least and the greatest of two. -/
def mn2 (a b : Int) : Int := if b < a then b else a
def mx2 (a b : Int) : Int := if a < b then b else a
theorem y_min2 {k : IntKind} {a b : Int} {xs : Array Operand} {ts : Array TypeId} (hv : opvs L xs.toList = some [.int k a, .int k b]) : Yld P n C L ⟨dst, .call { callee := .builtin .min, args := xs, argTypes := ts }, ty, pos, af, gd⟩ (.int k (mn2 a b)) := y_run fun a' ha w hw => by
  have hargs : xs.map a'.eval = #[.int k a, .int k b] := by apply Array.toList_inj.1; simpa using evs ha hv
  simp [execOp, resolve, invoke, builtin, hargs, Builtin.min_, Builtin.min2, mn2]
theorem y_min3 {k : IntKind} {a b c : Int} {xs : Array Operand} {ts : Array TypeId} (hv : opvs L xs.toList = some [.int k a, .int k b, .int k c]) : Yld P n C L ⟨dst, .call { callee := .builtin .min, args := xs, argTypes := ts }, ty, pos, af, gd⟩ (.int k (mn2 (mn2 a b) c)) := y_run fun a' ha w hw => by
  have hargs : xs.map a'.eval = #[.int k a, .int k b, .int k c] := by apply Array.toList_inj.1; simpa using evs ha hv
  simp [execOp, resolve, invoke, builtin, hargs, Builtin.min_, Builtin.min2, mn2]
  try rfl
theorem y_max2 {k : IntKind} {a b : Int} {xs : Array Operand} {ts : Array TypeId} (hv : opvs L xs.toList = some [.int k a, .int k b]) : Yld P n C L ⟨dst, .call { callee := .builtin .max, args := xs, argTypes := ts }, ty, pos, af, gd⟩ (.int k (mx2 a b)) := y_run fun a' ha w hw => by
  have hargs : xs.map a'.eval = #[.int k a, .int k b] := by apply Array.toList_inj.1; simpa using evs ha hv
  simp [execOp, resolve, invoke, builtin, hargs, Builtin.max_, Builtin.max2, mx2]
/-- A struct out of its parts: the zero's cells, each part's put in. -/
inductive Bld (P : Program) (t : TypeId) (L : Slots) : List Value → List (Nat × Operand) → List Value → Prop
  | nil {z : List Value} : Bld P t L z [] z
  | cons {z z' r vs : List Value} {f off ft : Nat} {x : Operand} {v : Value} {l : List (Nat × Operand)} (hf : FldT P t f off ft) (hx : opv L x = some v) (hc : Cells v vs) (hk : ((P.info? ft).map fun i => Nat.beq vs.length i.size && Nat.ble (off + vs.length) z.length) = some true) (hs : setAt z off vs = z') (h : Bld P t L z' l r) : Bld P t L z ((f, x) :: l) r
theorem setAt_foldl : ∀ (vs z : List Value) (o j : Nat), ((vs.zipIdx j).foldl (fun (cs : Array Value) (p : Value × Nat) => cs.setIfInBounds (o + p.2) p.1) z.toArray) = (setAt z (o + j) vs).toArray
  | [], z, o, j => rfl
  | v :: vs, z, o, j => by
    rw [List.zipIdx_cons, List.foldl_cons, setAt]
    have e : z.toArray.setIfInBounds (o + j) v = (z.set (o + j) v).toArray := by simp
    show List.foldl _ (z.toArray.setIfInBounds (o + j) v) _ = _
    rw [e, setAt_foldl vs (z.set (o + j) v) o (j + 1), Nat.add_assoc]
theorem run_fill {t : TypeId} {fs : Array Field} {places : Array (Nat × Nat)} {a : Act} (ha : Holds n L a) (hu : P.underlying t = some (.struct fs)) (hp : ∀ (f : Nat) (x : Field), fs[f]? = some x → ∃ i, P.info? x.type = some i ∧ places[f]? = some (x.offset, i.size)) :
    ∀ {z r : List Value} {l : List (Nat × Operand)}, Bld P t L z l r → Instr.fill (places[·]?) z.toArray (l.map fun p => (p.1, a.eval p.2)) = some r.toArray := by
  intro z r l h
  induction h with
  | nil => rfl
  | @cons z z' r vs f off ft x v l hf hx hc hk hs h ih =>
    have h0 := hf.ok
    rw [hu] at h0
    dsimp only at h0
    cases hq : fs[f]? with
    | none => rw [hq] at h0; cases h0
    | some y =>
      rw [hq] at h0
      simp only [Option.map_some, Option.some.injEq, Prod.mk.injEq] at h0
      obtain ⟨rfl, rfl⟩ := h0
      obtain ⟨i, hi, hpl⟩ := hp f y hq
      rw [hi] at hk
      simp only [Option.map_some, Option.some.injEq, Bool.and_eq_true] at hk
      have k1 := Nat.eq_of_beq_eq_true hk.1
      have k2 := Nat.le_of_ble_eq_true hk.2
      have hcs := hc.spec
      have hsz : v.cells.size = vs.length := by rw [← hcs]; simp
      simp only [List.map_cons, Instr.fill, ev ha hx, hpl]
      rw [if_neg (by simp; omega)]
      have e : (v.cells.zipIdx.foldl (fun (cs : Array Value) (p : Value × Nat) => cs.setIfInBounds (y.offset + p.2) p.1) z.toArray) = z'.toArray := by
        rw [← hs, ← hcs, ← Array.foldl_toList, Array.toList_zipIdx]
        exact setAt_foldl _ z y.offset 0
      rw [e]
      exact ih
theorem y_build {t : TypeId} {z r : List Value} {ps : Array (Nat × Operand)} [hz : ZeroT P t z] (hs : (match P.underlying t with | some (.struct fs) => fs.all fun f => (P.info? f.type).isSome | _ => false) = true) (h : Bld P t L z ps.toList r) : Yld P n C L ⟨dst, .build t ps, ty, pos, af, gd⟩ (.agg r.toArray) := y_run fun a ha w hw => by
  cases hu : P.underlying t with
  | none => rw [hu] at hs; cases hs
  | some d =>
    rw [hu] at hs
    cases d <;> first | cases hs | skip
    rename_i fs
    dsimp only at hs
    have hz0 := hz.ok
    cases hi : P.info? t with
    | none => rw [hi] at hz0; cases hz0
    | some i =>
      cases hq : i.zero with
      | none => rw [hi] at hz0; simp [hq] at hz0
      | some zv =>
        rw [hi] at hz0
        simp only [Option.bind_some, hq, Option.map_some, Option.some.injEq] at hz0
        have hzc : zv.cells = z.toArray := by rw [← hz0]
        have hmap : ∀ (l : List Field), (∀ f ∈ l, (P.info? f.type).isSome = true) → ∃ pl : List (Nat × Nat), (l.mapM (fun f => do pure (f.offset, ← sizeOf f.type) : Field → Sem (Nat × Nat))).run P w = .ok pl w ∧ ∀ (j : Nat) (x : Field), l[j]? = some x → ∃ i, P.info? x.type = some i ∧ pl[j]? = some (x.offset, i.size) := by
          intro l
          induction l with
          | nil => exact fun _ => ⟨[], rfl, fun j x hx => by cases hx⟩
          | cons f l ih =>
            intro hl
            obtain ⟨pl, h1, h2⟩ := ih (fun g hg => hl g (List.mem_cons_of_mem _ hg))
            obtain ⟨fi, hfi⟩ := Option.isSome_iff_exists.1 (hl f (List.mem_cons_self ..))
            refine ⟨(f.offset, fi.size) :: pl, ?_, fun j x hx => ?_⟩
            · have hsz : (sizeOf f.type).run P w = .ok fi.size w := by simp [sizeOf, typeInfo, hfi]
              have h0 : (do pure (f.offset, ← sizeOf f.type) : Sem (Nat × Nat)).run P w = .ok (f.offset, fi.size) w := by rw [Sem.run_bind, hsz]; rfl
              rw [List.mapM_cons, Sem.run_bind, h0]
              simp only [Result.andThen_ok, Sem.run_bind, h1, Sem.run_pure]
            · cases j with
              | zero => simp at hx; subst hx; exact ⟨fi, hfi, rfl⟩
              | succ j => simpa using h2 j x (by simpa using hx)
        obtain ⟨pl, h1, h2⟩ := hmap fs.toList (fun f hf => by simpa using (Array.all_eq_true_iff_forall_mem.1 hs) f (by simpa using hf))
        have hfill := run_fill (places := pl.toArray) ha hu (fun f x hx => by obtain ⟨i, q1, q2⟩ := h2 f x (by simpa using hx); exact ⟨i, q1, by simpa using q2⟩) h
        have hm2 : (fs.mapM (fun f => do pure (f.offset, ← sizeOf f.type) : Field → Sem (Nat × Nat))).run P w = .ok pl.toArray w := by
          rw [Array.mapM_eq_mapM_toList, Sem.run_map, h1]; rfl
        have hps : (ps.map fun (i, x) => (i, a.eval x)).toList = ps.toList.map fun p => (p.1, a.eval p.2) := by simp
        simp only [execOp]
        rw [Sem.run_bind]
        have hb : (Instr.build t (ps.map fun (i, x) => (i, a.eval x))).run P w = .ok (.agg r.toArray) w := by
          unfold Instr.build
          simp only [Sem.run_bind, zeroValue, typeInfo, program, Sem.run, hi, hq, Sem.run_pure, Result.andThen_ok, run_underlying hu w, hm2, hps, hzc, hfill]
        rw [hb]
        rfl
/-- Two values of a struct type are compared so. -/
class EqT (P : Program) (t : TypeId) (xs ys : Array Value) (r : outParam Bool) : Prop where
  run : ∀ d w, (Op.equalIn (d + 9) t (.agg xs) (.agg ys)).run P w = .ok r w
theorem eq_int {t : TypeId} {k : IntKind} (hu : P.underlying t = some (.int k)) (d : Nat) (a b : Int) (w : World) : (Op.equalIn (d + 1) t (.int k a) (.int k b)).run P w = .ok (a == b) w := by
  rw [Op.equalIn, Sem.run_bind, run_underlying hu w]
  simp
theorem eq_bool {t : TypeId} (hu : P.underlying t = some .bool) (d : Nat) (a b : Bool) (w : World) : (Op.equalIn (d + 1) t (.bool a) (.bool b)).run P w = .ok (a == b) w := by
  rw [Op.equalIn, Sem.run_bind, run_underlying hu w]
  rfl
section
variable {xs ys : Array Value} {f : Field} {fs : List Field} {a b : Value} {r s : Bool} {d : Nat} {w : World}
theorem eqf_last (hn : (f.name == "_") = false) (ha : (part f.type xs f.offset).run P w = .ok a w) (hb : (part f.type ys f.offset).run P w = .ok b w) (he : (Op.equalIn d f.type a b).run P w = .ok r w) : (Op.eqFields d xs ys [f]).run P w = .ok r w := by
  have hn' : f.name ≠ "_" := by simpa using hn
  simp only [Op.eqFields, if_pos hn', Sem.run_bind, ha, hb, he, Result.andThen_ok]
  cases r <;> simp
theorem eqf_cons (hn : (f.name == "_") = false) (ha : (part f.type xs f.offset).run P w = .ok a w) (hb : (part f.type ys f.offset).run P w = .ok b w) (he : (Op.equalIn d f.type a b).run P w = .ok r w) (hr : (Op.eqFields d xs ys fs).run P w = .ok s w) : (Op.eqFields d xs ys (f :: fs)).run P w = .ok (r && s) w := by
  have hn' : f.name ≠ "_" := by simpa using hn
  rw [Op.eqFields]
  simp only [if_pos hn', Sem.run_bind, ha, hb, he, Result.andThen_ok]
  cases r
  · simp
  · simpa using hr
theorem eq_struct {t : TypeId} {fs : Array Field} (hu : P.underlying t = some (.struct fs)) (hp : P.stoodInHeld t = false) (h : (Op.eqFields d xs ys fs.toList).run P w = .ok r w) : (Op.equalIn (d + 1) t (.agg xs) (.agg ys)).run P w = .ok r w := by
  have hf : P.fieldsOf t = fs := by simp [Program.fieldsOf, hu]
  rw [run_equalIn_struct (P := P) w d t xs ys (by rw [hf]; exact hu) hp, hf]
  exact h
end
theorem run_eqs {t : TypeId} {xs ys : Array Value} {r : Bool} (hg : P.eqGuardType P.depth t = false) [he : EqT P t xs ys r] {op : BinOp} (w : World) : (do eqGuard op t x y (.agg xs) (.agg ys); pure (.bool (← Op.equal t (.agg xs) (.agg ys))) : Sem Value).run P w = .ok (.bool r) w := by
  have h1 : (eqGuard op t x y (.agg xs) (.agg ys)).run P w = .ok () w := by
    unfold eqGuard
    cases op <;> simp [program, Sem.run, hg]
  have h2 : (Op.equal t (.agg xs) (.agg ys)).run P w = .ok r w := he.run 9991 w
  simp [Sem.run_bind, h1, h2]
theorem y_eqs {t t' : TypeId} {xs ys : Array Value} {r : Bool} (hx : opv L x = some (.agg xs)) (hy : opv L y = some (.agg ys)) (hg : P.eqGuardType P.depth t = false) (he : EqT P t xs ys r) : Yld P n C L ⟨dst, .binOp .eql t x y t', ty, pos, af, gd⟩ (.bool r) := y_bin hx hy fun w => run_eqs hg w
theorem y_nes {t t' : TypeId} {xs ys : Array Value} {r : Bool} (hx : opv L x = some (.agg xs)) (hy : opv L y = some (.agg ys)) (hg : P.eqGuardType P.depth t = false) (he : EqT P t xs ys r) : Yld P n C L ⟨dst, .binOp .neq t x y t', ty, pos, af, gd⟩ (.bool (!r)) := y_bin hx hy fun w => by
  have h := run_eqs (P := P) (x := x) (y := y) (xs := xs) (ys := ys) (r := r) hg (op := .neq) w
  have e : (do eqGuard .neq t x y (.agg xs) (.agg ys); binOp .neq t (.agg xs) (.agg ys) : Sem Value) = (do eqGuard .neq t x y (.agg xs) (.agg ys); pure (.bool (!(← Op.equal t (.agg xs) (.agg ys))))) := rfl
  rw [e]
  simp only [Sem.run_bind] at h ⊢
  cases h1 : (eqGuard .neq t x y (.agg xs) (.agg ys)).run P w with
  | halt q w' => rw [h1] at h; cases h
  | ok u w' =>
    rw [h1] at h
    simp only [Result.andThen_ok] at h ⊢
    cases h2 : (Op.equal t (.agg xs) (.agg ys)).run P w' with
    | halt q w2 => rw [h2] at h; cases h
    | ok b w2 =>
      rw [h2] at h
      simp only [Result.andThen_ok, Sem.run_pure, Result.ok.injEq, Value.bool.injEq] at h ⊢
      obtain ⟨rfl, rfl⟩ := h
      exact ⟨rfl, rfl⟩

/-- What a function answers to a slice over a block that holds this. -/
def SCal (P : Program) (f : FuncId) (cs : List Value) (t : TypeId) (k c : Nat) (v : Value) : Prop := ∀ g w, w.heap[g]? = some (.cells cs.toArray t (0, 0)) → Calls P f #[.slice (some ⟨g, 0, none⟩) k c] w fun e w' => e = .returned v ∧ Below w.heap.size w w'
theorem SCal.mk {f : FuncId} {cs : List Value} {t : TypeId} {k c : Nat} {v : Value} (h : ∀ g w, w.heap[g]? = some (.cells cs.toArray t (0, 0)) → Calls P f #[.slice (some ⟨g, 0, none⟩) k c] w fun e w' => e = .returned v ∧ Below w.heap.size w w') : SCal P f cs t k c v := h
theorem y_scal [hcl : Cls C W F m] {f : FuncId} {fn : Func} {xs : Array Operand} {ts : Array TypeId} {cs : List Value} {t : TypeId} {g k c : Nat} {v : Value} (hf : P.funcs[f]? = some fn) (hq : ((fn.name == "runtime.NumGoroutine") || !fn.body.isSome) = false) (hv : opvs L xs.toList = some [.slice (some ⟨g, 0, none⟩) k c])
    (hm : (g, cs, t) ∈ m) (h : SCal P f cs t k c v) : Yld P n C L ⟨dst, .call { callee := .value (.func f), args := xs, argTypes := ts }, ty, pos, af, gd⟩ v :=
  y_call hf hq hv fun w hw => (h g w ((hcl.has w hw).cells _ hm)).mono fun e w' ⟨he, hb⟩ => ⟨he, hcl.step _ _ hw hb⟩

/-! ### A region in the order of the text, in which memory changes -/
def SSeq (P : Program) (ops : Array Oper) (n : Nat) (W : World) (F : Nat → Prop) (Q : Exit → Act → World → Prop) (l : List Oper) (L : Slots) (m : Mem) : Prop := ∀ a w, Holds n L a → Has W F m w → wpList P ops Q l a w
theorem w_reg {id : Nat} (h : SSeq P ops n W F Q ops.toList L m) : Wp P n W F (.region id ops false) L m Q := fun a w ha hw => wp_region_list (h a w ha hw)
theorem s_nil (h : Fin n W F Q .normal L m) : SSeq P ops n W F Q [] L m := h
theorem s_st0 {o : Oper} {v : Value} (hs : Stp P ops n (Has W F m) L o v) (hd : fits n o.dst = true) (h : SSeq P ops n W F Q l (putL o.dst v L) m) : SSeq P ops n W F Q (o :: l) L m := fun a w ha hw => by
  unfold wpList
  rcases hs a ha with ⟨h1, h2⟩ | ⟨h1, rfl⟩
  · rw [if_pos h1]
    exact .inl (Oper.wp_of_quiet (K := fun a' => Holds n (putL o.dst v L) a') hw (fun a' w' hw2 ha2 => h a' w' ha2 hw2) ⟨v, h2, ha.put hd v⟩)
  · rw [if_neg (by rw [h1]; exact Bool.false_ne_true)]
    exact h _ _ (ha.put hd _) hw
theorem s_st {d : Nat} {op : Op} {v : Value} (hs : Stp P ops n (Has W F m) L ⟨some d, op, ty, pos, af, gd⟩ v) (hd : Nat.blt d n = true) (h : SSeq P ops n W F Q l ((d, v) :: L) m) : SSeq P ops n W F Q (⟨some d, op, ty, pos, af, gd⟩ :: l) L m := s_st0 hs hd h
theorem s_sn {op : Op} {v : Value} (hs : Stp P ops n (Has W F m) L ⟨none, op, ty, pos, af, gd⟩ v) (h : SSeq P ops n W F Q l L m) : SSeq P ops n W F Q (⟨none, op, ty, pos, af, gd⟩ :: l) L m := s_st0 hs rfl h
theorem s_op {op : Op} (hrun : ∀ a, Holds n L a → ∀ w, Has W F m w → (∃ v w', (execOp a.eval ⟨dst, op, ty, pos, af, none⟩).run P w = .ok (.value v) w' ∧ ∀ a', a' = a.put dst v → wpList P ops Q l a' w') ∨ (∃ w', (execOp a.eval ⟨dst, op, ty, pos, af, none⟩).run P w = .ok .skip w' ∧ ∀ a', a' = a.put dst undef → wpList P ops Q l a' w')) :
    SSeq P ops n W F Q (⟨dst, op, ty, pos, af, none⟩ :: l) L m := fun a w ha hw => by
  unfold wpList
  rw [if_pos (show Region.wanted ⟨dst, op, ty, pos, af, none⟩ (yielded ops a.tmps) = true from rfl)]
  refine .inl ?_
  unfold Oper.wp
  rcases hrun a ha w hw with ⟨v, w', h1, h2⟩ | ⟨w', h1, h2⟩
  · rw [h1]; exact h2 _ rfl
  · rw [h1]; exact h2 _ rfl
theorem s_box {d : Nat} {t : TypeId} {v : Value} {cs : List Value} (hx : opv L x = some v) (hv : Cells v cs) (hd : fits n (some d) = true) (h : ∀ g, SSeq P ops n W F Q l ((d, .pointer (some ⟨g, 0, none⟩)) :: L) ((g, cs, t) :: m)) :
    SSeq P ops n W F Q (⟨some d, .box t x, ty, pos, af, none⟩ :: l) L m := s_op fun a ha w hw => .inl ⟨.pointer (some ⟨w.heap.size, 0, none⟩), w.alloc (.cells cs.toArray t), by
    obtain rfl := hv.spec
    have h0 : ((newVar t v).run P w) = .ok ⟨w.heap.size, 0, none⟩ (w.alloc (.cells v.cells t)) := rfl
    simp [execOp, ev ha hx, Instr.box, h0], fun a' e => by subst e; exact h _ _ _ (ha.put hd _) (hw.alloc cs t)⟩
/-- A slice literal's row. -/
def bvals (L : Slots) : List (Nat × Operand) → Option (List (Nat × Value))
  | [] => some []
  | (i, x) :: l => match opv L x, bvals L l with
    | some v, some vs => some ((i, v) :: vs)
    | _, _ => none
theorem bvals_spec {a : Act} (ha : Holds n L a) : ∀ {l : List (Nat × Operand)} {vs : List (Nat × Value)}, bvals L l = some vs → l.map (fun p => (p.1, a.eval p.2)) = vs
  | [], vs, e => by cases e; rfl
  | (i, x) :: l, vs, e => by
    unfold bvals at e
    cases h1 : opv L x with
    | none => rw [h1] at e; cases e
    | some v =>
      cases h2 : bvals L l with
      | none => rw [h1, h2] at e; cases e
      | some us =>
        rw [h1, h2] at e
        cases e
        rw [List.map_cons, ev ha h1, bvals_spec ha h2]
def BSl (P : Program) (t : TypeId) (k : Nat) (ps : List (Nat × Value)) (cs : List Value) (e : TypeId) : Prop := ∀ w, (Instr.buildSlice t k ps.toArray).run P w = .ok (.slice (some ⟨w.heap.size, 0, none⟩) k k) (w.alloc (.cells cs.toArray e))
theorem BSl.mk {t : TypeId} {k : Nat} {ps : List (Nat × Value)} {cs : List Value} {e : TypeId} (h : ∀ w, (Instr.buildSlice t k ps.toArray).run P w = .ok (.slice (some ⟨w.heap.size, 0, none⟩) k k) (w.alloc (.cells cs.toArray e))) : BSl P t k ps cs e := h
theorem s_bslice {d k : Nat} {t e : TypeId} {ps : Array (Nat × Operand)} {vs : List (Nat × Value)} {cs : List Value} (hv : bvals L ps.toList = some vs) (hb : BSl P t k vs cs e) (hd : fits n (some d) = true) (h : ∀ g, SSeq P ops n W F Q l ((d, .slice (some ⟨g, 0, none⟩) k k) :: L) ((g, cs, e) :: m)) :
    SSeq P ops n W F Q (⟨some d, .buildSlice t k ps, ty, pos, af, none⟩ :: l) L m := s_op fun a ha w hw => .inl ⟨.slice (some ⟨w.heap.size, 0, none⟩) k k, w.alloc (.cells cs.toArray e), by
    have hps : (ps.map fun (i, x) => (i, a.eval x)) = vs.toArray := by
      apply Array.toList_inj.1
      have := bvals_spec ha hv
      simpa using this
    simp only [execOp, hps]
    rw [Sem.run_bind, hb w]
    rfl, fun a' e' => by subst e'; exact h _ _ _ (ha.put hd _) (hw.alloc cs e)⟩
theorem s_alloc {d : Nat} {t : TypeId} {cs : List Value} [hz0 : ZeroT P t cs] (hd : fits n (some d) = true) (h : ∀ g, SSeq P ops n W F Q l ((d, .pointer (some ⟨g, 0, none⟩)) :: L) ((g, cs, t) :: m)) :
    SSeq P ops n W F Q (⟨some d, .alloc t, ty, pos, af, none⟩ :: l) L m := s_op fun a ha w hw => .inl ⟨.pointer (some ⟨w.heap.size, 0, none⟩), w.alloc (.cells cs.toArray t), by
    have hz := hz0.ok
    cases hi : P.info? t with
    | none => rw [hi] at hz; cases hz
    | some i =>
      cases hq : i.zero with
      | none => rw [hi] at hz; simp [hq] at hz
      | some v =>
        rw [hi] at hz
        simp only [Option.bind_some, hq, Option.map_some, Option.some.injEq] at hz
        subst hz
        have h0 : ((newVar t v).run P w) = .ok ⟨w.heap.size, 0, none⟩ (w.alloc (.cells v.cells t)) := rfl
        simp [execOp, Instr.alloc, zeroValue, typeInfo, hi, hq, h0], fun a' e => by subst e; exact h _ _ _ (ha.put hd _) (hw.alloc cs t)⟩
theorem run_store1 {w : World} {g o : Nat} {cs : List Value} {t : TypeId} {v : Value} (hg : w.heap[g]? = some (.cells cs.toArray t (0, 0))) (ho : o < cs.length) (h1 : v.oneCell' = true) : (store ⟨g, o, none⟩ v).run P w = .ok () (w.setCell ⟨g, o, none⟩ v) := by
  have hc : w.cell? ⟨g, o, none⟩ = some cs[o] := by rw [cell_of_row w g _ _ _ _ hg]; simp [ho]
  have hf := frozen_of_row w g o _ t hg
  cases v <;> first | (simp [store, Sem.run, hc, hf]; done) | cases h1
theorem has_storeCells {g : Nat} {t : TypeId} : ∀ (vs : List Value) (o i : Nat) {cs : List Value} {m m' : Mem} {w : World}, Has W F m w → MUpd m g cs t (setAt cs (o + i) vs) m' → o + i + vs.length ≤ cs.length → (∀ v ∈ vs, v.oneCell' = true) →
    ∃ w', (storeCells ⟨g, o, none⟩ vs i).run P w = .ok () w' ∧ Has W F m' w'
  | [], o, i, cs, m, m', w, hw, hu, _, _ => ⟨w, rfl, by rw [hu.same rfl]; exact hw⟩
  | v :: vs, o, i, cs, m, m', w, hw, hu, hl, h1 => by
    simp only [List.length_cons] at hl
    have hg := hw.cells _ hu.mem.1
    obtain ⟨m1, u1, u2⟩ := hu.split (cs.set (o + i) v)
    have hst : (store (Addr.add ⟨g, o, none⟩ i) v).run P w = .ok () (w.setCell ⟨g, o + i, none⟩ v) := by
      have : (Addr.add ⟨g, o, none⟩ i) = ⟨g, o + i, none⟩ := Addr.add_mid ..
      rw [this]
      exact run_store1 (cs := cs) hg (by omega) (h1 v (List.mem_cons_self ..))
    obtain ⟨w', r1, r2⟩ := has_storeCells vs o (i + 1) (hw.setCell u1) (by simpa [setAt, Nat.add_assoc] using u2) (by simp; omega) (fun v hv => h1 v (List.mem_cons_of_mem _ hv))
    refine ⟨w', ?_, r2⟩
    unfold storeCells
    rw [Sem.run_bind, hst]
    exact r1
theorem s_store {g o : Nat} {t tv : TypeId} {v : Value} {cs cs' : List Value} (hx : opv L x = some (.pointer (some ⟨g, o, none⟩))) {vs : List Value} (hy : opv L y = some v) (hm : (g, cs, t) ∈ m) (hc : Cells v vs) (hs : setAt cs o vs = cs') (hu : MUpd m g cs t cs' m') (hi : ((P.info? tv).map fun i => Nat.beq vs.length i.size) = some true) (hk : (Nat.ble (o + vs.length) cs.length && vs.all (·.oneCell')) = true)
    (h : SSeq P ops n W F Q l L m') : SSeq P ops n W F Q (⟨none, .store tv x y, ty, pos, af, none⟩ :: l) L m := s_op fun a ha w hw => .inr (by
    simp only [Bool.and_eq_true, List.all_eq_true] at hk
    obtain ⟨k2, k3⟩ := hk
    have k2' : o + vs.length ≤ cs.length := Nat.le_of_ble_eq_true k2
    subst hs
    obtain rfl := hc.spec
    have hsz0 : v.cells.toList.length = v.cells.size := Array.length_toList
    obtain ⟨w', r1, r2⟩ := has_storeCells (P := P) v.cells.toList o 0 hw hu (by rw [Nat.add_zero]; exact k2') k3
    refine ⟨w', ?_, fun a' e => by subst e; exact h _ _ ha r2⟩
    cases hq : P.info? tv with
    | none => rw [hq] at hi; cases hi
    | some i =>
      have hsz : v.cells.size = i.size := by
        rw [hq] at hi
        simp only [Option.map_some, Option.some.injEq] at hi
        have := Nat.eq_of_beq_eq_true hi
        omega
      simp [execOp, ev ha hx, ev ha hy, Instr.storeAt, Instr.sureAddr, storeVar, sizeOf, typeInfo, hq, hsz, r1])

/-! ### A region that asks the tape: whatever only reads, reckons and calls, and new variables, in whatever order; behind it what waits for all of it, in the order of the text -/
section
variable {md : Region.Mode}
/-- What each operation waits for, directly or through others, as the bits of a number; reckoned, then looked over. -/
def befG (md : Region.Mode) (ops : Array Oper) : List Nat := ops.toList.foldl (fun acc o => acc ++ [o.after.toList.foldl (fun s e => if Region.binds md e then s ||| 2 ^ e.on ||| acc.getD e.on 0 else s) 0]) []
def befOk (md : Region.Mode) (ops : Array Oper) (B : List Nat) : Bool := (List.range ops.size).all fun j => (List.range ops.size).all fun i => !(B.getD j 0).testBit i || ((ops[j]?).map fun o => o.after.toList.any fun e => Region.binds md e && Nat.blt e.on j && (Nat.beq e.on i || (B.getD e.on 0).testBit i)).getD false
/-- Every operation from k on waits for each of the first k. -/
def heldUp (md : Region.Mode) (ops : Array Oper) (k : Nat) : Bool := befOk md ops (befG md ops) && (List.range ops.size).all fun j => Nat.blt j k || (List.range k).all fun i => Nat.blt i ops.size && ((befG md ops).getD j 0).testBit i
/-- What has come up waited for nothing that has not. -/
def Clo (md : Region.Mode) (ops : Array Oper) (listed : Array Bool) : Prop := ∀ q o, ops[q]? = some o → listed.getD q false = true → ∀ e ∈ o.after, Region.binds md e = true → listed.getD e.on false = true
theorem Clo.set {listed : Array Bool} (h : Clo md ops listed) {j : Nat} (hj : j ∈ Region.ready md ops listed) : Clo md ops (listed.setIfInBounds j true) := fun q o ho hq e he hb => by
  obtain ⟨hjun, oj, hoj, hall⟩ := mem_ready.1 hj
  by_cases hqj : j = q
  · subst hqj
    rw [hoj] at ho; cases ho
    exact getD_set_true (hall e he hb)
  · rw [getD_set_ne false hqj] at hq
    exact getD_set_true (h q o ho hq e he hb)
theorem befOk_spec {B : List Nat} (hB : befOk md ops B = true) {listed : Array Bool} (hc : Clo md ops listed) : ∀ (j i : Nat) (o : Oper), ops[j]? = some o → i < ops.size → (B.getD j 0).testBit i = true → (∀ e ∈ o.after, Region.binds md e = true → listed.getD e.on false = true) → listed.getD i false = true := by
  intro j
  induction j using Nat.strongRecOn with
  | _ j ih =>
    intro i o hj hi ht hall
    unfold befOk at hB
    rw [List.all_eq_true] at hB
    have h1 := hB j (List.mem_range.2 (Array.getElem?_eq_some_iff.1 hj).1)
    rw [List.all_eq_true] at h1
    have h2 := h1 i (List.mem_range.2 hi)
    rw [ht, hj] at h2
    simp only [Bool.not_true, Bool.false_or, Option.map_some, Option.getD_some, List.any_eq_true, Bool.and_eq_true, Bool.or_eq_true] at h2
    obtain ⟨e, he, ⟨hb, hlt⟩, hx⟩ := h2
    have he := Array.mem_toList_iff.1 he
    have hle := hall e he hb
    rcases hx with hx | hx
    · rw [Nat.eq_of_beq_eq_true hx] at hle; exact hle
    · rw [Nat.blt_eq] at hlt
      have hon : e.on < ops.size := Nat.lt_trans hlt (Array.getElem?_eq_some_iff.1 hj).1
      obtain ⟨o2, ho2⟩ : ∃ o2, ops[e.on]? = some o2 := ⟨ops[e.on], by simp [hon]⟩
      exact ih e.on hlt i o2 ho2 hi hx (hc e.on o2 ho2 hle)
theorem heldUp_spec {k : Nat} (h : heldUp md ops k = true) {listed : Array Bool} (hc : Clo md ops listed) {j i : Nat} (hj : j ∈ Region.ready md ops listed) (hk : k ≤ j) (hi : i < k) : listed.getD i false = true := by
  unfold heldUp at h
  rw [Bool.and_eq_true] at h
  obtain ⟨hB, h⟩ := h
  obtain ⟨-, o, ho, hall⟩ := mem_ready.1 hj
  rw [List.all_eq_true] at h
  have h1 := h j (List.mem_range.2 (Array.getElem?_eq_some_iff.1 ho).1)
  rw [Bool.or_eq_true] at h1
  rcases h1 with h1 | h1
  · rw [Nat.blt_eq] at h1; omega
  · rw [List.all_eq_true] at h1
    have h2 := h1 i (List.mem_range.2 hi)
    rw [Bool.and_eq_true, Nat.blt_eq] at h2
    exact befOk_spec hB hc j i o ho h2.1 h2.2 hall
/-- In this state the operation leaves v, and nothing that was there is changed. -/
def YieldsB (P : Program) (ops : Array Oper) (C : World → Prop) (o : Oper) (v : Value) (a : Act) : Prop := ∀ W0, C W0 → YieldsIn P ops (fun w => C w ∧ Below W0.heap.size W0 w) o v a
def allocOf (o : Oper) : Option TypeId := match o.op, o.guard with
  | .alloc ty, none => some ty
  | _, _ => none
def zeroOf (P : Program) (ty : TypeId) : Option (List Value) := ((P.info? ty).bind (·.zero)).map (fun v => v.cells.toList)
/-- An operation comes up: a new variable, or what only reads, reckons and calls. -/
def gOp (P : Program) (ops : Array Oper) (C : World → Prop) (j : Nat) (K : Act → Mem → Prop) (a : Act) (m : Mem) : Prop := ∃ o, ops[j]? = some o ∧
  match allocOf o with
  | some ty => ∃ d z, o.dst = some d ∧ zeroOf P ty = some z ∧ ∀ g, K (a.put (some d) (.pointer (some ⟨g, 0, none⟩))) ((g, z, ty) :: m)
  | none => ∃ v, YieldsB P ops C o v a ∧ K (a.put o.dst v) m
theorem gOp_alloc {j : Nat} {o : Oper} {ty : TypeId} (ho : ops[j]? = some o) (hal : allocOf o = some ty) {K : Act → Mem → Prop} {a : Act} {m : Mem} : gOp P ops C j K a m ↔ ∃ d z, o.dst = some d ∧ zeroOf P ty = some z ∧ ∀ g, K (a.put (some d) (.pointer (some ⟨g, 0, none⟩))) ((g, z, ty) :: m) := by
  unfold gOp
  constructor
  · rintro ⟨o', ho', h⟩
    rw [ho] at ho'; cases ho'
    rw [hal] at h; exact h
  · intro h
    exact ⟨o, ho, by rw [hal]; exact h⟩
theorem gOp_quiet {j : Nat} {o : Oper} (ho : ops[j]? = some o) (hal : allocOf o = none) {K : Act → Mem → Prop} {a : Act} {m : Mem} : gOp P ops C j K a m ↔ ∃ v, YieldsB P ops C o v a ∧ K (a.put o.dst v) m := by
  unfold gOp
  constructor
  · rintro ⟨o', ho', h⟩
    rw [ho] at ho'; cases ho'
    rw [hal] at h; exact h
  · intro h
    exact ⟨o, ho, by rw [hal]; exact h⟩
def wpG (P : Program) (md : Region.Mode) (ops : Array Oper) (C : World → Prop) (k : Nat) (end_ : Array Bool) (Q : Act → Mem → Prop) : Nat → Array Bool → Act → Mem → Prop
  | 0, listed, a, m => listed = end_ ∧ Q a m
  | fuel + 1, listed, a, m => Region.ready md ops listed ≠ [] ∧ ∀ j ∈ Region.ready md ops listed, j < k ∧ gOp P ops C j (wpG P md ops C k end_ Q fuel (listed.setIfInBounds j true)) a m
theorem gOp_imp {j : Nat} {K K' : Act → Mem → Prop} {a : Act} {m m' : Mem} (h : ∀ a, K a m → K' a m') (h2 : ∀ a x, K a (x :: m) → K' a (x :: m')) (hh : gOp P ops C j K a m) : gOp P ops C j K' a m' := by
  obtain ⟨o, ho, hx⟩ := hh
  refine ⟨o, ho, ?_⟩
  cases hal : allocOf o with
  | some ty =>
    rw [hal] at hx
    obtain ⟨d, z, q1, q2, q3⟩ := hx
    exact ⟨d, z, q1, q2, fun g => h2 _ _ (q3 g)⟩
  | none =>
    rw [hal] at hx
    obtain ⟨v, q1, q2⟩ := hx
    exact ⟨v, q1, h _ q2⟩
theorem wpG_perm {k : Nat} {end_ : Array Bool} {Q : Act → Mem → Prop} (hQ : ∀ a m m', m.Perm m' → Q a m → Q a m') : ∀ (fuel : Nat) (listed : Array Bool) (a : Act) (m m' : Mem), m.Perm m' → wpG P md ops C k end_ Q fuel listed a m → wpG P md ops C k end_ Q fuel listed a m'
  | 0, _, _, _, _, hp, h => ⟨h.1, hQ _ _ _ hp h.2⟩
  | fuel + 1, _, _, _, _, hp, h => ⟨h.1, fun j hj => ⟨(h.2 j hj).1, gOp_imp (fun a ha => wpG_perm hQ fuel _ _ _ _ hp ha) (fun a x ha => wpG_perm hQ fuel _ _ _ _ (hp.cons _) ha) (h.2 j hj).2⟩⟩
theorem YieldsB.put {o oj : Oper} {v u : Value} {a : Act} (hs : ∀ cs b, o.op ≠ .select cs b) (hap : o.apart ops oj = true) (h : YieldsB P ops C o v a) : YieldsB P ops C o v (a.put oj.dst u) := fun W0 hW => by
  obtain ⟨-, -, h3⟩ := Oper.apart_spec hap
  exact (h W0 hW).of_same (execOp_put o hs a oj.dst u h3) (wanted_put o a oj.dst u h3)
theorem YieldsB.back {o oj : Oper} {v u : Value} {a : Act} (hs : ∀ cs b, oj.op ≠ .select cs b) (hap : o.apart ops oj = true) (h : YieldsB P ops C oj v (a.put o.dst u)) : YieldsB P ops C oj v a := fun W0 hW => by
  obtain ⟨h1, -, -⟩ := Oper.apart_spec hap
  exact (h W0 hW).of_same (execOp_put oj hs a o.dst u h1).symm (wanted_put oj a o.dst u h1).symm
section
variable {k : Nat} {end_ : Array Bool} {Q : Act → Mem → Prop} {i : Nat} {oi : Oper}
theorem g_key (hup : heldUp md ops k = true) (hik : i < k) {listed : Array Bool} (hc : Clo md ops listed) {j : Nat} (hr : i ∈ Region.ready md ops listed) (hj : j ∈ Region.ready md ops listed) (hji : j ≠ i) : j < k ∧ ∃ oj, ops[j]? = some oj ∧ (∀ e ∈ oj.after, Region.binds md e = true → e.on ≠ i) ∧ listed.getD j true = false := by
  obtain ⟨hjun, oj, hoj, hall⟩ := mem_ready.1 hj
  have hun := (mem_ready.1 hr).1
  have hnot : ∀ e ∈ oj.after, Region.binds md e = true → e.on ≠ i := fun e he hb heq => by
    have h1 := hall e he hb
    rw [heq] at h1
    rcases Nat.lt_or_ge i listed.size with h' | h'
    · simp [h'] at hun h1; rw [hun] at h1; cases h1
    · simp [Array.getElem?_eq_none h'] at h1
  refine ⟨?_, oj, hoj, hnot, hjun⟩
  rcases Nat.lt_or_ge j k with q | q
  · exact q
  · have h1 := heldUp_spec hup hc hj q hik
    rcases Nat.lt_or_ge i listed.size with h' | h'
    · simp [h'] at hun h1; rw [hun] at h1; cases h1
    · simp [Array.getElem?_eq_none h'] at h1
theorem g_zero (he : ∀ j, j < k → end_.getD j true = true) {listed : Array Bool} {j : Nat} (hjk : j < k) (hji : j ≠ i) (hjun : listed.getD j true = false) {a : Act} {m : Mem} (h : wpG P md ops C k end_ Q 0 (listed.setIfInBounds i true) a m) : False := by
  have h1 := h.1
  have h2 := he j hjk
  rw [← h1, getD_set_ne true (Ne.symm hji), hjun] at h2
  cases h2
/-- What only reads, reckons and calls may be taken first. -/
theorem wpG_first (hQ : ∀ a m m', m.Perm m' → Q a m → Q a m') (he : ∀ j, j < k → end_.getD j true = true) (hup : heldUp md ops k = true) (hi : ops[i]? = some oi) (hik : i < k) (hal : allocOf oi = none) (hsel : ∀ (j : Nat) (o : Oper) cs b, ops[j]? = some o → o.op ≠ .select cs b) {v : Value} :
    ∀ (fuel : Nat) (listed : Array Bool) (a : Act) (m : Mem), Clo md ops listed →
      (∀ j oj, ops[j]? = some oj → j ≠ i → listed.getD j true = false → (∀ e ∈ oj.after, Region.binds md e = true → e.on ≠ i) → oi.apart ops oj = true) →
      i ∈ Region.ready md ops listed → YieldsB P ops C oi v a → wpG P md ops C k end_ Q fuel (listed.setIfInBounds i true) (a.put oi.dst v) m → wpG P md ops C k end_ Q (fuel + 1) listed a m := by
  intro fuel
  induction fuel with
  | zero =>
    intro listed a m hc hfree hr hy h
    refine ⟨(fun h => by rw [h] at hr; cases hr), fun j hj => ?_⟩
    by_cases hji : j = i
    · subst hji; exact ⟨hik, (gOp_quiet hi hal).2 ⟨v, hy, h⟩⟩
    · obtain ⟨hjk, oj, hoj, hnot, hjun⟩ := g_key hup hik hc hr hj hji
      exact (g_zero he hjk hji hjun h).elim
  | succ fuel ih =>
    intro listed a m hc hfree hr hy h
    refine ⟨(fun h => by rw [h] at hr; cases hr), fun j hj => ?_⟩
    by_cases hji : j = i
    · subst hji; exact ⟨hik, (gOp_quiet hi hal).2 ⟨v, hy, h⟩⟩
    · obtain ⟨hjk, oj, hoj, hnot, hjun⟩ := g_key hup hik hc hr hj hji
      refine ⟨hjk, ?_⟩
      have hap := hfree j oj hoj hji hjun hnot
      obtain ⟨p1, p2, p3⟩ := Oper.apart_spec hap
      have hfree' : ∀ q oq, ops[q]? = some oq → q ≠ i → (listed.setIfInBounds j true).getD q true = false → (∀ e ∈ oq.after, Region.binds md e = true → e.on ≠ i) → oi.apart ops oq = true := fun q oq hq hqi hun hno => by
        refine hfree q oq hq hqi ?_ hno
        by_cases hjq : j = q
        · subst hjq; exact hjun
        · rw [getD_set_ne true hjq] at hun; exact hun
      have hr' := ready_mono hr (Ne.symm hji)
      have hcomm : (listed.setIfInBounds i true).setIfInBounds j true = (listed.setIfInBounds j true).setIfInBounds i true := Array.setIfInBounds_comm _ _ (Ne.symm hji)
      have hgj := (h.2 j (ready_mono hj hji)).2
      rw [hcomm] at hgj
      have hsi := fun cs b => hsel i oi cs b hi
      have hsj := fun cs b => hsel j oj cs b hoj
      cases hj2 : allocOf oj with
      | some ty =>
        obtain ⟨d, z, q1, q2, q3⟩ := (gOp_alloc hoj hj2).1 hgj
        refine (gOp_alloc hoj hj2).2 ⟨d, z, q1, q2, fun g => ?_⟩
        have hput := hy.put (u := .pointer (some ⟨g, 0, none⟩)) hsi hap
        rw [q1] at hput
        refine ih _ _ _ (hc.set hj) hfree' hr' hput ?_
        have := q3 g
        rw [Act.put_comm _ v _ (fun x hx => by have := p2 x hx; rw [q1] at this; exact this)] at this
        exact this
      | none =>
        obtain ⟨u, q1, q2⟩ := (gOp_quiet hoj hj2).1 hgj
        refine (gOp_quiet hoj hj2).2 ⟨u, q1.back hsj hap, ih _ _ _ (hc.set hj) hfree' hr' (hy.put hsi hap) ?_⟩
        rw [Act.put_comm _ v _ p2] at q2
        exact q2
/-- A new variable may be taken first where nothing but new variables is left. -/
theorem wpG_new (hQ : ∀ a m m', m.Perm m' → Q a m → Q a m') (he : ∀ j, j < k → end_.getD j true = true) (hup : heldUp md ops k = true) (hi : ops[i]? = some oi) (hik : i < k) {ty : TypeId} (hal : allocOf oi = some ty) {d : Nat} {z : List Value} (hd : oi.dst = some d) (hz : zeroOf P ty = some z) :
    ∀ (fuel : Nat) (listed : Array Bool) (a : Act) (m : Mem), Clo md ops listed →
      (∀ j oj, ops[j]? = some oj → j ≠ i → listed.getD j true = false → (∀ e ∈ oj.after, Region.binds md e = true → e.on ≠ i) → oi.apart ops oj = true) →
      (∀ j oj, ops[j]? = some oj → j < k → listed.getD j true = false → (allocOf oj).isSome = true) →
      i ∈ Region.ready md ops listed → (∀ g, wpG P md ops C k end_ Q fuel (listed.setIfInBounds i true) (a.put (some d) (.pointer (some ⟨g, 0, none⟩))) ((g, z, ty) :: m)) → wpG P md ops C k end_ Q (fuel + 1) listed a m := by
  intro fuel
  induction fuel with
  | zero =>
    intro listed a m hc hfree hnew hr h
    refine ⟨(fun h => by rw [h] at hr; cases hr), fun j hj => ?_⟩
    by_cases hji : j = i
    · subst hji; exact ⟨hik, (gOp_alloc hi hal).2 ⟨d, z, hd, hz, h⟩⟩
    · obtain ⟨hjk, oj, hoj, hnot, hjun⟩ := g_key hup hik hc hr hj hji
      exact (g_zero he hjk hji hjun (h 0)).elim
  | succ fuel ih =>
    intro listed a m hc hfree hnew hr h
    refine ⟨(fun h => by rw [h] at hr; cases hr), fun j hj => ?_⟩
    by_cases hji : j = i
    · subst hji; exact ⟨hik, (gOp_alloc hi hal).2 ⟨d, z, hd, hz, h⟩⟩
    · obtain ⟨hjk, oj, hoj, hnot, hjun⟩ := g_key hup hik hc hr hj hji
      refine ⟨hjk, ?_⟩
      have hap := hfree j oj hoj hji hjun hnot
      obtain ⟨p1, p2, p3⟩ := Oper.apart_spec hap
      have hback : ∀ q : Nat, (listed.setIfInBounds j true).getD q true = false → listed.getD q true = false := fun q hun => by
        by_cases hjq : j = q
        · subst hjq; exact hjun
        · rw [getD_set_ne true hjq] at hun; exact hun
      have hr' := ready_mono hr (Ne.symm hji)
      have hcomm : (listed.setIfInBounds i true).setIfInBounds j true = (listed.setIfInBounds j true).setIfInBounds i true := Array.setIfInBounds_comm _ _ (Ne.symm hji)
      obtain ⟨ty2, hj2⟩ := Option.isSome_iff_exists.1 (hnew j oj hoj hjk hjun)
      have hgj : ∀ g, ∃ d' z', oj.dst = some d' ∧ zeroOf P ty2 = some z' ∧ ∀ g', wpG P md ops C k end_ Q fuel ((listed.setIfInBounds j true).setIfInBounds i true) ((a.put (some d) (.pointer (some ⟨g, 0, none⟩))).put (some d') (.pointer (some ⟨g', 0, none⟩))) ((g', z', ty2) :: (g, z, ty) :: m) := fun g => by
        have := ((h g).2 j (ready_mono hj hji)).2
        rw [hcomm] at this
        exact (gOp_alloc hoj hj2).1 this
      obtain ⟨d', z', q1, q2, -⟩ := hgj 0
      refine (gOp_alloc hoj hj2).2 ⟨d', z', q1, q2, fun g' => ih _ _ _ (hc.set hj) (fun q oq hq hqi hun hno => hfree q oq hq hqi (hback q hun) hno) (fun q oq hq hqk hun => hnew q oq hq hqk (hback q hun)) hr' (fun g => ?_)⟩
      obtain ⟨d2, z2, s1, s2, s3⟩ := hgj g
      rw [q1] at s1; cases s1
      rw [q2] at s2; cases s2
      have := s3 g'
      rw [Act.put_comm a _ _ (fun x hx => by have := p2 x (by rw [hd]; exact hx); rw [q1] at this; exact this)] at this
      exact wpG_perm hQ _ _ _ _ _ (List.Perm.swap ..) this
end
theorem Has.perm {W w : World} {F : Nat → Prop} {m m' : Mem} (hp : m.Perm m') (h : Has W F m w) : Has W F m' w :=
  ⟨h.keep, fun b hb => h.cells b (hp.mem_iff.2 hb), fun b hb => h.own b (hp.mem_iff.2 hb), (hp.map (·.1)).nodup_iff.1 h.nodup⟩
/-- It is a walk of every order. -/
theorem wpAny_of_g {Q' : Exit → Act → World → Prop} {k f0 : Nat} {end_ : Array Bool} {Q : Act → Mem → Prop} (hC : ∀ w w', C w → Below w.heap.size w w' → C w') (hQ : ∀ a m w, Has W F m w → C w → Q a m → wpAny P md ops Q' f0 end_ a w) :
    ∀ (fuel : Nat) (listed : Array Bool) (a : Act) (m : Mem) (w : World), Has W F m w → C w → wpG P md ops C k end_ Q fuel listed a m → wpAny P md ops Q' (fuel + f0) listed a w
  | 0, listed, a, m, w, hm, hw, h => by obtain ⟨rfl, hq⟩ := h; rw [Nat.zero_add]; exact hQ a m w hm hw hq
  | fuel + 1, listed, a, m, w, hm, hw, h => by
    rw [show fuel + 1 + f0 = (fuel + f0) + 1 by omega]
    refine ⟨fun h0 => absurd h0 h.1, fun j hj => ?_⟩
    obtain ⟨o, ho, hx⟩ := (h.2 j hj).2
    have step : ∀ a' m' w', Has W F m' w' → C w' → wpG P md ops C k end_ Q fuel (listed.setIfInBounds j true) a' m' → wpAny P md ops Q' (fuel + f0) (listed.setIfInBounds j true) a' w' := fun a' m' w' h1 h2 h3 => wpAny_of_g hC hQ fuel _ a' m' w' h1 h2 h3
    cases hal : allocOf o with
    | some ty =>
      rw [hal] at hx
      obtain ⟨d, z, q1, q2, q3⟩ := hx
      have hop : o.op = .alloc ty ∧ o.guard = none := by
        unfold allocOf at hal
        split at hal
        · rename_i ty2 h1 h2; cases hal; exact ⟨h1, h2⟩
        · cases hal
      unfold wpOp
      rw [ho]
      simp only
      rw [if_pos (by unfold Region.wanted; rw [hop.2])]
      refine .inl ?_
      have hrun : (execOp a.eval o).run P w = .ok (.value (.pointer (some ⟨w.heap.size, 0, none⟩))) (w.alloc (.cells z.toArray ty)) := by
        unfold zeroOf at q2
        cases hi : P.info? ty with
        | none => rw [hi] at q2; cases q2
        | some i =>
          cases hq : i.zero with
          | none => rw [hi] at q2; simp [hq] at q2
          | some v =>
            rw [hi] at q2
            simp only [Option.bind_some, hq, Option.map_some, Option.some.injEq] at q2
            subst q2
            have h0 : ((newVar ty v).run P w) = .ok ⟨w.heap.size, 0, none⟩ (w.alloc (.cells v.cells ty)) := rfl
            simp [execOp, hop.1, Instr.alloc, zeroValue, typeInfo, hi, hq, h0]
      unfold Oper.wp
      rw [hrun, Oper.upon_value, q1]
      exact step _ _ _ (hm.alloc z ty) (hC w _ hw ((Below.refl _ _).alloc (Nat.le_refl _) _)) (q3 w.heap.size)
    | none =>
      rw [hal] at hx
      obtain ⟨v, q1, q2⟩ := hx
      unfold wpOp
      rw [ho]
      simp only
      rcases q1 w hw with ⟨h1, h2⟩ | ⟨h1, rfl⟩
      · rw [if_pos h1]
        refine .inl (Oper.wp_of_quiet (C := fun w' => C w' ∧ Below w.heap.size w w') (K := fun a' => a' = a.put o.dst v) ⟨hw, Below.refl _ _⟩ (fun a' w' hw' ha' => ?_) ⟨v, h2, rfl⟩)
        subst ha'
        exact step _ _ _ (hm.step hw'.2) hw'.1 q2
      · rw [if_neg (by rw [h1]; exact Bool.false_ne_true)]
        exact step _ _ _ hm hw q2
/-! The walk: first what only reads, reckons and calls, then new variables, then what waits for all of it. -/
/-- In the order that is told (numbers): each may come up then, and is apart from what may come up besides. -/
def gOrd (md : Region.Mode) (ops : Array Oper) (k : Nat) : List Nat → Array Bool → Array Bool → Bool
  | [], listed, end_ => listed == end_
  | i :: r, listed, end_ => Nat.blt i k && (Region.ready md ops listed).contains i && Region.free md ops listed i && gOrd md ops k r (listed.setIfInBounds i true) end_
/-- Where the first new variable is taken nothing but new variables is left. -/
def gNew (ops : Array Oper) (k : Nat) (listed : Array Bool) : Bool := (List.range k).all fun j => listed.getD j true || ((ops[j]?).map fun o => (allocOf o).isSome).getD true
def gNews (ops : Array Oper) (k : Nat) : List Nat → Array Bool → Bool
  | [], _ => true
  | i :: r, listed => (((ops[i]?).map fun o => (allocOf o).isNone).getD true || gNew ops k listed) && gNews ops k r (listed.setIfInBounds i true)
def GSeq (P : Program) (ops : Array Oper) (n : Nat) (C : World → Prop) (K : Slots → Mem → Prop) : List Oper → Slots → Mem → Prop
  | [], L, m => K L m
  | o :: l, L, m => match allocOf o with
    | some ty => ∃ d z, o.dst = some d ∧ zeroOf P ty = some z ∧ Nat.blt d n = true ∧ ∀ g, GSeq P ops n C K l ((d, .pointer (some ⟨g, 0, none⟩)) :: L) ((g, z, ty) :: m)
    | none => ∃ v, (∀ a, Holds n L a → YieldsB P ops C o v a) ∧ fits n o.dst = true ∧ GSeq P ops n C K l (putL o.dst v L) m
theorem wpG_of_seq {K : Slots → Mem → Prop} {k : Nat} {end_ : Array Bool} {Q : Act → Mem → Prop} (hQ : ∀ a m m', m.Perm m' → Q a m → Q a m') (hK : ∀ a L m, Holds n L a → K L m → Q a m) (he : ∀ j, j < k → end_.getD j true = true) (hup : heldUp md ops k = true) (hs : Region.noSelect ops = true) :
    ∀ (r : List Nat) (l : List Oper) (listed : Array Bool) (L : Slots) (m : Mem) (a : Act), r.map (ops[·]?) = l.map some → gOrd md ops k r listed end_ = true → gNews ops k r listed = true → Clo md ops listed → Holds n L a → GSeq P ops n C K l L m → wpG P md ops C k end_ Q r.length listed a m
  | [], l, listed, L, m, a, hrl, ho, _, _, ha, h => by
    cases l with
    | cons _ _ => cases hrl
    | nil => exact ⟨by simpa [gOrd] using ho, hK a L m ha h⟩
  | i :: r, l, listed, L, m, a, hrl, ho, hn, hc, ha, h => by
    cases l with
    | nil => cases hrl
    | cons o l =>
      simp only [List.map_cons, List.cons.injEq] at hrl
      obtain ⟨hi, hrl⟩ := hrl
      simp only [gOrd, Bool.and_eq_true, Nat.blt_eq] at ho
      obtain ⟨⟨⟨hik, hr⟩, hf⟩, ho⟩ := ho
      simp only [gNews, Bool.and_eq_true] at hn
      obtain ⟨hn0, hn⟩ := hn
      have hr' : i ∈ Region.ready md ops listed := by simpa using hr
      unfold GSeq at h
      cases hal : allocOf o with
      | none =>
        rw [hal] at h
        obtain ⟨v, hy, hd, h⟩ := h
        exact wpG_first hQ he hup hi hik hal (Region.noSelect_spec hs) _ _ _ _ hc (Region.free_spec hi hf) hr' (hy a ha) (wpG_of_seq hQ hK he hup hs r l _ _ _ _ hrl ho hn (hc.set hr') (ha.put hd v) h)
      | some ty =>
        rw [hal] at h
        obtain ⟨d, z, hd, hz, hdn, h⟩ := h
        refine wpG_new hQ he hup hi hik hal hd hz _ _ _ _ hc (Region.free_spec hi hf) (fun j oj hoj hjk hun => ?_) hr' (fun g => wpG_of_seq hQ hK he hup hs r l _ _ _ _ hrl ho hn (hc.set hr') (ha.put (d := some d) hdn _) (h g))
        have hnew : gNew ops k listed = true := by
          rw [hi] at hn0
          simpa [hal] using hn0
        unfold gNew at hnew
        rw [List.all_eq_true] at hnew
        have := hnew j (List.mem_range.2 hjk)
        rw [hun, hoj] at this
        simpa using this
/-- Then those that wait for all. -/
def gTail (md : Region.Mode) (ops : Array Oper) : Nat → Nat → Array Bool → Bool
  | 0, _, listed => (Region.ready md ops listed).isEmpty
  | fuel + 1, i, listed => Region.ready md ops listed == [i] && gTail md ops fuel (i + 1) (listed.setIfInBounds i true)
theorem wpAny_tail {Q' : Exit → Act → World → Prop} : ∀ (l : List Oper) (i : Nat) (listed : Array Bool) (a : Act) (w : World), (∀ j, l[j]? = ops[i + j]?) → gTail md ops l.length i listed = true → wpList P ops Q' l a w → wpAny P md ops Q' l.length listed a w
  | [], i, listed, a, w, hl, ht, h => ⟨by simpa [gTail] using ht, h⟩
  | o :: l, i, listed, a, w, hl, ht, h => by
    have h0 : ops[i]? = some o := by simpa using (hl 0).symm
    simp only [List.length_cons, gTail, Bool.and_eq_true, beq_iff_eq] at ht
    obtain ⟨hr, ht⟩ := ht
    refine ⟨(fun h1 => by rw [hr] at h1; cases h1), fun j hj => ?_⟩
    rw [hr] at hj
    obtain rfl := List.mem_singleton.1 hj
    unfold wpList at h
    unfold wpOp
    rw [h0]
    simp only
    have key : ∀ a' w', wpList P ops Q' l a' w' → wpAny P md ops Q' l.length (listed.setIfInBounds j true) a' w' := fun a' w' h' => wpAny_tail l (j + 1) _ a' w' (fun q => by have := hl (q + 1); simpa [Nat.add_assoc, Nat.add_comm 1 q] using this) ht h'
    split at h
    · rename_i hq
      rw [if_pos hq]
      exact h.imp (Oper.wp_mono key) id
    · rename_i hq
      rw [if_neg hq]
      exact key _ _ h
/-- The first k of n have come up. -/
def upTo (n k : Nat) : Array Bool := ((List.range n).map fun i => Nat.blt i k).toArray
theorem upTo_getD (n k j : Nat) (h : j < k) : (upTo n k).getD j true = true := by
  unfold upTo
  rcases Nat.lt_or_ge j n with q | q
  · simp [q, Nat.blt_eq]; exact h
  · simp [q]
theorem w_mixed {id : Nat} {l0 lq lt : List Oper} (k : Nat) (r : List Nat) (hm : P.follows .mixedOrders = true)
    (hB : (heldUp .any l0.toArray k && Region.noSelect l0.toArray && gOrd .any l0.toArray k r (Array.replicate l0.length false) (upTo l0.length k) && gNews l0.toArray k r (Array.replicate l0.length false) && gTail .any l0.toArray (l0.length - k) k (upTo l0.length k) && Nat.beq r.length k && Nat.ble k l0.length) = true)
    (hq : r.map (l0.toArray[·]?) = lq.map some) (ht : l0.drop k = lt)
    (h : GSeq P l0.toArray n (Has W F m) (fun L' m' => SSeq P l0.toArray n W F Q lt L' m') lq L m) : Wp P n W F (.region id l0.toArray true) L m Q := by
  simp only [Bool.and_eq_true] at hB
  obtain ⟨⟨⟨⟨⟨⟨b1, b2⟩, b3⟩, b4⟩, b5⟩, b6⟩, b7⟩ := hB
  have b6' := Nat.eq_of_beq_eq_true b6
  have b7' := Nat.le_of_ble_eq_true b7
  intro a w ha hw
  refine wp_region_any hm ?_
  have hlt : lt.length = l0.length - k := by rw [← ht]; simp
  have hg := wpG_of_seq (P := P) (ops := l0.toArray) (n := n) (C := Has W F m) (K := fun L' m' => SSeq P l0.toArray n W F Q lt L' m') (Q := fun a' m' => ∀ w', Has W F m' w' → wpList P l0.toArray Q lt a' w')
    (fun a m m' hp hh w' hw' => hh w' (hw'.perm hp.symm)) (fun a' L' m' ha' hK w' hw' => hK a' w' ha' hw') (fun j hj => upTo_getD _ _ _ hj) b1 b2 r lq (Array.replicate l0.length false) L m a hq b3 b4 (fun q o _ hq' => by rw [show (Array.replicate l0.length false).getD q false = false by simp [Array.getElem?_replicate]; split <;> rfl] at hq'; cases hq') ha h
  have := wpAny_of_g (P := P) (W := W) (F := F) (Q' := Q) (f0 := lt.length) (fun w w' h1 h2 => Has.step h1 h2) (fun a' m' w' h1 _ hh => wpAny_tail lt k _ a' w' (fun j => by rw [← ht]; simp) (by rw [hlt]; exact b5) (hh w' h1)) r.length _ a m _ hw.drew hw.drew hg
  rw [b6', hlt] at this
  simpa [Nat.add_sub_cancel' b7'] using this
/-- What only reads, reckons and calls (by its kind). -/
def isQ (o : Oper) : Bool := match o.op with
  | .move _ | .assign _ | .pick .. | .build .. | .load .. | .binOp .. | .unOp .. | .convert .. | .fieldAddr .. | .field .. | .indexAddr .. | .index .. | .extract .. | .slice .. | .lookup .. | .nilCheck _ | .makeFunc .. => true
  | .call { callee := .value _, .. } => true
  | .call { callee := .builtin b, .. } => (match b with | .len | .cap | .min | .max => true | _ => false)
  | _ => false
def kOf (l : List Oper) : Nat := (l.takeWhile fun o => isQ o || (allocOf o).isSome).length
def rOf (l : List Oper) : List Nat := ((List.range (kOf l)).filter fun i => ((l.toArray[i]?).map fun o => (allocOf o).isNone).getD true) ++ ((List.range (kOf l)).filter fun i => !((l.toArray[i]?).map fun o => (allocOf o).isNone).getD true)
def lqOf (l : List Oper) : List Oper := (rOf l).filterMap (l.toArray[·]?)
def mixB (l : List Oper) : Bool := heldUp .any l.toArray (kOf l) && Region.noSelect l.toArray && gOrd .any l.toArray (kOf l) (rOf l) (Array.replicate l.length false) (upTo l.length (kOf l)) && gNews l.toArray (kOf l) (rOf l) (Array.replicate l.length false) && gTail .any l.toArray (l.length - kOf l) (kOf l) (upTo l.length (kOf l)) && Nat.beq (rOf l).length (kOf l) && Nat.ble (kOf l) l.length
theorem map_filterMap {α β : Type} (f : α → Option β) : ∀ (r : List α), (r.all fun x => (f x).isSome) = true → r.map f = (r.filterMap f).map some
  | [], _ => rfl
  | x :: r, h => by
    rw [List.all_cons, Bool.and_eq_true] at h
    obtain ⟨y, hy⟩ := Option.isSome_iff_exists.1 h.1
    rw [List.map_cons, List.filterMap_cons, hy, List.map_cons, map_filterMap f r h.2]
theorem w_mixed_l {id : Nat} {l : List Oper} (hm : P.follows .mixedOrders = true) (hB : (mixB l && (rOf l).all fun i => (l.toArray[i]?).isSome) = true) (h : GSeq P l.toArray n (Has W F m) (fun L' m' => SSeq P l.toArray n W F Q (l.drop (kOf l)) L' m') (lqOf l) L m) : Wp P n W F (.region id l.toArray true) L m Q := by
  rw [Bool.and_eq_true] at hB
  exact w_mixed (kOf l) (rOf l) hm hB.1 (map_filterMap _ _ hB.2) rfl h
theorem g_done {l : List Oper} (h : SSeq P ops n W F Q l L m) : GSeq P ops n C (fun L' m' => SSeq P ops n W F Q l L' m') [] L m := h
theorem g_new {K : Slots → Mem → Prop} {d : Nat} {t ty : TypeId} {pos : String} {af : Array Edge} {l : List Oper} {z : List Value} [hz : ZeroT P t z] (hd : Nat.blt d n = true) (h : ∀ g, GSeq P ops n C K l ((d, .pointer (some ⟨g, 0, none⟩)) :: L) ((g, z, t) :: m)) : GSeq P ops n C K (⟨some d, .alloc t, ty, pos, af, none⟩ :: l) L m :=
  ⟨d, z, rfl, hz.ok, hd, h⟩
theorem g_st {K : Slots → Mem → Prop} {m0 : Mem} {d : Nat} {op : Op} {ty : TypeId} {pos : String} {af : Array Edge} {gd : Option (Nat × Bool)} {l : List Oper} {v : Value} (hs : ∀ W0, Stp P ops n (HB W F m0 W0) L ⟨some d, op, ty, pos, af, gd⟩ v) (hal : allocOf ⟨some d, op, ty, pos, af, gd⟩ = none) (hd : Nat.blt d n = true) (h : GSeq P ops n (Has W F m0) K l ((d, v) :: L) m) :
    GSeq P ops n (Has W F m0) K (⟨some d, op, ty, pos, af, gd⟩ :: l) L m := by
  unfold GSeq
  rw [hal]
  exact ⟨v, fun a ha W0 _ => hs W0 a ha, hd, h⟩
end

/-! ### A function's begin and end -/
def argL : Nat → List Value → Slots
  | _, [] => []
  | k, v :: l => (k, v) :: argL (k + 1) l
theorem look_argL : ∀ (vs : List Value) (k t : Nat) (v : Value), look (argL k vs) t = some v → k ≤ t ∧ vs[t - k]? = some v
  | [], k, t, v, h => by cases h
  | u :: vs, k, t, v, h => by
    unfold argL look at h
    cases hq : Nat.beq k t with
    | true => rw [hq] at h; cases h; obtain rfl := Nat.eq_of_beq_eq_true hq; simp
    | false =>
      rw [hq] at h
      obtain ⟨h1, h2⟩ := look_argL vs (k + 1) t v h
      refine ⟨by omega, ?_⟩
      rw [show t - k = (t - (k + 1)) + 1 by omega]
      simpa using h2
theorem enter {f : FuncId} {fn : Func} {c : Code} {vs : List Value} {R : Ending → World → Prop} (hf : P.funcs[f]? = some fn) (hb : fn.body = some c) (hn : fn.ntmps = n) (hl : Nat.ble vs.length n = true)
    (h : Wp P n W F c (argL 0 vs) [] (bodyPost P fn R)) : Calls P f vs.toArray W R := by
  have hl' : vs.length ≤ n := Nat.le_of_ble_eq_true hl
  refine calls_of_wp hf hb (h _ _ ⟨rfl, ?_, fun t v ht => ?_⟩ (Has.start W F))
  · simp [hn]; omega
  · obtain ⟨-, h2⟩ := look_argL _ _ _ _ ht
    have hlt : t < vs.length := by
      rcases Nat.lt_or_ge t vs.length with q | q
      · exact q
      · rw [List.getElem?_eq_none (by omega)] at h2; cases h2
    simp only [Nat.sub_zero] at h2
    rw [Array.getElem?_append_left (by simpa using hlt)]
    simpa using h2
theorem f_end {fn : Func} {R : Ending → World → Prop} {t : Nat} {v : Value} (hr : fn.results = #[.tmp t]) (hv : look L t = some v) (h : ∀ w, Has W F m w → R (.returned v) w) : Fin n W F (bodyPost P fn R) .ret L m := fun a w ha hw => by
  refine ⟨ha.defers, v, ?_, h w hw⟩
  rw [results_tmp hr]
  simp [ha.slot t v hv]
/-- A function's results. -/
inductive Res (P : Program) (L : Slots) (m : Mem) : List ResultVar → List Value → Prop
  | nil : Res P L m [] []
  | tmp {t : Nat} {v : Value} {l : List ResultVar} {vs : List Value} (hv : look L t = some v) (h : Res P L m l vs) : Res P L m (.tmp t :: l) (v :: vs)
  | agg {t k g o : Nat} {ty T : TypeId} {cs r : List Value} {l : List ResultVar} {vs : List Value} (hk : AggT P ty k) (hv : look L t = some (.pointer (some ⟨g, o, none⟩))) (hm : (g, cs, T) ∈ m) (hr : Sub cs o k r) (h : Res P L m l vs) : Res P L m (.cell t ty :: l) (.agg r.toArray :: vs)
  | cell {t g o : Nat} {ty T : TypeId} {cs : List Value} {v : Value} {l : List ResultVar} {vs : List Value} (hk : scalB P ty = true) (hv : look L t = some (.pointer (some ⟨g, o, none⟩))) (hm : (g, cs, T) ∈ m) (hr : At cs o v) (h : Res P L m l vs) : Res P L m (.cell t ty :: l) (v :: vs)
def resOne (tmps : Array Value) : ResultVar → Sem Value
  | .tmp t => pure (tmps.getD t undef)
  | .cell p t => do loadVar t (← asAddr (tmps.getD p undef))
theorem results_eq (fn : Func) (tmps : Array Value) : results fn tmps = (do let vs ← fn.results.mapM (resOne tmps); pure (if h : vs.size = 1 then vs[0] else .tuple vs)) := by
  unfold results
  congr 2
theorem run_res {a : Act} {w : World} (ha : Holds n L a) (hw : Has W F m w) {l : List ResultVar} {vs : List Value} (h : Res P L m l vs) :
    (l.mapM (resOne a.tmps)).run P w = .ok vs w := by
  have hg : ∀ {t : Nat} {v : Value}, look L t = some v → a.tmps.getD t undef = v := fun h => by have := ha.slot _ _ h; simp [this]
  induction h with
  | nil => rfl
  | tmp hv _ ih =>
    rw [List.mapM_cons, Sem.run_bind]
    simp only [resOne, hg hv, Sem.run_pure, Result.andThen_ok, Sem.run_bind, ih]
  | @agg t k g o ty T cs r l vs hk hv hm hr _ ih =>
    obtain ⟨d, hu, hd, hi⟩ := aggB_spec hk.ok
    have hgc := hw.cells _ hm
    have hl := run_loadVar_mid (P := P) w g o ty r d (fun j v hv => by rw [cell_of_row w g _ _ _ _ hgc]; simpa using hr.get j v hv) hu hd (by rw [hr.spec.2]; exact hi)
    have h0 : (asAddr (a.tmps.getD t undef)).run P w = .ok ⟨g, o, none⟩ w := by rw [hg hv]; rfl
    rw [List.mapM_cons, Sem.run_bind]
    simp only [resOne, Sem.run_bind, h0, Result.andThen_ok, hl]
    simp only [Sem.run_bind, ih, Result.andThen_ok, Sem.run_pure]
  | @cell t g o ty T cs v l vs hk hv hm hr _ ih =>
    have hgc := hw.cells _ hm
    have hc : w.cell? ⟨g, o, none⟩ = some v := by rw [cell_of_row w g _ _ _ _ hgc]; simpa using hr.get
    have hl : (loadVar ty ⟨g, o, none⟩).run P w = .ok v w := by simp [loadVar, scalB_spec hk, hc]
    have h0 : (asAddr (a.tmps.getD t undef)).run P w = .ok ⟨g, o, none⟩ w := by rw [hg hv]; rfl
    rw [List.mapM_cons, Sem.run_bind]
    simp only [resOne, Sem.run_bind, h0, Result.andThen_ok, hl]
    simp only [Sem.run_bind, ih, Result.andThen_ok, Sem.run_pure]
theorem f_ends {fn : Func} {R : Ending → World → Prop} {l : List ResultVar} {v1 v2 : Value} {vs : List Value} (hr : fn.results = l.toArray) (hv : Res P L m l (v1 :: v2 :: vs)) (h : ∀ w, Has W F m w → R (.returned (.tuple (v1 :: v2 :: vs).toArray)) w) : Fin n W F (bodyPost P fn R) .ret L m := fun a w ha hw => by
  refine ⟨ha.defers, _, ?_, h w hw⟩
  rw [results_eq, hr, List.mapM_toArray]
  simp only [Sem.run_bind, Sem.run_map, run_res ha hw hv, Result.andThen_ok]
  simp
theorem f_ends1 {fn : Func} {R : Ending → World → Prop} {l : List ResultVar} {v1 : Value} (hr : fn.results = l.toArray) (hv : Res P L m l [v1]) (h : ∀ w, Has W F m w → R (.returned v1) w) : Fin n W F (bodyPost P fn R) .ret L m := fun a w ha hw => by
  refine ⟨ha.defers, _, ?_, h w hw⟩
  rw [results_eq, hr, List.mapM_toArray]
  simp only [Sem.run_bind, Sem.run_map, run_res ha hw hv, Result.andThen_ok]
  simp
end
/-- What a function answers that changes nothing that was there. -/
abbrev Ans (v : Value) (W : World) : Ending → World → Prop := fun e w' => e = .returned v ∧ Below W.heap.size W w'
theorem ans {v : Value} {W w : World} {m : Mem} (h : Has W (fun _ => False) m w) : Ans v W (.returned v) w := ⟨rfl, h.keep.below⟩
theorem ans_b {b : Bool} {W w : World} {m : Mem} (hb : b = true) (h : Has W (fun _ => False) m w) : Ans (.bool true) W (.returned (.bool b)) w := by subst hb; exact ans h
section
variable {P : Program} {n : Nat} {W : World} {F : Nat → Prop} {m : Mem} {L : Slots} {Q : Exit → Act → World → Prop}
theorem w_draw_l {id : Nat} {l : List Oper} (hm : P.follows .mixedOrders = true) (hq : l.all isQ = true) (hB : Region.lexB .any l.toArray = true) (h : QSeq P l.toArray n (Has W F m) (fun L' => Fin n W F Q .normal L' m) l L) : Wp P n W F (.region id l.toArray true) L m Q := w_draw hm hB h
theorem w_reg_l {id : Nat} {l : List Oper} (h : SSeq P l.toArray n W F Q l L m) : Wp P n W F (.region id l.toArray false) L m Q := w_reg h
theorem w_plain_l {id : Nat} {l : List Oper} (h : QSeq P l.toArray n (Has W F m) (fun L' => Fin n W F Q .normal L' m) l L) : Wp P n W F (.region id l.toArray false) L m Q := w_plain h
theorem gv_true {v : Value} : gv true v = v := rfl
theorem gv_tt {b : Bool} {v : Value} : gv (true && b) v = gv b v := by cases b <;> rfl

/-! ### Loops -/
/-- What is known of l is known of L' (slots in S are told already). -/
def Cov (S : List Nat) (L' l : Slots) : Prop := ∀ t, S.elem t = false → ∀ v, look l t = some v → look L' t = some v
theorem Cov.nil {S : List Nat} {L' : Slots} : Cov S L' [] := fun t _ v h => by cases h
theorem Cov.seen {S : List Nat} {L' l : Slots} {t : Nat} {v : Value} (h : S.elem t = true) (hc : Cov S L' l) : Cov S L' ((t, v) :: l) := fun u hu x hx => by
  unfold look at hx
  cases hq : Nat.beq t u with
  | true => obtain rfl := Nat.eq_of_beq_eq_true hq; rw [h] at hu; cases hu
  | false => rw [hq] at hx; exact hc u hu x hx
theorem Cov.cons {S : List Nat} {L' l : Slots} {t : Nat} {v : Value} (h : look L' t = some v) (hc : Cov (t :: S) L' l) : Cov S L' ((t, v) :: l) := fun u hu x hx => by
  unfold look at hx
  cases hq : Nat.beq t u with
  | true => obtain rfl := Nat.eq_of_beq_eq_true hq; rw [hq] at hx; cases hx; exact h
  | false =>
    rw [hq] at hx
    refine hc u ?_ x hx
    have : (u == t) = false := by
      rw [beq_eq_false_iff_ne]
      rintro rfl
      rw [nbeq] at hq; exact Bool.noConfusion hq
    rw [List.elem_cons, this, hu]
theorem Holds.cov {a : Act} {L' l : Slots} (h : Holds n L' a) (hc : Cov [] L' l) : Holds n l a := ⟨h.defers, h.size, fun t v ht => h.slot t v (hc t rfl v ht)⟩
theorem Has.sub {m' l : Mem} {w : World} (h : Has W F m' w) (hs : l.Sublist m') : Has W F l w := ⟨h.keep, fun b hb => h.cells b (hs.subset hb), fun b hb => h.own b (hs.subset hb), h.nodup.sublist (hs.map _)⟩
/-- The next round may begin so. -/
def Nxt (n : Nat) (W : World) (F : Nat → Prop) (l : Slots) (m : Mem) (R : Act → World → Prop) : Prop := ∀ a w, Holds n l a → Has W F m w → R a w
theorem w_loop {α : Type} {c : Code} (V : α → Slots) (M : α → Mem) (I : α → Prop) (μ : α → Nat) (L0 : Slots) (s0 : α) (hI : I s0) (hc : Cov [] L (V s0 ++ L0)) (hm : (M s0).Sublist m)
    (round : ∀ s, I s → ∀ R : Act → World → Prop, (∀ s', I s' → μ s' < μ s → Nxt n W F (V s' ++ L0) (M s') R) → Wp P n W F c (V s ++ L0) (M s) (Exit.then R Q)) : Wp P n W F (.loop c) L m Q := fun a w ha hw => by
  have key : ∀ k s, I s → μ s < k → ∀ a w, Holds n (V s ++ L0) a → Has W F (M s) w → Code.rounds P c Q k a w := by
    intro k
    induction k with
    | zero => intro s _ h; exact absurd h (Nat.not_lt_zero _)
    | succ k ih =>
      intro s hs hk a w ha hw
      rw [rounds_succ]
      exact round s hs (Code.rounds P c Q k) (fun s' hs' hlt a w ha hw => ih s' hs' (Nat.lt_of_lt_of_le hlt (Nat.le_of_lt_succ hk)) a w ha hw) a w ha hw
  exact wp_loop_rounds (μ s0 + 1) (key _ s0 hI (Nat.lt_succ_self _) a w (ha.cov hc) (hw.sub hm))
/-- A loop that changes no block that is known. -/
theorem w_loop0 {α : Type} {c : Code} (V : α → Slots) (I : α → Prop) (μ : α → Nat) (s0 : α) (hI : I s0) (hc : Cov [] L (V s0 ++ L))
    (round : ∀ s, I s → ∀ R : Act → World → Prop, (∀ s', I s' → μ s' < μ s → Nxt n W F (V s' ++ L) m R) → Wp P n W F c (V s ++ L) m (Exit.then R Q)) : Wp P n W F (.loop c) L m Q :=
  w_loop V (fun _ => m) I μ L s0 hI hc (List.Sublist.refl _) round
theorem f_back {l : Slots} {m' : Mem} {R : Act → World → Prop} (hB : Nxt n W F l m' R) (hc : Cov [] L l) (hs : m'.Sublist m) : Fin n W F (Exit.then R Q) .normal L m := fun a w ha hw => hB a w (ha.cov hc) (hw.sub hs)
end
attribute [irreducible] Cov Nxt Wp Fin QSeq SSeq GSeq Yld Stp Cal SCal BSl
end Go.Proofs.Ytbaeaiiohkfieaa.Sq
