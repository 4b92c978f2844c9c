/-
  Symbolic walks: a state is told by what is known of its slots (a list) and of its blocks (a list); a region whose operations only read, reckon and call is walked once, in the order of the text.
-/
import Derived.Test.YtfcffemglcgbnaaProg
import Derived.Deep.Quiet
import Derived.Deep.MidRow
import Derived.Laws.Rows
import Derived.Laws.StructEq
import Derived.Below
import Derived.Deep.AppendSrc
import Derived.WalkKit
import Derived.LoopNIn
namespace Go.Proofs.Ytfcffemglcgbnaa.Sq
open Go.RowKit
set_option linter.unusedVariables false
set_option linter.unusedSimpArgs false

abbrev Slots := List (Nat × Value)
def look : Slots → Nat → Option Value
  | [], _ => none
  | (d, v) :: L, t => match Nat.beq d t with
    | true => some v
    | false => look L t
inductive Pc
  | blk (g : Nat) (cs : List Value) (t : TypeId)
  | vw (A : Option Addr) (c k : Nat) (rows : List (List Value))
  | own (A : Option Addr) (c k : Nat) (rows : List (List Value)) (t : TypeId)
  | obj (bs : List Nat) (p : (Nat → Option Obj) → Prop)
  | one (b : Nat) (o : Obj)
abbrev Mem := List Pc
def bkA : Option Addr → Nat
  | some a => a.block
  | none => 0
def ofA : Option Addr → Nat
  | some a => a.off
  | none => 0
structure Reads (w : World) (A : Option Addr) (c k : Nat) (rows : List (List Value)) : Prop where
  cap : rows.length ≤ c
  len : ∀ row ∈ rows, row.length = k ∧ ∀ v ∈ row, v.oneCell' = true
  at_ : rows ≠ [] → ∃ a, A = some a ∧ a.spot = none ∧ a.block < w.heap.size
  row : ∀ i row, rows[i]? = some row → ∀ j v, row[j]? = some v → w.cell? ⟨bkA A, ofA A + i * k + j, none⟩ = some v
def Owns (w : World) (A : Option Addr) (c k : Nat) (rows : List (List Value)) (t : TypeId) : Prop :=
  (∀ row ∈ rows, row.length = k ∧ ∀ v ∈ row, v.oneCell' = true) ∧
  ((c = 0 ∧ rows = []) ∨ (0 < c ∧ ∃ g rest, A = some ⟨g, 0, none⟩ ∧ w.heap[g]? = some (.cells (rows.flatten ++ rest).toArray t (0, 0)) ∧ (rows.flatten ++ rest).length = c * k ∧ rows.length ≤ c))
def bksA (A : Option Addr) (c : Nat) : List Nat := if c = 0 then [] else match A with
  | some a => [a.block]
  | none => []
def Pc.wr : Pc → List Nat
  | .blk g _ _ => [g]
  | .vw .. => []
  | .own A c _ _ _ => bksA A c
  | .obj bs _ => bs
  | .one b _ => [b]
def Pc.ok (w : World) : Pc → Prop
  | .blk g cs t => w.heap[g]? = some (.cells cs.toArray t (0, 0))
  | .vw A c k rows => Reads w A c k rows
  | .own A c k rows t => Owns w A c k rows t
  | .obj bs p => (∀ b ∈ bs, b < w.heap.size) ∧ p (fun b => if b ∈ bs then w.heap[b]? else none)
  | .one b o => w.heap[b]? = some o
def wrs (m : Mem) : List Nat := m.flatMap Pc.wr

theorem nbeq (t : Nat) : Nat.beq t t = true := by induction t with | zero => rfl | succ t ih => exact ih
structure Fm where
  n : Nat
  ds : List Deferred
  ro : Option Nat
instance : Coe Fm Nat := ⟨Fm.n⟩
def fen (ro : Option Nat) : Fence := { Fence.wide with round := ro }
theorem fen_none {n : Fm} (h : n.ro = none) : fen n.ro = Fence.wide := by rw [h]; rfl
structure Holds (n : Fm) (L : Slots) (a : Act) : Prop where
  defers : a.defers = n.ds
  size : a.tmps.size = n.n
  slot : ∀ t v, look L t = some v → a.tmps[t]? = some v
structure Keep (F : Nat → Prop) (W w : World) : Prop where
  os : w.os = W.os
  tape : w.tape = W.tape
  output : w.output = W.output
  size : W.heap.size ≤ w.heap.size
  block : ∀ k, k < W.heap.size → ¬ F k → w.heap[k]? = W.heap[k]?
structure Chg (bs : List Nat) (w w' : World) : Prop where
  os : w'.os = w.os
  tape : w'.tape = w.tape
  output : w'.output = w.output
  size : w.heap.size ≤ w'.heap.size
  block : ∀ k, k < w.heap.size → k ∉ bs → w'.heap[k]? = w.heap[k]?
theorem Chg.of_below {w w' : World} (h : Below w.heap.size w w') (bs : List Nat) : Chg bs w w' := ⟨h.os, h.tape, h.output, h.size, fun k hk _ => h.block k hk⟩
structure Has (W : World) (F : Nat → Prop) (m : Mem) (w : World) : Prop where
  keep : Keep F W w
  ok : ∀ r ∈ m, r.ok w
  mine : ∀ g ∈ wrs m, W.heap.size ≤ g ∨ F g
  nodup : (wrs m).Nodup
  apart : ∀ A c k rows, Pc.vw A c k rows ∈ m → rows ≠ [] → bkA A ∉ wrs m
theorem Keep.refl (F : Nat → Prop) (W : World) : Keep F W W := ⟨rfl, rfl, rfl, Nat.le_refl _, fun _ _ _ => rfl⟩
theorem Keep.below {W w : World} (h : Keep (fun _ => False) W w) : Below W.heap.size W w := ⟨h.os, h.tape, h.output, h.size, fun k hk => h.block k hk id⟩
theorem Keep.step {F : Nat → Prop} {W w w' : World} (h : Keep F W w) (hb : Below w.heap.size w w') : Keep F W w' :=
  ⟨hb.os.trans h.os, hb.tape.trans h.tape, hb.output.trans h.output, Nat.le_trans h.size hb.size, fun k hk hf => (hb.block k (Nat.lt_of_lt_of_le hk h.size)).trans (h.block k hk hf)⟩
theorem Keep.chg {F : Nat → Prop} {W w w' : World} {bs : List Nat} (h : Keep F W w) (hb : Chg bs w w') (hm : ∀ g ∈ bs, W.heap.size ≤ g ∨ F g) : Keep F W w' :=
  ⟨hb.os.trans h.os, hb.tape.trans h.tape, hb.output.trans h.output, Nat.le_trans h.size hb.size, fun k hk hf => (hb.block k (Nat.lt_of_lt_of_le hk h.size) (fun hin => (hm k hin).elim (fun q => absurd hk (Nat.not_lt.2 q)) hf)).trans (h.block k hk hf)⟩
theorem lt_of_heap {w : World} {g : Nat} {o : Obj} (h : w.heap[g]? = some o) : g < w.heap.size := by
  rcases Nat.lt_or_ge g w.heap.size with h' | h'
  · exact h'
  · rw [Array.getElem?_eq_none h'] at h; cases h
theorem bksA_mem {A : Option Addr} {c g : Nat} (h : g ∈ bksA A c) : c ≠ 0 ∧ ∃ a, A = some a ∧ a.block = g := by
  unfold bksA at h
  split at h
  · cases h
  · rename_i hc
    split at h
    · rename_i a
      exact ⟨hc, a, rfl, (List.mem_singleton.1 h).symm⟩
    · cases h
theorem bksA_nodup (A : Option Addr) (c : Nat) : (bksA A c).Nodup := by
  unfold bksA
  split
  · exact List.nodup_nil
  · split
    · exact List.nodup_cons.2 ⟨(fun h => by cases h), List.nodup_nil⟩
    · exact List.nodup_nil
theorem wr_own {A : Option Addr} {c k : Nat} {rows : List (List Value)} {t : TypeId} : (Pc.own A c k rows t).wr = bksA A c := rfl
theorem own_nodup {A : Option Addr} {c k : Nat} {rows : List (List Value)} {t : TypeId} : (Pc.own A c k rows t).wr.Nodup := bksA_nodup A c
theorem own_mem {A : Option Addr} {c k : Nat} {rows : List (List Value)} {t : TypeId} {g : Nat} (h : g ∈ (Pc.own A c k rows t).wr) : c ≠ 0 ∧ ∃ a, A = some a ∧ a.block = g := bksA_mem h
theorem Pc.wr_lt {w : World} {r : Pc} (h : r.ok w) : ∀ g ∈ r.wr, g < w.heap.size := by
  cases r with
  | blk g cs t => exact fun x hx => by obtain rfl := List.mem_singleton.1 hx; exact lt_of_heap h
  | vw => exact fun x hx => by cases hx
  | own A c k rows t =>
    intro x hx
    obtain ⟨hc, a, rfl, rfl⟩ := bksA_mem hx
    rcases h.2 with ⟨h0, _⟩ | ⟨_, g, rest, e, hg, _⟩
    · exact absurd h0 hc
    · cases e; exact lt_of_heap hg
  | obj bs p => exact h.1
  | one b o => exact fun x hx => by obtain rfl := List.mem_singleton.1 hx; exact lt_of_heap h
theorem Reads.same {w w' : World} {A : Option Addr} {c k : Nat} {rows : List (List Value)} (h : Reads w A c k rows) (hs : w.heap.size ≤ w'.heap.size) (he : rows ≠ [] → w'.heap[bkA A]? = w.heap[bkA A]?) : Reads w' A c k rows :=
  ⟨h.cap, h.len, fun hn => by obtain ⟨a, h1, h2, h3⟩ := h.at_ hn; exact ⟨a, h1, h2, Nat.lt_of_lt_of_le h3 hs⟩, fun i row hr j v hv => by
    have hn : rows ≠ [] := fun e => by rw [e] at hr; cases hr
    rw [← h.row i row hr j v hv]
    exact World.cell?_of_block (he hn)⟩
theorem Owns.same {w w' : World} {A : Option Addr} {c k : Nat} {rows : List (List Value)} {t : TypeId} (h : Owns w A c k rows t) (he : ∀ g ∈ bksA A c, w'.heap[g]? = w.heap[g]?) : Owns w' A c k rows t := by
  refine ⟨h.1, ?_⟩
  rcases h.2 with h0 | ⟨hc, g, rest, rfl, hg, h3, h4⟩
  · exact .inl h0
  · exact .inr ⟨hc, g, rest, rfl, by rw [he g (by unfold bksA; rw [if_neg (by omega)]; exact List.mem_singleton.2 rfl)]; exact hg, h3, h4⟩
theorem Pc.ok_same {w w' : World} {r : Pc} (h : r.ok w) (hs : w.heap.size ≤ w'.heap.size) (he : ∀ g ∈ r.wr, w'.heap[g]? = w.heap[g]?) (hv : ∀ A c k rows, r = .vw A c k rows → rows ≠ [] → w'.heap[bkA A]? = w.heap[bkA A]?) : r.ok w' := by
  cases r with
  | blk g cs t => exact (he g (List.mem_singleton.2 rfl)).trans h
  | vw A c k rows => exact Reads.same h hs (hv A c k rows rfl)
  | own A c k rows t => exact Owns.same h he
  | obj bs p =>
    refine ⟨fun b hb => Nat.lt_of_lt_of_le (h.1 b hb) hs, ?_⟩
    have e : (fun b => if b ∈ bs then w'.heap[b]? else none) = (fun b => if b ∈ bs then w.heap[b]? else none) := by
      funext b
      split
      · rename_i hb; exact he b hb
      · rfl
    rw [e]; exact h.2
  | one b o => exact (he b (List.mem_singleton.2 rfl)).trans h
theorem wrs_cons (r : Pc) (m : Mem) : wrs (r :: m) = r.wr ++ wrs m := by unfold wrs; rw [List.flatMap_cons]
theorem wrs_append (m m' : Mem) : wrs (m ++ m') = wrs m ++ wrs m' := by unfold wrs; rw [List.flatMap_append]
theorem mem_wrs {m : Mem} {r : Pc} (h : r ∈ m) {g : Nat} (hg : g ∈ r.wr) : g ∈ wrs m := List.mem_flatMap.2 ⟨r, h, hg⟩
theorem Has.wr_lt {W w : World} {F : Nat → Prop} {m : Mem} (h : Has W F m w) : ∀ g ∈ wrs m, g < w.heap.size := fun g hg => by
  obtain ⟨r, hr, hx⟩ := List.mem_flatMap.1 hg
  exact Pc.wr_lt (h.ok r hr) g hx
theorem Has.view_lt {W w : World} {F : Nat → Prop} {m : Mem} (h : Has W F m w) {A : Option Addr} {c k : Nat} {rows : List (List Value)} (hm : Pc.vw A c k rows ∈ m) (hn : rows ≠ []) : bkA A < w.heap.size := by
  obtain ⟨a, rfl, _, h3⟩ := (h.ok _ hm : Reads w A c k rows).at_ hn
  exact h3
theorem Has.step {W w w' : World} {F : Nat → Prop} {m : Mem} (h : Has W F m w) (hb : Below w.heap.size w w') : Has W F m w' :=
  ⟨h.keep.step hb, fun r hr => Pc.ok_same (h.ok r hr) hb.size (fun g hg => hb.block g (Pc.wr_lt (h.ok r hr) g hg)) (fun A c k rows e hn => by subst e; exact hb.block _ (h.view_lt hr hn)), h.mine, h.nodup, h.apart⟩
theorem below_drawn (w : World) : Below w.heap.size w { w with drawn := w.drawn + 1 } := ⟨rfl, rfl, rfl, Nat.le_refl _, fun _ _ => rfl⟩
theorem Has.drew {W w : World} {F : Nat → Prop} {m : Mem} (h : Has W F m w) : Has W F m { w with drawn := w.drawn + 1 } := h.step (below_drawn w)
theorem Has.start (W : World) (F : Nat → Prop) : Has W F [] W := ⟨Keep.refl F W, fun _ h => (by cases h), fun _ h => (by cases h), List.nodup_nil, fun _ _ _ _ h => (by cases h)⟩
theorem Has.head {W w w' : World} {F : Nat → Prop} {m : Mem} {r r' : Pc} (h : Has W F (r :: m) w) (hc : Chg r.wr w w') (hok : r'.ok w') (hwr : ∀ g ∈ r'.wr, g ∈ r.wr ∨ w.heap.size ≤ g) (hnd : r'.wr.Nodup)
    (hv : ∀ A c k rows, r' = .vw A c k rows → rows ≠ [] → bkA A ∈ r.wr ∨ w.heap.size ≤ bkA A ∨ bkA A ∉ wrs m) : Has W F (r' :: m) w' := by
  have hn := h.nodup
  rw [wrs_cons, List.nodup_append] at hn
  obtain ⟨hn1, hn2, hn3⟩ := hn
  have hlt : ∀ g ∈ wrs m, g < w.heap.size := fun g hg => h.wr_lt g (by rw [wrs_cons]; exact List.mem_append_right _ hg)
  have hout : ∀ g, (g ∈ r.wr ∨ w.heap.size ≤ g) → g ∉ wrs m := fun g hg hin => by
    rcases hg with hg | hg
    · exact hn3 g hg g hin rfl
    · have := hlt g hin; omega
  refine ⟨h.keep.chg hc (fun g hg => h.mine g (by rw [wrs_cons]; exact List.mem_append_left _ hg)), fun x hx => ?_, fun g hg => ?_, ?_, fun A c k rows hx hne => ?_⟩
  · rcases List.mem_cons.1 hx with rfl | hx
    · exact hok
    · have hxo := h.ok x (List.mem_cons_of_mem _ hx)
      refine Pc.ok_same hxo hc.size (fun g hg => hc.block g (Pc.wr_lt hxo g hg) (fun hin => hout g (.inl hin) (mem_wrs hx hg))) (fun A c k rows e hne => ?_)
      subst e
      refine hc.block _ (h.view_lt (List.mem_cons_of_mem _ hx) hne) (fun hin => ?_)
      exact h.apart A c k rows (List.mem_cons_of_mem _ hx) hne (by rw [wrs_cons]; exact List.mem_append_left _ hin)
  · rw [wrs_cons] at hg
    rcases List.mem_append.1 hg with hg | hg
    · rcases hwr g hg with q | q
      · exact h.mine g (by rw [wrs_cons]; exact List.mem_append_left _ q)
      · exact .inl (Nat.le_trans h.keep.size q)
    · exact h.mine g (by rw [wrs_cons]; exact List.mem_append_right _ hg)
  · rw [wrs_cons, List.nodup_append]
    exact ⟨hnd, hn2, fun a ha b hb e => by subst e; exact hout a (hwr a ha) hb⟩
  · rw [wrs_cons]
    intro hin
    rcases List.mem_append.1 hin with hin | hin
    · rcases List.mem_cons.1 hx with e | hx
      · subst e; cases hin
      · rcases hwr _ hin with q | q
        · exact h.apart A c k rows (List.mem_cons_of_mem _ hx) hne (by rw [wrs_cons]; exact List.mem_append_left _ q)
        · have := h.view_lt (List.mem_cons_of_mem _ hx) hne; omega
    · rcases List.mem_cons.1 hx with e | hx
      · rcases hv A c k rows e.symm hne with q | q | q
        · exact hout _ (.inl q) hin
        · exact hout _ (.inr q) hin
        · exact q hin
      · exact h.apart A c k rows (List.mem_cons_of_mem _ hx) hne (by rw [wrs_cons]; exact List.mem_append_right _ hin)
theorem Has.nothing {W w : World} {F : Nat → Prop} {m : Mem} (h : Has W F m w) : Has W F (.vw none 0 0 [] :: m) w := by
  refine ⟨h.keep, fun x hx => ?_, fun g hg => h.mine g hg, h.nodup, fun A c k rows hx hne => ?_⟩
  · rcases List.mem_cons.1 hx with rfl | hx
    · exact ⟨Nat.le_refl _, fun _ h => (by cases h), fun h => absurd rfl h, fun i row h => (by cases h)⟩
    · exact h.ok x hx
  · rcases List.mem_cons.1 hx with e | hx
    · cases e; exact absurd rfl hne
    · exact h.apart A c k rows hx hne
theorem Has.add {W w w' : World} {F : Nat → Prop} {m : Mem} {r' : Pc} (h : Has W F m w) (hb : Below w.heap.size w w') (hok : r'.ok w') (hwr : ∀ g ∈ r'.wr, w.heap.size ≤ g) (hnd : r'.wr.Nodup)
    (hv : ∀ A c k rows, r' = .vw A c k rows → rows ≠ [] → w.heap.size ≤ bkA A ∨ bkA A ∉ wrs m) : Has W F (r' :: m) w' :=
  h.nothing.head (Chg.of_below hb _) hok (fun g hg => .inr (hwr g hg)) hnd (fun A c k rows e hne => .inr (hv A c k rows e hne))
theorem Has.alloc {W w : World} {F : Nat → Prop} {m : Mem} (h : Has W F m w) (cs : List Value) (t : TypeId) : Has W F (.blk w.heap.size cs t :: m) (w.alloc (.cells cs.toArray t)) :=
  h.add ((Below.refl _ _).alloc (Nat.le_refl _) _) (heap_alloc_new w _) (fun g hg => by obtain rfl := List.mem_singleton.1 hg; exact Nat.le_refl _) (List.nodup_cons.2 ⟨(fun h => by cases h), List.nodup_nil⟩) (fun _ _ _ _ e => by cases e)
theorem Has.perm {W w : World} {F : Nat → Prop} {m m' : Mem} (hp : m.Perm m') (h : Has W F m w) : Has W F m' w :=
  have hq : (wrs m).Perm (wrs m') := hp.flatMap_right _
  ⟨h.keep, fun b hb => h.ok b (hp.mem_iff.2 hb), fun g hg => h.mine g (hq.mem_iff.2 hg), hq.nodup_iff.1 h.nodup, fun A c k rows hm hne hin => h.apart A c k rows (hp.mem_iff.2 hm) hne (hq.mem_iff.2 hin)⟩
theorem wrs_sub {m l : Mem} (h : l.Sublist m) : (wrs l).Sublist (wrs m) := by
  induction h with
  | slnil => exact List.Sublist.refl _
  | cons a _ ih => rw [wrs_cons]; exact ih.trans (List.sublist_append_right _ _)
  | cons_cons a _ ih => rw [wrs_cons, wrs_cons]; exact ih.append_left _
theorem Has.sub {W w : World} {F : Nat → Prop} {m l : Mem} (h : Has W F m w) (hs : l.Sublist m) : Has W F l w :=
  ⟨h.keep, fun b hb => h.ok b (hs.subset hb), fun g hg => h.mine g ((wrs_sub hs).subset hg), h.nodup.sublist (wrs_sub hs), fun A c k rows hm hne hin => h.apart A c k rows (hs.subset hm) hne ((wrs_sub hs).subset hin)⟩
inductive Plc : Mem → Pc → (Pc → Mem) → Prop
  | hit {r : Pc} {m : Mem} : Plc (r :: m) r (fun r' => r' :: m)
  | miss {b r : Pc} {m : Mem} {f : Pc → Mem} (h : Plc m r f) : Plc (b :: m) r (fun r' => b :: f r')
theorem Plc.perm {m : Mem} {r : Pc} {f : Pc → Mem} (h : Plc m r f) : ∃ m0, m.Perm (r :: m0) ∧ ∀ r', (f r').Perm (r' :: m0) := by
  induction h with
  | hit => exact ⟨_, List.Perm.refl _, fun _ => List.Perm.refl _⟩
  | @miss b r m f _ ih =>
    obtain ⟨m0, h1, h2⟩ := ih
    exact ⟨b :: m0, (h1.cons b).trans (List.Perm.swap ..), fun r' => ((h2 r').cons b).trans (List.Perm.swap ..)⟩
theorem Plc.mem {m : Mem} {r : Pc} {f : Pc → Mem} (h : Plc m r f) : r ∈ m := by
  obtain ⟨m0, h1, _⟩ := h.perm
  exact h1.mem_iff.2 (List.mem_cons_self ..)
theorem Has.put {W w w' : World} {F : Nat → Prop} {m : Mem} {r r' : Pc} {f : Pc → Mem} (h : Has W F m w) (hp : Plc m r f) (hc : Chg r.wr w w') (hok : r'.ok w') (hwr : ∀ g ∈ r'.wr, g ∈ r.wr ∨ w.heap.size ≤ g) (hnd : r'.wr.Nodup)
    (hv : ∀ A c k rows, r' = .vw A c k rows → rows ≠ [] → bkA A ∈ r.wr ∨ w.heap.size ≤ bkA A) : Has W F (f r') w' := by
  obtain ⟨m0, h1, h2⟩ := hp.perm
  exact ((h.perm h1).head hc hok hwr hnd (fun A c k rows e hne => (hv A c k rows e hne).imp id .inl)).perm (h2 r').symm

def opv (L : Slots) : Operand → Option Value
  | .tmp t => look L t
  | .const v => some v
  | .global g => some (.pointer (some ⟨g, 0, none⟩))
  | .func f => some (.func (.func f) #[] #[])
theorem ev {n : Fm} {L : Slots} {a : Act} (h : Holds n L a) {x : Operand} {v : Value} (hx : opv L x = some v) : a.eval x = v := by
  cases x with
  | tmp t =>
    have := h.slot t v hx
    simp [Act.eval, this]
  | const c => exact Option.some.inj hx
  | global g => exact Option.some.inj hx
  | func f => exact Option.some.inj hx
def opvs (L : Slots) : List Operand → Option (List Value)
  | [] => some []
  | x :: l => match opv L x, opvs L l with
    | some v, some vs => some (v :: vs)
    | _, _ => none
theorem evs {n : Fm} {L : Slots} {a : Act} (h : Holds n L a) : ∀ {l : List Operand} {vs : List Value}, opvs L l = some vs → l.map a.eval = vs
  | [], vs, e => by cases e; rfl
  | x :: l, vs, e => by
    unfold opvs at e
    cases h1 : opv L x with
    | none => rw [h1] at e; cases e
    | some v =>
      cases h2 : opvs L l with
      | none => rw [h1, h2] at e; cases e
      | some us =>
        rw [h1, h2] at e
        cases e
        rw [List.map_cons, ev h h1, evs h h2]
def putL (d : Option Tmp) (v : Value) (L : Slots) : Slots := match d with
  | some t => (t, v) :: L
  | none => L
def fits (n : Nat) (d : Option Tmp) : Bool := match d with
  | some t => Nat.blt t n
  | none => true
theorem Holds.put {n : Fm} {L : Slots} {a : Act} (h : Holds n L a) {d : Option Tmp} (hd : fits n d = true) (v : Value) : Holds n (putL d v L) (a.put d v) := by
  cases d with
  | none => exact h
  | some t =>
    have ht : t < n := by simpa [fits, Nat.blt_eq] using hd
    refine ⟨h.defers, by simpa [Act.put] using h.size, fun u x hx => ?_⟩
    unfold putL look at hx
    by_cases e : t = u
    · subst e
      rw [nbeq t] at hx
      cases hx
      simp [Act.put, h.size, ht]
    · rw [show Nat.beq t u = false from by cases hq : Nat.beq t u; rfl; exact absurd (Nat.eq_of_beq_eq_true hq) e] at hx
      simp only [Act.put, Array.getElem?_setIfInBounds_ne e]
      exact h.slot u x hx

section
variable {P : Program} {ops : Array Oper} {n : Fm} {C : World → Prop} {W : World} {F : Nat → Prop} {m : Mem} {L : Slots} {Q : Exit → Act → World → Prop} {K : Slots → Prop}
def Wp (P : Program) (n : Fm) (W : World) (F : Nat → Prop) (c : Code) (L : Slots) (m : Mem) (Q : Exit → Act → World → Prop) : Prop := ∀ a w, Holds n L a → Has W F m w → c.wpIn (fen n.ro) 0 P Q a w
def Fin (n : Fm) (W : World) (F : Nat → Prop) (Q : Exit → Act → World → Prop) (e : Exit) (L : Slots) (m : Mem) : Prop := ∀ a w, Holds n L a → Has W F m w → Q e a w
theorem w_seq {x y : Code} (h : Wp P n W F x L m (Exit.then (y.wpIn (fen n.ro) 0 P Q) Q)) : Wp P n W F (.seq x y) L m Q := fun a w ha hw => wpIn_seq (h a w ha hw)
theorem w_skip (h : Fin n W F Q .normal L m) : Wp P n W F .skip L m Q := fun a w ha hw => wpIn_skip (h a w ha hw)
theorem w_ret (h : Fin n W F Q .ret L m) : Wp P n W F .ret L m Q := fun a w ha hw => wpIn_ret (h a w ha hw)
theorem w_exit {id : Nat} (h : Fin n W F Q (.exit id) L m) : Wp P n W F (.exit id) L m Q := fun a w ha hw => wpIn_exit (h a w ha hw)
theorem w_block {id : Nat} {c : Code} (h : Wp P n W F c L m (Exit.inBlock id Q)) : Wp P n W F (.block id c) L m Q := fun a w ha hw => wpIn_block (h a w ha hw)
theorem w_cond {c : Operand} {x y : Code} {b : Bool} (hc : opv L c = some (.bool b)) (ht : b = true → Wp P n W F x L m Q) (hf : b = false → Wp P n W F y L m Q) : Wp P n W F (.cond c x y) L m Q :=
  fun a w ha hw => wpIn_cond_split (ev ha hc) (fun e => ht e a w ha hw) (fun e => hf e a w ha hw)
theorem w_cond_t {c : Operand} {x y : Code} (hc : opv L c = some (.bool true)) (ht : Wp P n W F x L m Q) : Wp P n W F (.cond c x y) L m Q := fun a w ha hw => wpIn_cond_true (ev ha hc) (ht a w ha hw)
theorem w_cond_f {c : Operand} {x y : Code} (hc : opv L c = some (.bool false)) (hf : Wp P n W F y L m Q) : Wp P n W F (.cond c x y) L m Q := fun a w ha hw => wpIn_cond_false (ev ha hc) (hf a w ha hw)
theorem w_cond_tt {c : Operand} {x y : Code} {b : Bool} (hc : opv L c = some (.bool b)) (hb : b = true) (ht : Wp P n W F x L m Q) : Wp P n W F (.cond c x y) L m Q := w_cond hc (fun _ => ht) (fun e => by rw [hb] at e; cases e)
theorem w_cond_ff {c : Operand} {x y : Code} {b : Bool} (hc : opv L c = some (.bool b)) (hb : b = false) (hf : Wp P n W F y L m Q) : Wp P n W F (.cond c x y) L m Q := w_cond hc (fun e => by rw [hb] at e; cases e) (fun _ => hf)
theorem f_then {y : Code} (h : Wp P n W F y L m Q) : Fin n W F (Exit.then (y.wpIn (fen n.ro) 0 P Q) Q) .normal L m := h
theorem f_ret {K : Act → World → Prop} (h : Fin n W F Q .ret L m) : Fin n W F (Exit.then K Q) .ret L m := h
theorem f_out {K : Act → World → Prop} {id : Nat} (h : Fin n W F Q (.exit id) L m) : Fin n W F (Exit.then K Q) (.exit id) L m := h
theorem f_ret_block {id : Nat} (h : Fin n W F Q .ret L m) : Fin n W F (Exit.inBlock id Q) .ret L m := h
theorem f_norm_block {id : Nat} (h : Fin n W F Q .normal L m) : Fin n W F (Exit.inBlock id Q) .normal L m := h
theorem f_exit_block {id : Nat} (h : Fin n W F Q .normal L m) : Fin n W F (Exit.inBlock id Q) (.exit id) L m := fun a w ha hw => by
  show if id = id then Q .normal a w else _
  rw [if_pos rfl]
  exact h a w ha hw

def Yld (P : Program) (n : Fm) (C : World → Prop) (L : Slots) (o : Oper) (v : Value) : Prop := ∀ a, Holds n L a → ∀ w, C w → o.quietAt P a C w v
def QSeq (P : Program) (ops : Array Oper) (n : Fm) (C : World → Prop) (K : Slots → Prop) : List Oper → Slots → Prop
  | [], L => K L
  | o :: l, L => ∃ v, (∀ a, Holds n L a → YieldsIn P ops C o v a) ∧ fits n o.dst = true ∧ QSeq P ops n C K l (putL o.dst v L)
theorem QSeq.quiet {Q' : Act → Prop} (hK : ∀ L a, Holds n L a → K L → Q' a) : ∀ (l : List Oper) (L : Slots) (a : Act), Holds n L a → QSeq P ops n C K l L → wpQuiet P ops C Q' l a
  | [], L, a, ha, h => hK L a ha h
  | o :: l, L, a, ha, h => by
    obtain ⟨v, hy, hd, hn⟩ := h
    unfold wpQuiet
    rcases hy a ha with ⟨hw, hv⟩ | ⟨hw, rfl⟩
    · rw [if_pos hw]
      exact ⟨v, hv, QSeq.quiet hK l _ _ (ha.put hd v) hn⟩
    · rw [if_neg (by rw [hw]; exact Bool.false_ne_true)]
      exact QSeq.quiet hK l _ _ (ha.put hd _) hn
theorem wide_of {c : Code} {a : Act} {w : World} (hro : n.ro = none) (h : c.wp P Q a w) : c.wpIn (fen n.ro) 0 P Q a w := by
  rw [fen_none hro]; exact wpIn_wide.2 h
theorem w_draw {id : Nat} (hro : n.ro = none) (hm : P.follows .mixedOrders = true) (hB : Region.lexB .any ops = true) (h : QSeq P ops n (Has W F m) (fun L' => Fin n W F Q .normal L' m) ops.toList L) : Wp P n W F (.region id ops true) L m Q :=
  fun a w ha hw => wide_of hro <| wp_region_quiet hm hB hw.drew (QSeq.quiet (fun L' a' ha' hk w' hw' => hk a' w' ha' hw') _ L a ha h)

/-! ### The steps of such a walk -/
theorem q_nil (h : K L) : QSeq P ops n C K [] L := h
def gval (ops : Array Oper) (L : Slots) (j : Nat) : Option Value := ((ops[j]?).bind (·.dst)).bind (look L)
theorem yielded_of {a : Act} (ha : Holds n L a) {j : Nat} {g : Bool} (hg : gval ops L j = some (.bool g)) : yielded ops a.tmps j = some g := by
  unfold gval at hg
  unfold yielded
  cases ht : (ops[j]?).bind (·.dst) with
  | none => rw [ht] at hg; cases hg
  | some t =>
    rw [ht] at hg
    have := ha.slot t _ hg
    simp [this]
def gv (b : Bool) (v : Value) : Value := match b with
  | true => v
  | false => undef
def Stp (P : Program) (ops : Array Oper) (n : Fm) (C : World → Prop) (L : Slots) (o : Oper) (v : Value) : Prop := ∀ a, Holds n L a → YieldsIn P ops C o v a
section
variable {dst : Option Tmp} {op : Op} {ty : TypeId} {pos : String} {af : Array Edge} {gd : Option (Nat × Bool)} {l : List Oper} {v : Value} {j : Nat} {g want : Bool}
theorem st_go (hy : Yld P n C L ⟨dst, op, ty, pos, af, none⟩ v) : Stp P ops n C L ⟨dst, op, ty, pos, af, none⟩ v := fun a ha => .inl ⟨rfl, hy a ha⟩
theorem wanted_of {a : Act} (ha : Holds n L a) (hg : gval ops L j = some (.bool g)) : Region.wanted ⟨dst, op, ty, pos, af, some (j, want)⟩ (yielded ops a.tmps) = (g == want) := by
  show (yielded ops a.tmps j == some want) = (g == want)
  rw [yielded_of ha hg]
  cases g <;> cases want <;> rfl
theorem st_on (hg : gval ops L j = some (.bool want)) (hy : Yld P n C L ⟨dst, op, ty, pos, af, some (j, want)⟩ v) : Stp P ops n C L ⟨dst, op, ty, pos, af, some (j, want)⟩ v := fun a ha => .inl ⟨by rw [wanted_of ha hg]; simp, hy a ha⟩
theorem st_off (hg : gval ops L j = some (.bool (!want))) : Stp P ops n C L ⟨dst, op, ty, pos, af, some (j, want)⟩ undef := fun a ha => .inr ⟨by rw [wanted_of ha hg]; cases want <;> rfl, rfl⟩
theorem st_offe {b : Bool} (hg : gval ops L j = some (.bool g)) (hq : g = b) (hb : b = !want) : Stp P ops n C L ⟨dst, op, ty, pos, af, some (j, want)⟩ undef := st_off (by rw [hg, hq, hb])
theorem st_if (hg : gval ops L j = some (.bool g)) (hy : (g == want) = true → Yld P n C L ⟨dst, op, ty, pos, af, some (j, want)⟩ v) : Stp P ops n C L ⟨dst, op, ty, pos, af, some (j, want)⟩ (gv (g == want) v) := fun a ha => by
  cases hq : g == want with
  | true => exact .inl ⟨(wanted_of ha hg).trans hq, hy hq a ha⟩
  | false => exact .inr ⟨(wanted_of ha hg).trans hq, rfl⟩
set_option linter.unusedVariables false in
theorem yielded_gv {a : Act} (ha : Holds n L a) {B : Bool} (hg : gval ops L j = some (gv B (.bool g))) : (yielded ops a.tmps j == some want) = (B && (g == want)) := by
  cases B with
  | true => rw [yielded_of (g := g) ha hg]; cases g <;> cases want <;> rfl
  | false =>
    unfold gval at hg
    unfold yielded
    cases ht : (ops[j]?).bind (·.dst) with
    | none => rw [ht] at hg; cases hg
    | some t =>
      rw [ht] at hg
      have := ha.slot t _ hg
      simp [this, gv, undef]
theorem st_if2 {B : Bool} (hg : gval ops L j = some (gv B (.bool g))) (hy : B = true → (g == want) = true → Yld P n C L ⟨dst, op, ty, pos, af, some (j, want)⟩ v) : Stp P ops n C L ⟨dst, op, ty, pos, af, some (j, want)⟩ (gv (B && (g == want)) v) := fun a ha => by
  have e : Region.wanted ⟨dst, op, ty, pos, af, some (j, want)⟩ (yielded ops a.tmps) = (B && (g == want)) := yielded_gv ha hg
  cases hq : B && (g == want) with
  | true =>
    have h2 := hq
    rw [Bool.and_eq_true] at h2
    exact .inl ⟨e.trans hq, hy h2.1 h2.2 a ha⟩
  | false => exact .inr ⟨e.trans hq, rfl⟩
theorem q_st {d : Nat} (hs : Stp P ops n C L ⟨some d, op, ty, pos, af, gd⟩ v) (hd : Nat.blt d n = true) (h : QSeq P ops n C K l ((d, v) :: L)) : QSeq P ops n C K (⟨some d, op, ty, pos, af, gd⟩ :: l) L := ⟨v, hs, hd, h⟩
end
end

/-! ### Looking into lists -/
inductive At : List Value → Nat → Value → Prop
  | hit {v : Value} {l : List Value} : At (v :: l) 0 v
  | miss {x v : Value} {l : List Value} {k : Nat} (h : At l k v) : At (x :: l) (k + 1) v
theorem At.get {l : List Value} {k : Nat} {v : Value} (h : At l k v) : l[k]? = some v := by
  induction h with
  | hit => rfl
  | miss _ ih => simpa using ih
inductive Sub : List Value → Nat → Nat → List Value → Prop
  | nil {l : List Value} : Sub l 0 0 []
  | take {x : Value} {l r : List Value} {k : Nat} (h : Sub l 0 k r) : Sub (x :: l) 0 (k + 1) (x :: r)
  | drop {x : Value} {l r : List Value} {o k : Nat} (h : Sub l o k r) : Sub (x :: l) (o + 1) k r
theorem Sub.spec {l r : List Value} {o k : Nat} (h : Sub l o k r) : (l.drop o).take k = r ∧ r.length = k := by
  induction h with
  | nil => simp
  | take _ ih => simpa using ih
  | drop _ ih => simpa using ih
theorem Sub.get {l r : List Value} {o k : Nat} (h : Sub l o k r) (j : Nat) (v : Value) (hv : r[j]? = some v) : l[o + j]? = some v := by
  obtain ⟨h1, h2⟩ := h.spec
  rw [← h1] at hv
  rw [List.getElem?_take] at hv
  split at hv
  · simpa using hv
  · cases hv
def setAt : List Value → Nat → List Value → List Value
  | l, _, [] => l
  | l, o, v :: vs => setAt (l.set o v) (o + 1) vs
theorem setAt_length : ∀ (vs l : List Value) (o : Nat), (setAt l o vs).length = l.length
  | [], _, _ => rfl
  | v :: vs, l, o => by rw [setAt, setAt_length vs]; simp
section
variable {P : Program} {ops : Array Oper} {n : Fm} {C : World → Prop} {W : World} {F : Nat → Prop} {m m' : Mem} {L : Slots} {Q : Exit → Act → World → Prop} {K : Slots → Prop}
  {dst : Option Tmp} {ty : TypeId} {pos : String} {af : Array Edge} {gd : Option (Nat × Bool)} {x y z : Operand} {l : List Oper}
class Cls (C : World → Prop) (W : outParam World) (F : outParam (Nat → Prop)) (m : outParam Mem) : Prop where
  has : ∀ w, C w → Has W F m w
  step : ∀ w w', C w → Below w.heap.size w w' → C w'
instance : Cls (Has W F m) W F m := ⟨fun _ h => h, fun _ _ h hb => h.step hb⟩
def HB (W : World) (F : Nat → Prop) (m : Mem) (W0 w : World) : Prop := Has W F m w ∧ Below W0.heap.size W0 w
theorem below_on {W0 w w' : World} (h : Below W0.heap.size W0 w) (hb : Below w.heap.size w w') : Below W0.heap.size W0 w' := h.trans (hb.mono h.size)
instance {W0 : World} : Cls (HB W F m W0) W F m := ⟨fun _ h => h.1, fun _ _ h hb => ⟨h.1.step hb, below_on h.2 hb⟩⟩
theorem y_run {o : Oper} {v : Value} (h : ∀ a, Holds n L a → ∀ w, C w → (execOp a.eval o).run P w = .ok (.value v) w) : Yld P n C L o v := fun a ha w hw => by
  unfold Oper.quietAt
  rw [h a ha w hw]
  exact ⟨rfl, rfl⟩
theorem y_move {v : Value} (hx : opv L x = some v) : Yld P n C L ⟨dst, .move x, ty, pos, af, gd⟩ v := fun a ha w hw => ⟨rfl, ev ha hx⟩
theorem y_assign {v : Value} (hx : opv L x = some v) : Yld P n C L ⟨dst, .assign x, ty, pos, af, gd⟩ v := fun a ha w hw => ⟨rfl, ev ha hx⟩
theorem y_pick {g : Bool} {v : Value} (hc : opv L x = some (.bool g)) (ht : g = true → opv L y = some v) (hf : g = false → opv L z = some v) : Yld P n C L ⟨dst, .pick x y z, ty, pos, af, gd⟩ v := y_run fun a ha w hw => by
  have h0 : a.eval x = .bool g := ev ha hc
  simp only [execOp, h0, asBool]
  cases g
  · simp [ev ha (hf rfl)]
  · simp [ev ha (ht rfl)]
theorem y_and {g t : Bool} (hc : opv L x = some (.bool g)) (hy : opv L y = some (gv (g == true) (.bool t))) : Yld P n C L ⟨dst, .pick x y (.const (.bool false)), ty, pos, af, gd⟩ (.bool (g && t)) :=
  y_pick hc (fun e => by subst e; exact hy) (fun e => by subst e; rfl)
theorem y_or {g t : Bool} (hc : opv L x = some (.bool g)) (hz : opv L z = some (gv (g == false) (.bool t))) : Yld P n C L ⟨dst, .pick x (.const (.bool true)) z, ty, pos, af, gd⟩ (.bool (g || t)) :=
  y_pick hc (fun e => by subst e; rfl) (fun e => by subst e; exact hz)
theorem y_or_t (hc : opv L x = some (.bool true)) : Yld P n C L ⟨dst, .pick x (.const (.bool true)) z, ty, pos, af, gd⟩ (.bool true) := y_pick hc (fun _ => rfl) (fun e => by cases e)
theorem y_and_f (hc : opv L x = some (.bool false)) : Yld P n C L ⟨dst, .pick x y (.const (.bool false)), ty, pos, af, gd⟩ (.bool false) := y_pick hc (fun e => by cases e) (fun _ => rfl)
theorem y_and_fe {g : Bool} (hc : opv L x = some (.bool g)) (hq : g = false) : Yld P n C L ⟨dst, .pick x y (.const (.bool false)), ty, pos, af, gd⟩ (.bool false) := y_and_f (by rw [hc, hq])
theorem y_not {b : Bool} {t : TypeId} (hx : opv L x = some (.bool b)) : Yld P n C L ⟨dst, .unOp .not t x, ty, pos, af, gd⟩ (.bool (!b)) := y_run fun a ha w hw => by
  simp [execOp, ev ha hx, Op.unary]
theorem y_bin {op : BinOp} {t t' : TypeId} {v u r : Value} (hx : opv L x = some v) (hy : opv L y = some u) (h : ∀ w, (do eqGuard op t x y v u; binOp op t v u : Sem Value).run P w = .ok r w) : Yld P n C L ⟨dst, .binOp op t x y t', ty, pos, af, gd⟩ r := y_run fun a ha w hw => by
  have := h w
  simp only [execOp, ev ha hx, ev ha hy]
  rw [Sem.run_bind, this]
  rfl
theorem y_eq {k : IntKind} {t t' : TypeId} {a b : Int} (hx : opv L x = some (.int k a)) (hy : opv L y = some (.int k b)) : Yld P n C L ⟨dst, .binOp .eql t x y t', ty, pos, af, gd⟩ (.bool (a == b)) := y_bin hx hy fun w => by
  cases k <;> simp [eqGuard, binOp, Op.intCmp]
theorem y_ne {k : IntKind} {t t' : TypeId} {a b : Int} (hx : opv L x = some (.int k a)) (hy : opv L y = some (.int k b)) : Yld P n C L ⟨dst, .binOp .neq t x y t', ty, pos, af, gd⟩ (.bool (a != b)) := y_bin hx hy fun w => by
  cases k <;> simp [eqGuard, binOp, Op.intCmp]
theorem y_lt {k : IntKind} {t t' : TypeId} {a b : Int} (hx : opv L x = some (.int k a)) (hy : opv L y = some (.int k b)) : Yld P n C L ⟨dst, .binOp .lss t x y t', ty, pos, af, gd⟩ (.bool (decide (a < b))) := y_bin hx hy fun w => by
  cases k <;> simp [eqGuard, binOp, Op.intCmp]
theorem y_le {k : IntKind} {t t' : TypeId} {a b : Int} (hx : opv L x = some (.int k a)) (hy : opv L y = some (.int k b)) : Yld P n C L ⟨dst, .binOp .leq t x y t', ty, pos, af, gd⟩ (.bool (decide (a ≤ b))) := y_bin hx hy fun w => by
  cases k <;> simp [eqGuard, binOp, Op.intCmp]
theorem y_gt {k : IntKind} {t t' : TypeId} {a b : Int} (hx : opv L x = some (.int k a)) (hy : opv L y = some (.int k b)) : Yld P n C L ⟨dst, .binOp .gtr t x y t', ty, pos, af, gd⟩ (.bool (decide (a > b))) := y_bin hx hy fun w => by
  cases k <;> simp [eqGuard, binOp, Op.intCmp]
theorem y_ge {k : IntKind} {t t' : TypeId} {a b : Int} (hx : opv L x = some (.int k a)) (hy : opv L y = some (.int k b)) : Yld P n C L ⟨dst, .binOp .geq t x y t', ty, pos, af, gd⟩ (.bool (decide (a ≥ b))) := y_bin hx hy fun w => by
  cases k <;> simp [eqGuard, binOp, Op.intCmp]
theorem y_add {k : IntKind} {t t' : TypeId} {a b : Int} (hx : opv L x = some (.int k a)) (hy : opv L y = some (.int k b)) : Yld P n C L ⟨dst, .binOp .add t x y t', ty, pos, af, gd⟩ (.int k (k.wrap (a + b))) := y_bin hx hy fun w => by
  cases k <;> simp [eqGuard, binOp, Op.intArith]
theorem y_sub {k : IntKind} {t t' : TypeId} {a b : Int} (hx : opv L x = some (.int k a)) (hy : opv L y = some (.int k b)) : Yld P n C L ⟨dst, .binOp .sub t x y t', ty, pos, af, gd⟩ (.int k (k.wrap (a - b))) := y_bin hx hy fun w => by
  cases k <;> simp [eqGuard, binOp, Op.intArith]
theorem y_mul {k : IntKind} {t t' : TypeId} {a b : Int} (hx : opv L x = some (.int k a)) (hy : opv L y = some (.int k b)) : Yld P n C L ⟨dst, .binOp .mul t x y t', ty, pos, af, gd⟩ (.int k (k.wrap (a * b))) := y_bin hx hy fun w => by
  cases k <;> simp [eqGuard, binOp, Op.intArith]
theorem y_quo {k : IntKind} {t t' : TypeId} {a b : Int} (hx : opv L x = some (.int k a)) (hy : opv L y = some (.int k b)) (h0 : b ≠ 0) : Yld P n C L ⟨dst, .binOp .quo t x y t', ty, pos, af, gd⟩ (.int k (k.wrap (a.tdiv b))) := y_bin hx hy fun w => by
  cases k <;> simp [eqGuard, binOp, Op.intDiv, h0]
theorem y_rem {k : IntKind} {t t' : TypeId} {a b : Int} (hx : opv L x = some (.int k a)) (hy : opv L y = some (.int k b)) (h0 : b ≠ 0) : Yld P n C L ⟨dst, .binOp .rem t x y t', ty, pos, af, gd⟩ (.int k (a.tmod b)) := y_bin hx hy fun w => by
  cases k <;> simp [eqGuard, binOp, Op.intDiv, h0]
theorem y_shr {k yk : IntKind} {t t' : TypeId} {a b : Int} (hx : opv L x = some (.int k a)) (hy : opv L y = some (.int yk b)) (h0 : 0 ≤ b ∧ b ≤ k.bits) : Yld P n C L ⟨dst, .binOp .shr t x y t', ty, pos, af, gd⟩ (.int k (a / 2 ^ b.toNat)) := y_bin hx hy fun w => by
  rw [binOp_shr, shift_shr k yk a b h0.1 h0.2]
  rfl
theorem y_shl {k yk : IntKind} {t t' : TypeId} {a b : Int} (hx : opv L x = some (.int k a)) (hy : opv L y = some (.int yk b)) (h0 : 0 ≤ b ∧ b ≤ k.bits) : Yld P n C L ⟨dst, .binOp .shl t x y t', ty, pos, af, gd⟩ (.int k (k.wrap (a * 2 ^ b.toNat))) := y_bin hx hy fun w => by
  rw [binOp_shl, shift_shl k yk a b h0.1 h0.2]
  rfl
theorem y_band {k : IntKind} {t t' : TypeId} {a b : Int} (hx : opv L x = some (.int k a)) (hy : opv L y = some (.int k b)) : Yld P n C L ⟨dst, .binOp .and t x y t', ty, pos, af, gd⟩ (.int k (bits .and k a b)) := y_bin hx hy fun w => by
  rw [binOp_and]; rfl
theorem y_bor {k : IntKind} {t t' : TypeId} {a b : Int} (hx : opv L x = some (.int k a)) (hy : opv L y = some (.int k b)) : Yld P n C L ⟨dst, .binOp .or t x y t', ty, pos, af, gd⟩ (.int k (bits .or k a b)) := y_bin hx hy fun w => by
  rw [binOp_or]; rfl
theorem y_bandnot {k : IntKind} {t t' : TypeId} {a b : Int} (hx : opv L x = some (.int k a)) (hy : opv L y = some (.int k b)) : Yld P n C L ⟨dst, .binOp .andNot t x y t', ty, pos, af, gd⟩ (.int k (bits .andNot k a b)) := y_bin hx hy fun w => by
  cases k <;> rfl
theorem y_conv {k k' : IntKind} {s t : TypeId} {a : Int} (hx : opv L x = some (.int k a)) (hs : (P.underlying s).isSome = true) (hd : P.underlying t = some (.int k')) : Yld P n C L ⟨dst, .convert s t x, ty, pos, af, gd⟩ (.int k' (k'.wrap a)) := y_run fun ac ha w hw => by
  have e : P.intKind t = k' := by unfold Program.intKind; rw [hd]
  have := run_convert_int w s t k a hs (by rw [e]; exact hd)
  rw [e] at this
  simp [execOp, ev ha hx, this]
theorem run_equal_bool {t : TypeId} (ht : P.underlying t = some .bool) (a b : Bool) (w : World) : (Op.equal t (.bool a) (.bool b)).run P w = .ok (a == b) w := by
  have e : Op.maxDepth = 9999 + 1 := rfl
  unfold Op.equal
  rw [e, Op.equalIn, Sem.run_bind, run_underlying ht w]
  rfl
theorem y_bne {t t' : TypeId} {a b : Bool} (ht : P.underlying t = some .bool) (hx : opv L x = some (.bool a)) (hy : opv L y = some (.bool b)) : Yld P n C L ⟨dst, .binOp .neq t x y t', ty, pos, af, gd⟩ (.bool (a != b)) := y_bin hx hy fun w => by
  show (do pure (.bool (!(← Op.equal t (.bool a) (.bool b)))) : Sem Value).run P w = _
  rw [Sem.run_bind, run_equal_bool ht]; rfl
theorem y_extract {vs : Array Value} {i : Nat} {v : Value} (hx : opv L x = some (.tuple vs)) (hi : At vs.toList i v) : Yld P n C L ⟨dst, .extract x i, ty, pos, af, gd⟩ v := y_run fun a ha w hw => by
  have hg : vs[i]? = some v := by have := hi.get; simpa using this
  simp [execOp, ev ha hx, Instr.extract, hg]
def aggB (P : Program) (ty : TypeId) (k : Nat) : Bool := match P.underlying ty with
  | some (.struct _) | some (.array _ _) => ((P.info? ty).map (·.size)) == some k
  | _ => false
def scalB (P : Program) (ty : TypeId) : Bool := match P.underlying ty with
  | some (.struct _) | some (.array _ _) | none => false
  | _ => true
theorem aggB_spec {k : Nat} (h : aggB P ty k = true) : ∃ d, P.underlying ty = some d ∧ d.isRow = true ∧ (P.info? ty).map (·.size) = some k := by
  unfold aggB at h
  cases hu : P.underlying ty with
  | none => rw [hu] at h; cases h
  | some d => rw [hu] at h; cases d <;> simp at h <;> exact ⟨_, rfl, rfl, by simpa using h⟩
theorem scalB_spec (h : scalB P ty = true) (w : World) : (isAgg ty).run P w = .ok false w := by
  unfold scalB at h
  cases hu : P.underlying ty with
  | none => rw [hu] at h; cases h
  | some d =>
    rw [hu] at h
    unfold isAgg
    rw [Sem.run_bind, run_underlying hu w]
    cases d <;> simp_all
class AggT (P : Program) (ty : TypeId) (k : outParam Nat) : Prop where
  ok : aggB P ty k = true
theorem y_load {g o k : Nat} {cs r : List Value} {t : TypeId} [hk : AggT P ty k] [hcl : Cls C W F m] (hx : opv L x = some (.pointer (some ⟨g, o, none⟩))) (hm : Pc.blk g cs t ∈ m) (hr : Sub cs o k r) : Yld P n C L ⟨dst, .load ty x, ty, pos, af, gd⟩ (.agg r.toArray) := y_run fun a ha w hw => by
  obtain ⟨d, hu, hd, hi⟩ := aggB_spec hk.ok
  have hg : w.heap[g]? = some (.cells cs.toArray t (0, 0)) := (hcl.has w hw).ok _ hm
  have hl := run_loadVar_mid (P := P) w g o ty r d (fun j v hv => by rw [cell_of_row w g _ _ _ _ hg]; simpa using hr.get j v hv) hu hd (by rw [hr.spec.2]; exact hi)
  simp [execOp, ev ha hx, Instr.loadAt, Instr.sureAddr, hl]
class FldT (P : Program) (t : TypeId) (f : Nat) (off ft : outParam Nat) : Prop where
  ok : ((match P.underlying t with | some (.struct fs) => fs[f]? | _ => none : Option Field).map fun x => (x.offset, x.type)) = some (off, ft)
theorem y_faddr {t : TypeId} {f off ft : Nat} {g o : Nat} [hf : FldT P t f off ft] (hk : ((P.info? ft).map fun i => Nat.beq i.size 0) = some false) (hx : opv L x = some (.pointer (some ⟨g, o, none⟩))) : Yld P n C L ⟨dst, .fieldAddr t x f, ty, pos, af, gd⟩ (.pointer (some ⟨g, o + off, none⟩)) := y_run fun a ha w hw => by
  have h0 := hf.ok
  cases hu : P.underlying t with
  | none => rw [hu] at h0; cases h0
  | some d =>
    rw [hu] at h0
    cases d <;> first | cases h0 | skip
    rename_i fs
    dsimp only at h0
    cases hq : fs[f]? with
    | none => rw [hq] at h0; cases h0
    | some y =>
      rw [hq] at h0
      simp only [Option.map_some, Option.some.injEq, Prod.mk.injEq] at h0
      obtain ⟨rfl, rfl⟩ := h0
      cases hi : P.info? y.type with
      | none => rw [hi] at hk; cases hk
      | some i =>
        rw [hi] at hk
        have hne : i.size ≠ 0 := by intro e; simp [e] at hk
        have hp : (fieldPlace ⟨g, o, none⟩ y).run P w = .ok ⟨g, o + y.offset, none⟩ w := by
          have ha : (Addr.add ⟨g, o, none⟩ y.offset) = ⟨g, o + y.offset, none⟩ := Addr.add_mid ..
          simp [fieldPlace, sizeOf, typeInfo, hi, hne, ha]
        simp [execOp, ev ha hx, Instr.fieldAt, run_underlying hu w, hq, Instr.sureAddr, hp]
theorem y_cell {g o : Nat} {cs : List Value} {t : TypeId} {v : Value} [hcl : Cls C W F m] (hx : opv L x = some (.pointer (some ⟨g, o, none⟩))) (hm : Pc.blk g cs t ∈ m) (hr : At cs o v) (hk : scalB P ty = true) : Yld P n C L ⟨dst, .load ty x, ty, pos, af, gd⟩ v := y_run fun a ha w hw => by
  have hg : w.heap[g]? = some (.cells cs.toArray t (0, 0)) := (hcl.has w hw).ok _ hm
  have hc : w.cell? ⟨g, o, none⟩ = some v := by rw [cell_of_row w g _ _ _ _ hg]; simpa using hr.get
  simp [execOp, ev ha hx, Instr.loadAt, Instr.sureAddr, loadVar, scalB_spec hk, hc]
theorem y_call {f : FuncId} {fn : Func} {xs : Array Operand} {ts : Array TypeId} {vs : List Value} {v : Value} (hf : P.funcs[f]? = some fn) (hq : ((fn.name == "runtime.NumGoroutine") || !fn.body.isSome) = false) (hv : opvs L xs.toList = some vs)
    (h : ∀ w, C w → Calls P f vs.toArray w fun e w' => e = .returned v ∧ C w') : Yld P n C L ⟨dst, .call { callee := .value (.func f), args := xs, argTypes := ts }, ty, pos, af, gd⟩ v := fun a ha w hw => by
  have hname : (fn.name == "runtime.NumGoroutine") = false := by cases q : fn.name == "runtime.NumGoroutine" <;> simp_all
  have hb : fn.body.isSome = true := by cases q : fn.body.isSome <;> simp_all
  obtain ⟨c, hc⟩ := Option.isSome_iff_exists.1 hb
  have h1 : fn.name ≠ "runtime.NumGoroutine" := by simpa using hname
  have hargs : xs.map a.eval = vs.toArray := by
    have := evs ha hv
    apply Array.toList_inj.1
    simpa using this
  unfold Oper.quietAt
  have hrun : (execOp a.eval ⟨dst, .call { callee := .value (.func f), args := xs, argTypes := ts }, ty, pos, af, gd⟩).run P w = .ok (.enter f vs.toArray) w := by
    simp [execOp, resolve, Deferred.ofValue, invoke, Act.eval, hargs, callFunc, hf, h1, hc]
  rw [hrun]
  exact ⟨rfl, h w hw⟩
def Cal (P : Program) (f : FuncId) (vs : List Value) (v : Value) : Prop := ∀ w, Calls P f vs.toArray w fun e w' => e = .returned v ∧ Below w.heap.size w w'
theorem Cal.mk {f : FuncId} {vs : List Value} {v : Value} (h : ∀ w, Calls P f vs.toArray w fun e w' => e = .returned v ∧ Below w.heap.size w w') : Cal P f vs v := h
theorem y_calls [hcl : Cls C W F m] {f : FuncId} {fn : Func} {xs : Array Operand} {ts : Array TypeId} {vs : List Value} {v : Value} (hf : P.funcs[f]? = some fn) (hq : ((fn.name == "runtime.NumGoroutine") || !fn.body.isSome) = false) (hv : opvs L xs.toList = some vs)
    (h : Cal P f vs v) : Yld P n C L ⟨dst, .call { callee := .value (.func f), args := xs, argTypes := ts }, ty, pos, af, gd⟩ v :=
  y_call hf hq hv fun w hw => (h w).mono fun e w' ⟨he, hb⟩ => ⟨he, hcl.step _ _ hw hb⟩

inductive Cells : Value → List Value → Prop
  | agg {l : List Value} : Cells (.agg l.toArray) l
  | int {k : IntKind} {x : Int} : Cells (.int k x) [.int k x]
  | bool {b : Bool} : Cells (.bool b) [.bool b]
  | string {b : ByteArray} : Cells (.string b) [.string b]
  | pointer {a : Option Addr} : Cells (.pointer a) [.pointer a]
  | slice {a : Option Addr} {n c : Nat} : Cells (.slice a n c) [.slice a n c]
  | func {f : Fn} {a b : Array Value} : Cells (.func f a b) [.func f a b]
  | map {r : Option Nat} : Cells (.map r) [.map r]
theorem Cells.spec {v : Value} {l : List Value} (h : Cells v l) : v.cells.toList = l := by cases h <;> rfl
class ZeroT (P : Program) (t : TypeId) (cs : outParam (List Value)) : Prop where
  ok : ((P.info? t).bind (·.zero)).map (fun v => v.cells.toList) = some cs
def mn2 (a b : Int) : Int := if b < a then b else a
def mx2 (a b : Int) : Int := if a < b then b else a
theorem y_min2 {k : IntKind} {a b : Int} {xs : Array Operand} {ts : Array TypeId} (hv : opvs L xs.toList = some [.int k a, .int k b]) : Yld P n C L ⟨dst, .call { callee := .builtin .min, args := xs, argTypes := ts }, ty, pos, af, gd⟩ (.int k (mn2 a b)) := y_run fun a' ha w hw => by
  have hargs : xs.map a'.eval = #[.int k a, .int k b] := by apply Array.toList_inj.1; simpa using evs ha hv
  simp [execOp, resolve, invoke, builtin, hargs, Builtin.min_, Builtin.min2, mn2]
theorem y_max2 {k : IntKind} {a b : Int} {xs : Array Operand} {ts : Array TypeId} (hv : opvs L xs.toList = some [.int k a, .int k b]) : Yld P n C L ⟨dst, .call { callee := .builtin .max, args := xs, argTypes := ts }, ty, pos, af, gd⟩ (.int k (mx2 a b)) := y_run fun a' ha w hw => by
  have hargs : xs.map a'.eval = #[.int k a, .int k b] := by apply Array.toList_inj.1; simpa using evs ha hv
  simp [execOp, resolve, invoke, builtin, hargs, Builtin.max_, Builtin.max2, mx2]
inductive Bld (P : Program) (t : TypeId) (L : Slots) : List Value → List (Nat × Operand) → List Value → Prop
  | nil {z : List Value} : Bld P t L z [] z
  | cons {z z' r vs : List Value} {f off ft : Nat} {x : Operand} {v : Value} {l : List (Nat × Operand)} (hf : FldT P t f off ft) (hx : opv L x = some v) (hc : Cells v vs) (hk : ((P.info? ft).map fun i => Nat.beq vs.length i.size && Nat.ble (off + vs.length) z.length) = some true) (hs : setAt z off vs = z') (h : Bld P t L z' l r) : Bld P t L z ((f, x) :: l) r
theorem setAt_foldl : ∀ (vs z : List Value) (o j : Nat), ((vs.zipIdx j).foldl (fun (cs : Array Value) (p : Value × Nat) => cs.setIfInBounds (o + p.2) p.1) z.toArray) = (setAt z (o + j) vs).toArray
  | [], z, o, j => rfl
  | v :: vs, z, o, j => by
    rw [List.zipIdx_cons, List.foldl_cons, setAt]
    have e : z.toArray.setIfInBounds (o + j) v = (z.set (o + j) v).toArray := by simp
    show List.foldl _ (z.toArray.setIfInBounds (o + j) v) _ = _
    rw [e, setAt_foldl vs (z.set (o + j) v) o (j + 1), Nat.add_assoc]
theorem run_fill {t : TypeId} {fs : Array Field} {places : Array (Nat × Nat)} {a : Act} (ha : Holds n L a) (hu : P.underlying t = some (.struct fs)) (hp : ∀ (f : Nat) (x : Field), fs[f]? = some x → ∃ i, P.info? x.type = some i ∧ places[f]? = some (x.offset, i.size)) :
    ∀ {z r : List Value} {l : List (Nat × Operand)}, Bld P t L z l r → Instr.fill (places[·]?) z.toArray (l.map fun p => (p.1, a.eval p.2)) = some r.toArray := by
  intro z r l h
  induction h with
  | nil => rfl
  | @cons z z' r vs f off ft x v l hf hx hc hk hs h ih =>
    have h0 := hf.ok
    rw [hu] at h0
    dsimp only at h0
    cases hq : fs[f]? with
    | none => rw [hq] at h0; cases h0
    | some y =>
      rw [hq] at h0
      simp only [Option.map_some, Option.some.injEq, Prod.mk.injEq] at h0
      obtain ⟨rfl, rfl⟩ := h0
      obtain ⟨i, hi, hpl⟩ := hp f y hq
      rw [hi] at hk
      simp only [Option.map_some, Option.some.injEq, Bool.and_eq_true] at hk
      have k1 := Nat.eq_of_beq_eq_true hk.1
      have k2 := Nat.le_of_ble_eq_true hk.2
      have hcs := hc.spec
      have hsz : v.cells.size = vs.length := by rw [← hcs]; simp
      simp only [List.map_cons, Instr.fill, ev ha hx, hpl]
      rw [if_neg (by simp; omega)]
      have e : (v.cells.zipIdx.foldl (fun (cs : Array Value) (p : Value × Nat) => cs.setIfInBounds (y.offset + p.2) p.1) z.toArray) = z'.toArray := by
        rw [← hs, ← hcs, ← Array.foldl_toList, Array.toList_zipIdx]
        exact setAt_foldl _ z y.offset 0
      rw [e]
      exact ih
theorem y_build {t : TypeId} {z r : List Value} {ps : Array (Nat × Operand)} [hz : ZeroT P t z] (hs : (match P.underlying t with | some (.struct fs) => fs.all fun f => (P.info? f.type).isSome | _ => false) = true) (h : Bld P t L z ps.toList r) : Yld P n C L ⟨dst, .build t ps, ty, pos, af, gd⟩ (.agg r.toArray) := y_run fun a ha w hw => by
  cases hu : P.underlying t with
  | none => rw [hu] at hs; cases hs
  | some d =>
    rw [hu] at hs
    cases d <;> first | cases hs | skip
    rename_i fs
    dsimp only at hs
    have hz0 := hz.ok
    cases hi : P.info? t with
    | none => rw [hi] at hz0; cases hz0
    | some i =>
      cases hq : i.zero with
      | none => rw [hi] at hz0; simp [hq] at hz0
      | some zv =>
        rw [hi] at hz0
        simp only [Option.bind_some, hq, Option.map_some, Option.some.injEq] at hz0
        have hzc : zv.cells = z.toArray := by rw [← hz0]
        have hmap : ∀ (l : List Field), (∀ f ∈ l, (P.info? f.type).isSome = true) → ∃ pl : List (Nat × Nat), (l.mapM (fun f => do pure (f.offset, ← sizeOf f.type) : Field → Sem (Nat × Nat))).run P w = .ok pl w ∧ ∀ (j : Nat) (x : Field), l[j]? = some x → ∃ i, P.info? x.type = some i ∧ pl[j]? = some (x.offset, i.size) := by
          intro l
          induction l with
          | nil => exact fun _ => ⟨[], rfl, fun j x hx => by cases hx⟩
          | cons f l ih =>
            intro hl
            obtain ⟨pl, h1, h2⟩ := ih (fun g hg => hl g (List.mem_cons_of_mem _ hg))
            obtain ⟨fi, hfi⟩ := Option.isSome_iff_exists.1 (hl f (List.mem_cons_self ..))
            refine ⟨(f.offset, fi.size) :: pl, ?_, fun j x hx => ?_⟩
            · have hsz : (sizeOf f.type).run P w = .ok fi.size w := by simp [sizeOf, typeInfo, hfi]
              have h0 : (do pure (f.offset, ← sizeOf f.type) : Sem (Nat × Nat)).run P w = .ok (f.offset, fi.size) w := by rw [Sem.run_bind, hsz]; rfl
              rw [List.mapM_cons, Sem.run_bind, h0]
              simp only [Result.andThen_ok, Sem.run_bind, h1, Sem.run_pure]
            · cases j with
              | zero => simp at hx; subst hx; exact ⟨fi, hfi, rfl⟩
              | succ j => simpa using h2 j x (by simpa using hx)
        obtain ⟨pl, h1, h2⟩ := hmap fs.toList (fun f hf => by simpa using (Array.all_eq_true_iff_forall_mem.1 hs) f (by simpa using hf))
        have hfill := run_fill (places := pl.toArray) ha hu (fun f x hx => by obtain ⟨i, q1, q2⟩ := h2 f x (by simpa using hx); exact ⟨i, q1, by simpa using q2⟩) h
        have hm2 : (fs.mapM (fun f => do pure (f.offset, ← sizeOf f.type) : Field → Sem (Nat × Nat))).run P w = .ok pl.toArray w := by
          rw [Array.mapM_eq_mapM_toList, Sem.run_map, h1]; rfl
        have hps : (ps.map fun (i, x) => (i, a.eval x)).toList = ps.toList.map fun p => (p.1, a.eval p.2) := by simp
        simp only [execOp]
        rw [Sem.run_bind]
        have hb : (Instr.build t (ps.map fun (i, x) => (i, a.eval x))).run P w = .ok (.agg r.toArray) w := by
          unfold Instr.build
          simp only [Sem.run_bind, zeroValue, typeInfo, program, Sem.run, hi, hq, Sem.run_pure, Result.andThen_ok, run_underlying hu w, hm2, hps, hzc, hfill]
        rw [hb]
        rfl
class EqT (P : Program) (t : TypeId) (xs ys : Array Value) (r : outParam Bool) : Prop where
  run : ∀ d w, (Op.equalIn (d + 9) t (.agg xs) (.agg ys)).run P w = .ok r w
theorem eq_int {t : TypeId} {k : IntKind} (hu : P.underlying t = some (.int k)) (d : Nat) (a b : Int) (w : World) : (Op.equalIn (d + 1) t (.int k a) (.int k b)).run P w = .ok (a == b) w := by
  rw [Op.equalIn, Sem.run_bind, run_underlying hu w]
  simp
theorem eq_bool {t : TypeId} (hu : P.underlying t = some .bool) (d : Nat) (a b : Bool) (w : World) : (Op.equalIn (d + 1) t (.bool a) (.bool b)).run P w = .ok (a == b) w := by
  rw [Op.equalIn, Sem.run_bind, run_underlying hu w]
  rfl
section
variable {xs ys : Array Value} {f : Field} {fs : List Field} {a b : Value} {r s : Bool} {d : Nat} {w : World}
theorem eqf_last (hn : (f.name == "_") = false) (ha : (part f.type xs f.offset).run P w = .ok a w) (hb : (part f.type ys f.offset).run P w = .ok b w) (he : (Op.equalIn d f.type a b).run P w = .ok r w) : (Op.eqFields d xs ys [f]).run P w = .ok r w := by
  have hn' : f.name ≠ "_" := by simpa using hn
  simp only [Op.eqFields, if_pos hn', Sem.run_bind, ha, hb, he, Result.andThen_ok]
  cases r <;> simp
theorem eqf_cons (hn : (f.name == "_") = false) (ha : (part f.type xs f.offset).run P w = .ok a w) (hb : (part f.type ys f.offset).run P w = .ok b w) (he : (Op.equalIn d f.type a b).run P w = .ok r w) (hr : (Op.eqFields d xs ys fs).run P w = .ok s w) : (Op.eqFields d xs ys (f :: fs)).run P w = .ok (r && s) w := by
  have hn' : f.name ≠ "_" := by simpa using hn
  rw [Op.eqFields]
  simp only [if_pos hn', Sem.run_bind, ha, hb, he, Result.andThen_ok]
  cases r
  · simp
  · simpa using hr
theorem eq_struct {t : TypeId} {fs : Array Field} (hu : P.underlying t = some (.struct fs)) (hp : P.stoodInHeld t = false) (h : (Op.eqFields d xs ys fs.toList).run P w = .ok r w) : (Op.equalIn (d + 1) t (.agg xs) (.agg ys)).run P w = .ok r w := by
  have hf : P.fieldsOf t = fs := by simp [Program.fieldsOf, hu]
  rw [run_equalIn_struct (P := P) w d t xs ys (by rw [hf]; exact hu) hp, hf]
  exact h
end
theorem run_eqs {t : TypeId} {xs ys : Array Value} {r : Bool} (hg : P.eqGuardType P.depth t = false) [he : EqT P t xs ys r] {op : BinOp} (w : World) : (do eqGuard op t x y (.agg xs) (.agg ys); pure (.bool (← Op.equal t (.agg xs) (.agg ys))) : Sem Value).run P w = .ok (.bool r) w := by
  have h1 : (eqGuard op t x y (.agg xs) (.agg ys)).run P w = .ok () w := by
    unfold eqGuard
    cases op <;> simp [program, Sem.run, hg]
  have h2 : (Op.equal t (.agg xs) (.agg ys)).run P w = .ok r w := he.run 9991 w
  simp [Sem.run_bind, h1, h2]
theorem y_eqs {t t' : TypeId} {xs ys : Array Value} {r : Bool} (hx : opv L x = some (.agg xs)) (hy : opv L y = some (.agg ys)) (hg : P.eqGuardType P.depth t = false) (he : EqT P t xs ys r) : Yld P n C L ⟨dst, .binOp .eql t x y t', ty, pos, af, gd⟩ (.bool r) := y_bin hx hy fun w => run_eqs hg w
theorem y_nes {t t' : TypeId} {xs ys : Array Value} {r : Bool} (hx : opv L x = some (.agg xs)) (hy : opv L y = some (.agg ys)) (hg : P.eqGuardType P.depth t = false) (he : EqT P t xs ys r) : Yld P n C L ⟨dst, .binOp .neq t x y t', ty, pos, af, gd⟩ (.bool (!r)) := y_bin hx hy fun w => by
  have h := run_eqs (P := P) (x := x) (y := y) (xs := xs) (ys := ys) (r := r) hg (op := .neq) w
  have e : (do eqGuard .neq t x y (.agg xs) (.agg ys); binOp .neq t (.agg xs) (.agg ys) : Sem Value) = (do eqGuard .neq t x y (.agg xs) (.agg ys); pure (.bool (!(← Op.equal t (.agg xs) (.agg ys))))) := rfl
  rw [e]
  simp only [Sem.run_bind] at h ⊢
  cases h1 : (eqGuard .neq t x y (.agg xs) (.agg ys)).run P w with
  | halt q w' => rw [h1] at h; cases h
  | ok u w' =>
    rw [h1] at h
    simp only [Result.andThen_ok] at h ⊢
    cases h2 : (Op.equal t (.agg xs) (.agg ys)).run P w' with
    | halt q w2 => rw [h2] at h; cases h
    | ok b w2 =>
      rw [h2] at h
      simp only [Result.andThen_ok, Sem.run_pure, Result.ok.injEq, Value.bool.injEq] at h ⊢
      obtain ⟨rfl, rfl⟩ := h
      exact ⟨rfl, rfl⟩

/-! ### What is read -/
def Sees (m : Mem) (A : Option Addr) (c k : Nat) (rows : List (List Value)) : Prop := ∀ w, (∀ r ∈ m, r.ok w) → Reads w A c k rows
theorem Sees.vw {A : Option Addr} {c k : Nat} {rows : List (List Value)} (h : Pc.vw A c k rows ∈ m) : Sees m A c k rows := fun w hw => hw _ h
theorem flat_get {k : Nat} : ∀ {rows : List (List Value)}, (∀ row ∈ rows, row.length = k) → ∀ {i : Nat} {row : List Value}, rows[i]? = some row → ∀ {j : Nat} {v : Value}, row[j]? = some v → rows.flatten[i * k + j]? = some v
  | [], _, i, row, h, _, _, _ => by cases h
  | r :: rows, hk, 0, row, h, j, v, hv => by
    cases h
    rw [List.flatten_cons, Nat.zero_mul, Nat.zero_add, List.getElem?_append_left (List.getElem?_eq_some_iff.1 hv).1]
    exact hv
  | r :: rows, hk, i + 1, row, h, j, v, hv => by
    have h0 := hk r (List.mem_cons_self ..)
    rw [List.flatten_cons, List.getElem?_append_right (by rw [h0, Nat.add_mul]; omega), h0, show (i + 1) * k + j - k = i * k + j by rw [Nat.add_mul]; omega]
    exact flat_get (fun row hr => hk row (List.mem_cons_of_mem _ hr)) (by simpa using h) hv
theorem flat_len {k : Nat} : ∀ {rows : List (List Value)}, (∀ row ∈ rows, row.length = k) → rows.flatten.length = rows.length * k
  | [], _ => by simp
  | r :: rows, hk => by
    rw [List.flatten_cons, List.length_append, hk r (List.mem_cons_self ..), flat_len (fun row hr => hk row (List.mem_cons_of_mem _ hr)), List.length_cons, Nat.add_mul]; omega
theorem Owns.reads {w : World} {A : Option Addr} {c k : Nat} {rows : List (List Value)} {t : TypeId} (h : Owns w A c k rows t) : Reads w A c k rows := by
  obtain ⟨h1, h2⟩ := h
  rcases h2 with ⟨rfl, rfl⟩ | ⟨hc, g, rest, rfl, hg, hl, hle⟩
  · exact ⟨Nat.le_refl _, fun _ h => (by cases h), fun h => absurd rfl h, fun i row h => (by cases h)⟩
  · refine ⟨hle, h1, fun _ => ⟨_, rfl, rfl, lt_of_heap hg⟩, fun i row hr j v hv => ?_⟩
    have := flat_get (fun row hr => (h1 row hr).1) hr hv
    simp only [bkA, ofA, Nat.zero_add]
    rw [cell_of_row w _ _ _ _ _ hg]
    rw [show ((rows.flatten ++ rest).toArray)[i * k + j]? = (rows.flatten ++ rest)[i * k + j]? by simp, List.getElem?_append_left (List.getElem?_eq_some_iff.1 this).1]
    exact this
theorem Sees.own {A : Option Addr} {c k : Nat} {rows : List (List Value)} {t : TypeId} (h : Pc.own A c k rows t ∈ m) : Sees m A c k rows := fun w hw => Owns.reads (hw _ h : Owns w A c k rows t)
def advA (A : Option Addr) (c l k : Nat) : Option Addr := if c = l then A else A.map (·.add (l * k))
theorem Reads.part {w : World} {A : Option Addr} {c k : Nat} {rows : List (List Value)} (h : Reads w A c k rows) (l n : Nat) (c' : Nat) (hl : l ≤ rows.length) (hc : n ≤ c') : Reads w (advA A c l k) c' k ((rows.drop l).take n) := by
  have hsub : ∀ i row, ((rows.drop l).take n)[i]? = some row → i < n ∧ rows[l + i]? = some row := fun i row hr => by
    rw [List.getElem?_take] at hr
    split at hr
    · rename_i hi; exact ⟨hi, by simpa using hr⟩
    · cases hr
  have hadv : ∀ i row, ((rows.drop l).take n)[i]? = some row → ∃ a, A = some a ∧ a.spot = none ∧ a.block < w.heap.size ∧ advA A c l k = some ⟨a.block, a.off + l * k, none⟩ := fun i row hr => by
    obtain ⟨hi, hr⟩ := hsub i row hr
    have hlt := (List.getElem?_eq_some_iff.1 hr).1
    obtain ⟨a, rfl, h2, h3⟩ := h.at_ (fun e => by rw [e] at hr; cases hr)
    refine ⟨a, rfl, h2, h3, ?_⟩
    have hcap := h.cap
    unfold advA
    rw [if_neg (by omega)]
    obtain ⟨b, o, s⟩ := a
    cases h2
    rw [Option.map_some, Addr.add_mid]
  refine ⟨?_, fun row hr => h.len row (List.mem_of_mem_drop (List.mem_of_mem_take hr)), fun hne => ?_, fun i row hr j v hv => ?_⟩
  · rw [List.length_take]; omega
  · obtain ⟨row, hr⟩ : ∃ row, ((rows.drop l).take n)[0]? = some row := by
      cases hq : (rows.drop l).take n with
      | nil => exact absurd hq hne
      | cons x y => exact ⟨x, rfl⟩
    obtain ⟨a, rfl, h2, h3, h4⟩ := hadv 0 row hr
    exact ⟨_, h4, rfl, h3⟩
  · obtain ⟨hi, hr'⟩ := hsub i row hr
    obtain ⟨a, rfl, h2, h3, h4⟩ := hadv i row hr
    rw [h4]
    have := h.row (l + i) row hr' j v hv
    simp only [bkA, ofA] at this ⊢
    rw [show a.off + l * k + i * k + j = a.off + (l + i) * k + j by rw [Nat.add_mul]; omega]
    exact this
def elP (A : Option Addr) (k i o : Nat) : Value := .pointer (some ⟨bkA A, ofA A + i * k + o, none⟩)
theorem cls_ok [hcl : Cls C W F m] {w : World} (hw : C w) : ∀ r ∈ m, r.ok w := (hcl.has w hw).ok
theorem y_eload [hcl : Cls C W F m] {A : Option Addr} {c k i o kk : Nat} {rows : List (List Value)} {row r : List Value} [hk : AggT P ty kk] (hx : opv L x = some (elP A k i o)) (hs : Sees m A c k rows) (hi : rows[i]? = some row) (hr : Sub row o kk r) : Yld P n C L ⟨dst, .load ty x, ty, pos, af, gd⟩ (.agg r.toArray) := y_run fun a ha w hw => by
  obtain ⟨d, hu, hd, hsz⟩ := aggB_spec hk.ok
  have hrd := hs w (cls_ok hw)
  have hl := run_loadVar_mid (P := P) w (bkA A) (ofA A + i * k + o) ty r d (fun j v hv => by have := hrd.row i row hi (o + j) v (hr.get j v hv); rw [← Nat.add_assoc] at this; exact this) hu hd (by rw [hr.spec.2]; exact hsz)
  have hx' : a.eval x = .pointer (some ⟨bkA A, ofA A + i * k + o, none⟩) := ev ha hx
  simp [execOp, hx', Instr.loadAt, Instr.sureAddr, hl]
theorem y_ecell [hcl : Cls C W F m] {A : Option Addr} {c k i o : Nat} {rows : List (List Value)} {row : List Value} {v : Value} (hx : opv L x = some (elP A k i o)) (hs : Sees m A c k rows) (hi : rows[i]? = some row) (hr : At row o v) (hk : scalB P ty = true) : Yld P n C L ⟨dst, .load ty x, ty, pos, af, gd⟩ v := y_run fun a ha w hw => by
  have hc := (hs w (cls_ok hw)).row i row hi o v hr.get
  have hx' : a.eval x = .pointer (some ⟨bkA A, ofA A + i * k + o, none⟩) := ev ha hx
  simp [execOp, hx', Instr.loadAt, Instr.sureAddr, loadVar, scalB_spec hk, hc]
theorem y_efaddr {t : TypeId} {f off ft k i o : Nat} {A : Option Addr} [hf : FldT P t f off ft] (hk : ((P.info? ft).map fun i => Nat.beq i.size 0) = some false) (hx : opv L x = some (elP A k i o)) : Yld P n C L ⟨dst, .fieldAddr t x f, ty, pos, af, gd⟩ (elP A k i (o + off)) := by
  have := y_faddr (P := P) (n := n) (C := C) (L := L) (dst := dst) (ty := ty) (pos := pos) (af := af) (gd := gd) (t := t) (f := f) hk (show opv L x = some (.pointer (some ⟨bkA A, ofA A + i * k + o, none⟩)) from hx)
  unfold elP
  rw [← Nat.add_assoc]
  exact this
class SlT (P : Program) (t : TypeId) (e k b : outParam Nat) : Prop where
  ok : P.underlying t = some (.slice e) ∧ (P.info? e).map (fun i => (i.size, i.bytes, (i.zero.map fun z => z.cells.size) == some i.size)) = some (k, b, true)
theorem SlT.spec {t e k b : Nat} (h : SlT P t e k b) : P.underlying t = some (.slice e) ∧ ∃ i z, P.info? e = some i ∧ i.zero = some z ∧ i.size = k ∧ i.bytes = b ∧ z.cells.size = k := by
  obtain ⟨h1, h2⟩ := h.ok
  refine ⟨h1, ?_⟩
  cases hi : P.info? e with
  | none => rw [hi] at h2; cases h2
  | some i =>
    rw [hi] at h2
    simp only [Option.map_some, Option.some.injEq, Prod.mk.injEq] at h2
    obtain ⟨rfl, rfl, h3⟩ := h2
    cases hz : i.zero with
    | none => rw [hz] at h3; cases h3
    | some z =>
      rw [hz] at h3
      refine ⟨i, z, rfl, hz, rfl, rfl, ?_⟩
      simpa using h3
theorem y_ixaddr [hcl : Cls C W F m] {t e k b : Nat} [hst : SlT P t e k b] {A : Option Addr} {n' c : Nat} {kd : IntKind} {ix : Int} {i : Nat} {rows : List (List Value)} (hx : opv L x = some (.slice A n' c)) (hy : opv L y = some (.int kd ix)) (hs : Sees m A c k rows) (hn : n' = rows.length) (hi : ix = (i : Int)) (hlt : i < rows.length) :
    Yld P n C L ⟨dst, .indexAddr t x y, ty, pos, af, gd⟩ (elP A k i 0) := y_run fun a ha w hw => by
  obtain ⟨hu, inf, z, hinf, _, hk, _, _⟩ := hst.spec
  subst hn hi
  obtain ⟨ad, rfl, h2, h3⟩ := (hs w (cls_ok hw)).at_ (fun e => by rw [e] at hlt; cases hlt)
  obtain ⟨bl, of, sp⟩ := ad
  cases h2
  have hlt' : (i : Int) < (rows.length : Int) := by omega
  simp [execOp, ev ha hx, ev ha hy, Instr.indexAt, asIntOf, run_underlying hu w, hlt, sizeOf, typeInfo, hinf, hk, Addr.add_mid, elP, bkA, ofA]
theorem y_len {t e k b : Nat} [hst : SlT P t e k b] {A : Option Addr} {n' c : Nat} (hx : opv L x = some (.slice A n' c)) : Yld P n C L ⟨dst, .call { callee := .builtin .len, args := #[x], argTypes := #[t] }, ty, pos, af, gd⟩ (.int .i64 ((n' : Nat) : Int)) := y_run fun a ha w hw => by
  simp [execOp, resolve, invoke, builtin, Builtin.len_, run_underlying hst.ok.1 w, ev ha hx, goInt]
class ArT (P : Program) (t : TypeId) (nn e k : outParam Nat) : Prop where
  ok : P.underlying t = some (.array nn e) ∧ (P.info? e).map (·.size) = some k
theorem y_axaddr {t nn e k : Nat} [hst : ArT P t nn e k] {g o : Nat} {kd : IntKind} {ix : Int} {i : Nat} (hx : opv L x = some (.pointer (some ⟨g, o, none⟩))) (hy : opv L y = some (.int kd ix)) (hi : ix = (i : Int)) (hlt : i < nn) :
    Yld P n C L ⟨dst, .indexAddr t x y, ty, pos, af, gd⟩ (.pointer (some ⟨g, o + i * k, none⟩)) := y_run fun a ha w hw => by
  obtain ⟨hu, hinf⟩ := hst.ok
  subst hi
  have hlt' : (i : Int) < (nn : Int) := by omega
  cases hq : P.info? e with
  | none => rw [hq] at hinf; cases hinf
  | some inf =>
    rw [hq] at hinf
    simp only [Option.map_some, Option.some.injEq] at hinf
    simp [execOp, ev ha hx, ev ha hy, Instr.indexAt, Instr.sureAddr, asIntOf, run_underlying hu w, hlt, sizeOf, typeInfo, hq, hinf, Addr.add_mid]
theorem y_aindex {t nn e : Nat} [hst : ArT P t nn e 1] {cs : List Value} {v : Value} {kd : IntKind} {ix : Int} {i : Nat} (hk : scalB P e = true) (hx : opv L x = some (.agg cs.toArray)) (hy : opv L y = some (.int kd ix)) (hi : ix = (i : Int)) (hlt : i < nn) (hv : cs[i]? = some v) :
    Yld P n C L ⟨dst, .index t x y, ty, pos, af, gd⟩ v := y_run fun a ha w hw => by
  obtain ⟨hu, hinf⟩ := hst.ok
  subst hi
  have hlt' : (i : Int) < (nn : Int) := by omega
  cases hq : P.info? e with
  | none => rw [hq] at hinf; cases hinf
  | some inf =>
    rw [hq] at hinf
    simp only [Option.map_some, Option.some.injEq] at hinf
    simp [execOp, ev ha hx, ev ha hy, Instr.index, asIntOf, run_underlying hu w, hlt, sizeOf, typeInfo, hq, hinf, part, scalB_spec hk, hv]
def opvo (L : Slots) : Option Operand → Option (Option Value)
  | none => some none
  | some x => (opv L x).map some
theorem evo {a : Act} (ha : Holds n L a) {x : Option Operand} {v : Option Value} (h : opvo L x = some v) : x.map a.eval = v := by
  cases x with
  | none => exact Option.some.inj h
  | some x =>
    have h' : (opv L x).map some = some v := h
    cases hq : opv L x with
    | none => rw [hq] at h'; cases h'
    | some u => rw [hq] at h'; cases h'; rw [Option.map_some, ev ha hq]
def bndV (d : Int) : Option Value → Option Int
  | some (.int _ q) => some q
  | some _ => none
  | none => some d
theorem y_slice {t e k b : Nat} [hst : SlT P t e k b] {A : Option Addr} {n' c l h : Nat} {lo hi : Option Operand} {vl vh : Option Value} (hx : opv L x = some (.slice A n' c)) (hl : opvo L lo = some vl) (hh : opvo L hi = some vh)
    (el : bndV 0 vl = some ((l : Nat) : Int)) (eh : bndV ((n' : Nat) : Int) vh = some ((h : Nat) : Int)) (h1 : l ≤ h) (h2 : h ≤ c) :
    Yld P n C L ⟨dst, .slice t x lo hi none, ty, pos, af, gd⟩ (.slice (advA A c l k) (h - l) (c - l)) := y_run fun a ha w hw => by
  obtain ⟨hu, inf, z, hinf, _, hk, _, _⟩ := hst.spec
  have h3 : (l : Int) ≤ (h : Int) := by omega
  have h4 : (h : Int) ≤ (c : Int) := by omega
  have hbl : ∀ kd cd, (Instr.sliceBound (.int kd ((l : Nat) : Int)) h cd).run P w = .ok l w := fun kd cd => by simp [Instr.sliceBound, asIntOf, h3]
  have hbh : ∀ kd cd, (Instr.sliceBound (.int kd ((h : Nat) : Int)) c cd).run P w = .ok h w := fun kd cd => by simp [Instr.sliceBound, asIntOf, h4]
  have hb : (Instr.sliceBounds true n' c vl vh none).run P w = .ok (l, h, c) w := by
    cases vl with
    | none =>
      have el0 : (0 : Int) = (l : Int) := Option.some.inj el
      obtain rfl : l = 0 := by omega
      cases vh with
      | none => have eh0 : ((n' : Nat) : Int) = (h : Int) := Option.some.inj eh; obtain rfl : n' = h := by omega
                simp [Instr.sliceBounds]
      | some v =>
        cases v <;> first | (cases eh; done) | skip
        have eh0 := Option.some.inj eh
        subst eh0
        simp [Instr.sliceBounds, hbh]
    | some u =>
      cases u <;> first | (cases el; done) | skip
      have el0 := Option.some.inj el
      subst el0
      cases vh with
      | none => have eh0 : ((n' : Nat) : Int) = (h : Int) := Option.some.inj eh; obtain rfl : n' = h := by omega
                simp [Instr.sliceBounds, hbl]
      | some v =>
        cases v <;> first | (cases eh; done) | skip
        have eh0 := Option.some.inj eh
        subst eh0
        simp [Instr.sliceBounds, hbh, hbl]
  have el' := evo ha hl
  have eh' := evo ha hh
  simp [execOp, ev ha hx, el', eh', Instr.sliceAt, Instr.slice, run_underlying hu w, hb, sizeOf, typeInfo, hinf, hk, advA]
def RCal (P : Program) (f : FuncId) (vs : List Value) (U : Mem) (v : Value) : Prop := ∀ w, (∀ u ∈ U, u.ok w) → Calls P f vs.toArray w fun e w' => e = .returned v ∧ Below w.heap.size w w'
inductive SeesAll (m : Mem) : Mem → Prop
  | nil : SeesAll m []
  | cons {A : Option Addr} {c k : Nat} {rows : List (List Value)} {U : Mem} (h : Sees m A c k rows) (hU : SeesAll m U) : SeesAll m (.vw A c k rows :: U)
  | mem {r : Pc} {U : Mem} (h : r ∈ m) (hU : SeesAll m U) : SeesAll m (r :: U)
theorem SeesAll.ok {U : Mem} (h : SeesAll m U) {w : World} (hw : ∀ r ∈ m, r.ok w) : ∀ u ∈ U, u.ok w := by
  induction h with
  | nil => exact fun _ h => by cases h
  | cons h _ ih =>
    intro u hu
    rcases List.mem_cons.1 hu with rfl | hu
    · exact h w hw
    · exact ih u hu
  | mem h _ ih =>
    intro u hu
    rcases List.mem_cons.1 hu with rfl | hu
    · exact hw _ h
    · exact ih u hu
theorem y_rcal [hcl : Cls C W F m] {f : FuncId} {fn : Func} {xs : Array Operand} {ts : Array TypeId} {vs : List Value} {U : Mem} {v : Value} (hf : P.funcs[f]? = some fn) (hq : ((fn.name == "runtime.NumGoroutine") || !fn.body.isSome) = false) (hv : opvs L xs.toList = some vs)
    (h : RCal P f vs U v) (hU : SeesAll m U) : Yld P n C L ⟨dst, .call { callee := .value (.func f), args := xs, argTypes := ts }, ty, pos, af, gd⟩ v :=
  y_call hf hq hv fun w hw => (h w (hU.ok (cls_ok hw))).mono fun e w' ⟨he, hb⟩ => ⟨he, hcl.step _ _ hw hb⟩
theorem Has.views (w : World) {U : Mem} (hU : ∀ u ∈ U, u.ok w) (hv : U.all (fun u => match u with | .vw .. => true | _ => false) = true) : Has w (fun _ => False) U w := by
  have e : wrs U = [] := by
    clear hU
    induction U with
    | nil => rfl
    | cons u U ih =>
      rw [List.all_cons, Bool.and_eq_true] at hv
      rw [wrs_cons, ih hv.2]
      cases u <;> simp_all [Pc.wr]
  exact ⟨Keep.refl _ _, hU, (fun g hg => by rw [e] at hg; cases hg), (by rw [e]; exact List.nodup_nil), (fun A c k rows _ _ => by rw [e]; exact (fun h => by cases h))⟩
theorem Cal.of_eq {f : FuncId} {vs : List Value} {v v' : Value} (h : Cal P f vs v') (e : v' = v) : Cal P f vs v := e ▸ h
def Tri (P : Program) (f : FuncId) (vs : List Value) (mu : Mem) (R : Value → Mem → Prop) : Prop := ∀ W F fr w, Has W F (mu ++ fr) w → Calls P f vs.toArray w fun e w' => ∃ v m', R v m' ∧ e = .returned v ∧ Has W F (m' ++ fr) w'
abbrev RetS (g : Option Addr → Nat → Value × Mem) : Value → Mem → Prop := fun v m' => ∃ A c, v = (g A c).1 ∧ m' = (g A c).2
/-! ### A region in the order of the text, in which memory changes -/
def SSeq (P : Program) (ops : Array Oper) (n : Fm) (W : World) (F : Nat → Prop) (Q : Exit → Act → World → Prop) (l : List Oper) (L : Slots) (m : Mem) : Prop := ∀ a w, Holds n L a → Has W F m w → wpList P ops Q l a w
theorem w_reg {id : Nat} (hro : n.ro = none) (h : SSeq P ops n W F Q ops.toList L m) : Wp P n W F (.region id ops false) L m Q := fun a w ha hw => wide_of hro <| wp_region_list (h a w ha hw)
theorem s_nil (h : Fin n W F Q .normal L m) : SSeq P ops n W F Q [] L m := h
theorem s_st0 {o : Oper} {v : Value} (hs : Stp P ops n (Has W F m) L o v) (hd : fits n o.dst = true) (h : SSeq P ops n W F Q l (putL o.dst v L) m) : SSeq P ops n W F Q (o :: l) L m := fun a w ha hw => by
  unfold wpList
  rcases hs a ha with ⟨h1, h2⟩ | ⟨h1, rfl⟩
  · rw [if_pos h1]
    exact .inl (Oper.wp_of_quiet (K := fun a' => Holds n (putL o.dst v L) a') hw (fun a' w' hw2 ha2 => h a' w' ha2 hw2) ⟨v, h2, ha.put hd v⟩)
  · rw [if_neg (by rw [h1]; exact Bool.false_ne_true)]
    exact h _ _ (ha.put hd _) hw
theorem s_st {d : Nat} {op : Op} {v : Value} (hs : Stp P ops n (Has W F m) L ⟨some d, op, ty, pos, af, gd⟩ v) (hd : Nat.blt d n = true) (h : SSeq P ops n W F Q l ((d, v) :: L) m) : SSeq P ops n W F Q (⟨some d, op, ty, pos, af, gd⟩ :: l) L m := s_st0 hs hd h
theorem s_op {op : Op} (hrun : ∀ a, Holds n L a → ∀ w, Has W F m w → (∃ v w', (execOp a.eval ⟨dst, op, ty, pos, af, none⟩).run P w = .ok (.value v) w' ∧ ∀ a', a' = a.put dst v → wpList P ops Q l a' w') ∨ (∃ w', (execOp a.eval ⟨dst, op, ty, pos, af, none⟩).run P w = .ok .skip w' ∧ ∀ a', a' = a.put dst undef → wpList P ops Q l a' w')) :
    SSeq P ops n W F Q (⟨dst, op, ty, pos, af, none⟩ :: l) L m := fun a w ha hw => by
  unfold wpList
  rw [if_pos (show Region.wanted ⟨dst, op, ty, pos, af, none⟩ (yielded ops a.tmps) = true from rfl)]
  refine .inl ?_
  unfold Oper.wp
  rcases hrun a ha w hw with ⟨v, w', h1, h2⟩ | ⟨w', h1, h2⟩
  · rw [h1]; exact h2 _ rfl
  · rw [h1]; exact h2 _ rfl
theorem s_box {d : Nat} {t : TypeId} {v : Value} {cs : List Value} (hx : opv L x = some v) (hv : Cells v cs) (hd : fits n (some d) = true) (h : ∀ g, SSeq P ops n W F Q l ((d, .pointer (some ⟨g, 0, none⟩)) :: L) (.blk g cs t :: m)) :
    SSeq P ops n W F Q (⟨some d, .box t x, ty, pos, af, none⟩ :: l) L m := s_op fun a ha w hw => .inl ⟨.pointer (some ⟨w.heap.size, 0, none⟩), w.alloc (.cells cs.toArray t), by
    obtain rfl := hv.spec
    have h0 : ((newVar t v).run P w) = .ok ⟨w.heap.size, 0, none⟩ (w.alloc (.cells v.cells t)) := rfl
    simp [execOp, ev ha hx, Instr.box, h0], fun a' e => by subst e; exact h _ _ _ (ha.put hd _) (hw.alloc cs t)⟩
def addUpon (P : Program) (W : World) (F : Nat → Prop) (R : Value → Mem → Prop) (w : World) : Result Next → Prop
  | .ok (.value v) w' => ∃ m', R v m' ∧ Has W F m' w'
  | .ok .skip w' => ∃ m', R undef m' ∧ Has W F m' w'
  | .ok (.enter f args) w' => w' = w ∧ Calls P f args w (fun e w'' => ∃ v m', R v m' ∧ e = .returned v ∧ Has W F m' w'')
  | _ => False
def Step1 (P : Program) (n : Fm) (W : World) (F : Nat → Prop) (o : Oper) (L : Slots) (m : Mem) (R : Value → Mem → Prop) : Prop := ∀ a, Holds n L a → ∀ w, Has W F m w → addUpon P W F R w ((execOp a.eval o).run P w)
theorem s_step {op : Op} {R : Value → Mem → Prop} (h1 : Step1 P n W F ⟨dst, op, ty, pos, af, none⟩ L m R) (hd : fits n dst = true) (h : ∀ v m', R v m' → SSeq P ops n W F Q l (putL dst v L) m') : SSeq P ops n W F Q (⟨dst, op, ty, pos, af, none⟩ :: l) L m := fun a w ha hw => by
  unfold wpList
  rw [if_pos (show Region.wanted ⟨dst, op, ty, pos, af, none⟩ (yielded ops a.tmps) = true from rfl)]
  refine .inl ?_
  have := h1 a ha w hw
  unfold Oper.wp
  generalize (execOp a.eval (⟨dst, op, ty, pos, af, none⟩ : Oper)).run P w = r at *
  cases r with
  | ok nx w' =>
    cases nx <;> first | exact this.elim | skip
    · obtain ⟨m1, r1, r2⟩ := this
      exact h _ _ r1 _ _ (ha.put hd _) r2
    · obtain ⟨m1, r1, r2⟩ := this
      exact h _ _ r1 _ _ (ha.put hd _) r2
    · obtain ⟨e1, hc⟩ := this
      rw [e1, Oper.upon_enter]
      refine hc.mono ?_
      rintro e w'' ⟨v, m1, r1, rfl, r3⟩
      exact h _ _ r1 _ _ (ha.put hd _) r3
  | halt x w' => exact this.elim
theorem st1_of {o : Oper} {R : Value → Mem → Prop} (h : ∀ a, Holds n L a → ∀ w, Has W F m w → ∃ v w' m', (execOp a.eval o).run P w = .ok (.value v) w' ∧ Has W F m' w' ∧ R v m') : Step1 P n W F o L m R := fun a ha w hw => by
  obtain ⟨v, w', m', h1, h2, h3⟩ := h a ha w hw
  rw [h1]
  exact ⟨m', h3, h2⟩
inductive PRows (L : Slots) (k : Nat) : Nat → List (Nat × Operand) → List (List Value) → Prop
  | nil {i : Nat} : PRows L k i [] []
  | cons {i : Nat} {x : Operand} {v : Value} {row : List Value} {l : List (Nat × Operand)} {rows : List (List Value)} (hx : opv L x = some v) (hc : Cells v row) (hk : (Nat.beq row.length k && row.all (·.oneCell')) = true) (h : PRows L k (i + 1) l rows) : PRows L k i ((i, x) :: l) (row :: rows)
theorem PRows.spec {k i : Nat} {ps : List (Nat × Operand)} {rows : List (List Value)} (h : PRows L k i ps rows) : rows.length = ps.length ∧ ∀ row ∈ rows, row.length = k ∧ ∀ v ∈ row, v.oneCell' = true := by
  induction h with
  | nil => exact ⟨rfl, fun _ h => by cases h⟩
  | cons _ _ hk _ ih =>
    rw [Bool.and_eq_true, List.all_eq_true] at hk
    refine ⟨by simp [ih.1], fun row hr => ?_⟩
    rcases List.mem_cons.1 hr with rfl | hr
    · exact ⟨Nat.eq_of_beq_eq_true hk.1, hk.2⟩
    · exact ih.2 row hr
theorem setAt_app : ∀ (vs zs pre : List Value), vs.length ≤ zs.length → setAt (pre ++ zs) pre.length vs = pre ++ vs ++ zs.drop vs.length
  | [], zs, pre, _ => by simp [setAt]
  | v :: vs, [], pre, h => by simp at h
  | v :: vs, z :: zs, pre, h => by
    have e : (pre ++ z :: zs).set pre.length v = (pre ++ [v]) ++ zs := by simp
    have e2 : (pre ++ [v]).length = pre.length + 1 := by simp
    rw [setAt, e, ← e2, setAt_app vs zs (pre ++ [v]) (by simpa using h)]
    simp
theorem PRows.fill {k i : Nat} {ps : List (Nat × Operand)} {rows : List (List Value)} {a : Act} (ha : Holds n L a) (h : PRows L k i ps rows) :
    ∀ (pre zs : List Value), pre.length = i * k → zs.length = rows.length * k → Instr.fill (fun i => some (i * k, k)) (pre ++ zs).toArray (ps.map fun p => (p.1, a.eval p.2)) = some (pre ++ rows.flatten).toArray := by
  induction h with
  | nil =>
    intro pre zs _ hz
    obtain rfl : zs = [] := List.eq_nil_of_length_eq_zero (by simpa using hz)
    simp [Instr.fill]
  | @cons i x v row l rows hx hc hk h ih =>
    intro pre zs hp hz
    rw [Bool.and_eq_true] at hk
    have k1 := Nat.eq_of_beq_eq_true hk.1
    have hcs := hc.spec
    have hsz : v.cells.size = k := by rw [← k1, ← hcs]; simp
    rw [List.length_cons, Nat.add_mul] at hz
    have hpl : (pre ++ zs).length = pre.length + zs.length := by simp
    simp only [List.map_cons, Instr.fill, ev ha hx]
    rw [if_neg (by simp; omega)]
    have e : (v.cells.zipIdx.foldl (fun (cs : Array Value) (p : Value × Nat) => cs.setIfInBounds (i * k + p.2) p.1) (pre ++ zs).toArray) = (pre ++ row ++ zs.drop row.length).toArray := by
      rw [← Array.foldl_toList, Array.toList_zipIdx, hcs]
      have := setAt_foldl row (pre ++ zs) (i * k) 0
      rw [this, Nat.add_zero, ← hp, setAt_app _ _ _ (by omega)]
    rw [e]
    have := ih (pre ++ row) (zs.drop row.length) (by rw [List.length_append, hp, k1, Nat.add_mul]; omega) (by rw [List.length_drop]; omega)
    rw [this]
    simp
theorem PRows.fillz {k i : Nat} {ps : List (Nat × Operand)} {rows : List (List Value)} {a : Act} (ha : Holds n L a) (h : PRows L k i ps rows) :
    ∀ (pre zs : List Value), pre.length = i * k → rows.length * k ≤ zs.length → Instr.fill (fun i => some (i * k, k)) (pre ++ zs).toArray (ps.map fun p => (p.1, a.eval p.2)) = some (pre ++ rows.flatten ++ zs.drop (rows.length * k)).toArray := by
  induction h with
  | nil =>
    intro pre zs _ _
    simp [Instr.fill]
  | @cons i x v row l rows hx hc hk h ih =>
    intro pre zs hp hz
    rw [Bool.and_eq_true] at hk
    have k1 := Nat.eq_of_beq_eq_true hk.1
    have hcs := hc.spec
    have hsz : v.cells.size = k := by rw [← k1, ← hcs]; simp
    rw [List.length_cons, Nat.add_mul] at hz
    have hpl : (pre ++ zs).length = pre.length + zs.length := by simp
    simp only [List.map_cons, Instr.fill, ev ha hx]
    rw [if_neg (by simp; omega)]
    have e : (v.cells.zipIdx.foldl (fun (cs : Array Value) (p : Value × Nat) => cs.setIfInBounds (i * k + p.2) p.1) (pre ++ zs).toArray) = (pre ++ row ++ zs.drop row.length).toArray := by
      rw [← Array.foldl_toList, Array.toList_zipIdx, hcs]
      have := setAt_foldl row (pre ++ zs) (i * k) 0
      rw [this, Nat.add_zero, ← hp, setAt_app _ _ _ (by omega)]
    rw [e]
    have := ih (pre ++ row) (zs.drop row.length) (by rw [List.length_append, hp, k1, Nat.add_mul]; omega) (by rw [List.length_drop]; omega)
    rw [this]
    simp only [List.flatten_cons, List.append_assoc, List.drop_drop, List.length_cons, Nat.add_mul, Nat.one_mul, k1, Option.some.injEq]
    rw [Nat.add_comm (rows.length * k) k]
theorem y_abuild {t nn e k : Nat} [hst : ArT P t nn e k] {z r : List Value} [hz : ZeroT P t z] {ps : Array (Nat × Operand)} {rows : List (List Value)} (h : PRows L k 0 ps.toList rows) (hl : Nat.ble (rows.length * k) z.length = true) (hr : rows.flatten ++ z.drop (rows.length * k) = r) : Yld P n C L ⟨dst, .build t ps, ty, pos, af, gd⟩ (.agg r.toArray) := y_run fun a ha w hw => by
  obtain ⟨hu, hinf⟩ := hst.ok
  have hz0 := hz.ok
  subst hr
  cases hi : P.info? t with
  | none => rw [hi] at hz0; cases hz0
  | some i =>
    cases hq : i.zero with
    | none => rw [hi] at hz0; simp [hq] at hz0
    | some zv =>
      rw [hi] at hz0
      simp only [Option.bind_some, hq, Option.map_some, Option.some.injEq] at hz0
      have hzc : zv.cells = z.toArray := by rw [← hz0]
      cases he : P.info? e with
      | none => rw [he] at hinf; cases hinf
      | some ie =>
        rw [he] at hinf
        simp only [Option.map_some, Option.some.injEq] at hinf
        have hps : (ps.map fun (i, x) => (i, a.eval x)).toList = ps.toList.map fun p => (p.1, a.eval p.2) := by simp
        have hf := h.fillz ha [] z (by simp) (Nat.le_of_ble_eq_true hl)
        simp only [List.nil_append] at hf
        simp only [execOp]
        rw [Sem.run_bind]
        have hb : (Instr.build t (ps.map fun (i, x) => (i, a.eval x))).run P w = .ok (.agg (rows.flatten ++ z.drop (rows.length * k)).toArray) w := by
          unfold Instr.build
          simp only [Sem.run_bind, zeroValue, typeInfo, sizeOf, program, Sem.run, hi, hq, he, hinf, Sem.run_pure, Result.andThen_ok, run_underlying hu w, hps, hzc, hf]
        rw [hb]
        rfl
theorem run_bslice {t e k b len : Nat} (hst : SlT P t e k b) (w : World) {ps : Array (Nat × Operand)} {rows : List (List Value)} {a : Act} (ha : Holds n L a) (h : PRows L k 0 ps.toList rows) (hlen : rows.length = len) (hb : Nat.ble (len * k) 16777216 = true) :
    (Instr.buildSlice t len (ps.map fun (i, x) => (i, a.eval x))).run P w = .ok (.slice (some ⟨w.heap.size, 0, none⟩) len len) (w.alloc (.cells rows.flatten.toArray e)) := by
  obtain ⟨hu, inf, z, hinf, hz, hk, _, hzc⟩ := hst.spec
  have hb' : ¬ (16777216 < len * k) := Nat.not_lt.2 (Nat.le_of_ble_eq_true hb)
  have hps : (ps.map fun (i, x) => (i, a.eval x)).toList = ps.toList.map fun p => (p.1, a.eval p.2) := by simp
  have hfill : ∀ zs : Array Value, zs.size = len * k → Instr.fill (fun i => some (i * k, k)) zs (ps.toList.map fun p => (p.1, a.eval p.2)) = some rows.flatten.toArray := fun zs hzs => by
    have := h.fill ha [] zs.toList (by simp) (by rw [Array.length_toList, hzs, hlen])
    simpa using this
  have hrow : ∀ (cs : Array Value), (newRow e cs).run P w = .ok ⟨w.heap.size, 0, none⟩ (w.alloc (.cells cs e)) := fun cs => rfl
  have hgen : ∀ zr : Array Value, Instr.fill (fun i => some (i * k, k)) (Array.map (fun x => zr[x % zr.size]!) (Array.range (len * k))) (ps.toList.map fun p => (p.1, a.eval p.2)) = some rows.flatten.toArray := fun zr => hfill _ (by simp)
  simp only [Instr.buildSlice, Sem.run_bind, run_underlying hu w, Result.andThen_ok, sizeOf, typeInfo, program, Sem.run, hinf, Sem.run_pure, hk]
  rw [if_neg hb']
  by_cases h0 : len * k = 0
  · simp only [h0, if_true, Sem.run_bind, Sem.run_pure, Result.andThen_ok, hps]
    have := hfill (Array.map (fun x => (#[] : Array Value)[x % (#[] : Array Value).size]!) (Array.range (len * k))) (by simp)
    rw [h0] at this
    rw [this]
    rfl
  · simp only [h0, if_false, Sem.run_bind, Sem.run_pure, Result.andThen_ok, hps, zeroValue, typeInfo, program, Sem.run, hinf, hz, hgen z.cells]
    rfl
theorem st1_bslice {d len : Nat} {t e k b : Nat} [hst : SlT P t e k b] {ps : Array (Nat × Operand)} {rows : List (List Value)} (h : PRows L k 0 ps.toList rows) (hb : (Nat.beq rows.length len && Nat.ble (len * k) 16777216) = true) : Step1 P n W F ⟨some d, .buildSlice t len ps, ty, pos, af, none⟩ L m (fun v m' => ∃ g, v = .slice (some ⟨g, 0, none⟩) len len ∧ m' = .own (some ⟨g, 0, none⟩) len k rows e :: m) := st1_of fun a ha w hw => by
  rw [Bool.and_eq_true] at hb
  have hlen := Nat.eq_of_beq_eq_true hb.1
  refine ⟨.slice (some ⟨w.heap.size, 0, none⟩) len len, w.alloc (.cells rows.flatten.toArray e), _, ?_, ?_, ⟨w.heap.size, rfl, rfl⟩⟩
  · simp only [execOp]
    rw [Sem.run_bind, run_bslice hst w ha h hlen hb.2]
    rfl
  · have hsp := h.spec
    refine hw.add ((Below.refl _ _).alloc (Nat.le_refl _) _) ⟨hsp.2, ?_⟩ (fun g hg => ?_) own_nodup (fun _ _ _ _ e => by cases e)
    · by_cases h0 : len = 0
      · exact .inl ⟨h0, List.eq_nil_of_length_eq_zero (by omega)⟩
      · refine .inr ⟨by omega, w.heap.size, [], rfl, ?_, ?_, by omega⟩
        · rw [List.append_nil]; exact heap_alloc_new w _
        · rw [List.append_nil, flat_len (fun row hr => (hsp.2 row hr).1), hlen]
    · obtain ⟨_, a, e, rfl⟩ := own_mem hg
      cases e; exact Nat.le_refl _
theorem s_bslice {d len : Nat} {t e k b : Nat} [hst : SlT P t e k b] {ps : Array (Nat × Operand)} {rows : List (List Value)} (h : PRows L k 0 ps.toList rows) (hb : (Nat.beq rows.length len && Nat.ble (len * k) 16777216) = true) (hd : fits n (some d) = true)
    (hn : ∀ g, SSeq P ops n W F Q l ((d, .slice (some ⟨g, 0, none⟩) len len) :: L) (.own (some ⟨g, 0, none⟩) len k rows e :: m)) :
    SSeq P ops n W F Q (⟨some d, .buildSlice t len ps, ty, pos, af, none⟩ :: l) L m := s_step (st1_bslice h hb) hd fun v m' ⟨g, e1, e2⟩ => by subst e1 e2; exact hn g
theorem s_alloc {d : Nat} {t : TypeId} {cs : List Value} [hz0 : ZeroT P t cs] (hd : fits n (some d) = true) (h : ∀ g, SSeq P ops n W F Q l ((d, .pointer (some ⟨g, 0, none⟩)) :: L) (.blk g cs t :: m)) :
    SSeq P ops n W F Q (⟨some d, .alloc t, ty, pos, af, none⟩ :: l) L m := s_op fun a ha w hw => .inl ⟨.pointer (some ⟨w.heap.size, 0, none⟩), w.alloc (.cells cs.toArray t), by
    have hz := hz0.ok
    cases hi : P.info? t with
    | none => rw [hi] at hz; cases hz
    | some i =>
      cases hq : i.zero with
      | none => rw [hi] at hz; simp [hq] at hz
      | some v =>
        rw [hi] at hz
        simp only [Option.bind_some, hq, Option.map_some, Option.some.injEq] at hz
        subst hz
        have h0 : ((newVar t v).run P w) = .ok ⟨w.heap.size, 0, none⟩ (w.alloc (.cells v.cells t)) := rfl
        simp [execOp, Instr.alloc, zeroValue, typeInfo, hi, hq, h0], fun a' e => by subst e; exact h _ _ _ (ha.put hd _) (hw.alloc cs t)⟩
theorem run_store1 {w : World} {g o : Nat} {cs : List Value} {t : TypeId} {v : Value} (hg : w.heap[g]? = some (.cells cs.toArray t (0, 0))) (ho : o < cs.length) (h1 : v.oneCell' = true) : (store ⟨g, o, none⟩ v).run P w = .ok () (w.setCell ⟨g, o, none⟩ v) := by
  have hc : w.cell? ⟨g, o, none⟩ = some cs[o] := by rw [cell_of_row w g _ _ _ _ hg]; simp [ho]
  have hf := frozen_of_row w g o _ t hg
  cases v <;> first | (simp [store, Sem.run, hc, hf]; done) | cases h1
theorem run_cells_in {g : Nat} {t : TypeId} : ∀ (vs : List Value) (o i : Nat) {cs : List Value} {w : World}, w.heap[g]? = some (.cells cs.toArray t (0, 0)) → o + i + vs.length ≤ cs.length → (∀ v ∈ vs, v.oneCell' = true) →
    ∃ w', (storeCells ⟨g, o, none⟩ vs i).run P w = .ok () w' ∧ Chg [g] w w' ∧ w'.heap[g]? = some (.cells (setAt cs (o + i) vs).toArray t (0, 0))
  | [], o, i, cs, w, hg, _, _ => ⟨w, rfl, ⟨rfl, rfl, rfl, Nat.le_refl _, fun _ _ _ => rfl⟩, hg⟩
  | v :: vs, o, i, cs, w, hg, hl, h1 => by
    simp only [List.length_cons] at hl
    have hst : (store (Addr.add ⟨g, o, none⟩ i) v).run P w = .ok () (w.setCell ⟨g, o + i, none⟩ v) := by
      have : (Addr.add ⟨g, o, none⟩ i) = ⟨g, o + i, none⟩ := Addr.add_mid ..
      rw [this]
      exact run_store1 (cs := cs) hg (by omega) (h1 v (List.mem_cons_self ..))
    have hg' : (w.setCell ⟨g, o + i, none⟩ v).heap[g]? = some (.cells (cs.set (o + i) v).toArray t (0, 0)) := by
      rw [heap_setCell_same w g (o + i) _ t v hg]; simp
    obtain ⟨w', r1, r2, r3⟩ := run_cells_in vs o (i + 1) hg' (by simp; omega) (fun v hv => h1 v (List.mem_cons_of_mem _ hv))
    refine ⟨w', ?_, ⟨r2.os, r2.tape, r2.output, Nat.le_trans (by simp [World.setCell]) r2.size, fun k hk hne => ?_⟩, by rw [setAt]; exact r3⟩
    · unfold storeCells
      rw [Sem.run_bind, hst]
      exact r1
    · rw [r2.block k (by simpa [World.setCell] using hk) hne]
      exact heap_setCell_other w ⟨g, o + i, none⟩ k v (fun e => hne (List.mem_singleton.2 e))
theorem run_storeAt_in {g o : Nat} {t tv : TypeId} {v : Value} {vs cs : List Value} {w : World} (hg : w.heap[g]? = some (.cells cs.toArray t (0, 0))) (hc : Cells v vs) (hi : ((P.info? tv).map fun i => Nat.beq vs.length i.size) = some true) (hl : o + vs.length ≤ cs.length) (h1 : ∀ v ∈ vs, v.oneCell' = true) :
    ∃ w', (Instr.storeAt tv (.pointer (some ⟨g, o, none⟩)) v).run P w = .ok () w' ∧ Chg [g] w w' ∧ w'.heap[g]? = some (.cells (setAt cs o vs).toArray t (0, 0)) := by
  obtain rfl := hc.spec
  have hsz0 : v.cells.toList.length = v.cells.size := Array.length_toList
  obtain ⟨w', r1, r2, r3⟩ := run_cells_in (P := P) v.cells.toList o 0 hg (by rw [Nat.add_zero]; exact hl) h1
  refine ⟨w', ?_, r2, r3⟩
  cases hq : P.info? tv with
  | none => rw [hq] at hi; cases hi
  | some i =>
    have hsz : v.cells.size = i.size := by
      rw [hq] at hi
      simp only [Option.map_some, Option.some.injEq] at hi
      have := Nat.eq_of_beq_eq_true hi
      omega
    simp [Instr.storeAt, Instr.sureAddr, storeVar, sizeOf, typeInfo, hq, hsz, r1]
theorem s_store {g o : Nat} {t tv : TypeId} {v : Value} {vs cs cs' : List Value} {f : Pc → Mem} (hx : opv L x = some (.pointer (some ⟨g, o, none⟩))) (hy : opv L y = some v) (hp : Plc m (.blk g cs t) f) (hc : Cells v vs) (hs : setAt cs o vs = cs') (hi : ((P.info? tv).map fun i => Nat.beq vs.length i.size) = some true) (hk : (Nat.ble (o + vs.length) cs.length && vs.all (·.oneCell')) = true)
    (h : SSeq P ops n W F Q l L (f (.blk g cs' t))) : SSeq P ops n W F Q (⟨none, .store tv x y, ty, pos, af, none⟩ :: l) L m := s_op fun a ha w hw => .inr (by
    simp only [Bool.and_eq_true, List.all_eq_true] at hk
    obtain ⟨k2, k3⟩ := hk
    subst hs
    obtain ⟨w', r1, r2, r3⟩ := run_storeAt_in (P := P) (w := w) (hw.ok _ hp.mem : w.heap[g]? = some (.cells cs.toArray t (0, 0))) hc hi (Nat.le_of_ble_eq_true k2) k3
    refine ⟨w', ?_, fun a' e => by subst e; exact h _ _ ha (hw.put hp r2 r3 (fun x hx => .inl hx) (List.nodup_cons.2 ⟨(fun h => by cases h), List.nodup_nil⟩) (fun _ _ _ _ e => by cases e))⟩
    simp [execOp, ev ha hx, ev ha hy, r1])
theorem setAt_pre : ∀ (vs pre rest : List Value) (o : Nat), setAt (pre ++ rest) (pre.length + o) vs = pre ++ setAt rest o vs
  | [], _, _, _ => rfl
  | v :: vs, pre, rest, o => by
    rw [setAt, setAt, show (pre ++ rest).set (pre.length + o) v = pre ++ rest.set o v by rw [List.set_append, if_neg (by omega), Nat.add_sub_cancel_left], Nat.add_assoc]
    exact setAt_pre vs pre _ (o + 1)
theorem setAt_post : ∀ (vs l rest : List Value) (o : Nat), o + vs.length ≤ l.length → setAt (l ++ rest) o vs = setAt l o vs ++ rest
  | [], _, _, _, _ => rfl
  | v :: vs, l, rest, o, h => by
    simp only [List.length_cons] at h
    rw [setAt, setAt, show (l ++ rest).set o v = l.set o v ++ rest by rw [List.set_append, if_pos (by omega)]]
    exact setAt_post vs _ rest (o + 1) (by simp; omega)
theorem flat_setAt {k : Nat} : ∀ {rows : List (List Value)}, (∀ row ∈ rows, row.length = k) → ∀ {i : Nat} {row : List Value}, rows[i]? = some row → ∀ (o : Nat) (vs : List Value), o + vs.length ≤ k → setAt rows.flatten (i * k + o) vs = (rows.set i (setAt row o vs)).flatten
  | [], _, i, row, h, _, _, _ => by cases h
  | r :: rows, hk, 0, row, h, o, vs, hv => by
    cases h
    have h0 := hk r (List.mem_cons_self ..)
    rw [List.flatten_cons, Nat.zero_mul, Nat.zero_add, setAt_post _ _ _ _ (by omega)]
    simp
  | r :: rows, hk, i + 1, row, h, o, vs, hv => by
    have h0 := hk r (List.mem_cons_self ..)
    rw [List.flatten_cons, show (i + 1) * k + o = r.length + (i * k + o) by rw [h0, Nat.add_mul]; omega, setAt_pre, flat_setAt (fun row hr => hk row (List.mem_cons_of_mem _ hr)) (by simpa using h) o vs hv]
    simp
theorem setAt_one (vs row : List Value) (o : Nat) (h1 : ∀ v ∈ row, v.oneCell' = true) (h2 : ∀ v ∈ vs, v.oneCell' = true) : ∀ v ∈ setAt row o vs, v.oneCell' = true := by
  induction vs generalizing row o with
  | nil => exact h1
  | cons x vs ih =>
    rw [setAt]
    exact ih _ _ (fun v hv => (List.mem_or_eq_of_mem_set hv).elim (h1 v) (fun e => by rw [e]; exact h2 x (List.mem_cons_self ..))) (fun v hv => h2 v (List.mem_cons_of_mem _ hv))
theorem s_estore {A : Option Addr} {c k i o : Nat} {rows : List (List Value)} {t tv : TypeId} {v : Value} {vs row row' : List Value} {f : Pc → Mem} (hx : opv L x = some (elP A k i o)) (hy : opv L y = some v) (hp : Plc m (.own A c k rows t) f) (hr : rows[i]? = some row) (hc : Cells v vs) (hs : setAt row o vs = row') (hi : ((P.info? tv).map fun i => Nat.beq vs.length i.size) = some true) (hk : (Nat.ble (o + vs.length) k && vs.all (·.oneCell')) = true)
    (h : SSeq P ops n W F Q l L (f (.own A c k (rows.set i row') t))) : SSeq P ops n W F Q (⟨none, .store tv x y, ty, pos, af, none⟩ :: l) L m := s_op fun a ha w hw => .inr (by
    simp only [Bool.and_eq_true, List.all_eq_true] at hk
    obtain ⟨k2, k3⟩ := hk
    have k2 := Nat.le_of_ble_eq_true k2
    subst hs
    obtain ⟨h1, h2⟩ : Owns w A c k rows t := hw.ok _ hp.mem
    have hne : rows ≠ [] := fun e => by rw [e] at hr; cases hr
    rcases h2 with ⟨_, h2⟩ | ⟨hcp, g, rest, rfl, hg, hl, hle⟩
    · exact absurd h2 hne
    · have hin : row ∈ rows := List.mem_of_getElem? hr
      have hlt := (List.getElem?_eq_some_iff.1 hr).1
      have hfl := flat_len (fun row hr => (h1 row hr).1)
      have hmul : i * k + k ≤ rows.length * k := by rw [← Nat.succ_mul]; exact Nat.mul_le_mul_right k hlt
      obtain ⟨w', r1, r2, r3⟩ := run_storeAt_in (P := P) (w := w) (o := i * k + o) hg hc hi (by rw [List.length_append, hfl]; omega) k3
      have hset : setAt (rows.flatten ++ rest) (i * k + o) vs = (rows.set i (setAt row o vs)).flatten ++ rest := by
        rw [setAt_post _ _ _ _ (by rw [hfl]; omega), flat_setAt (fun row hr => (h1 row hr).1) hr o vs k2]
      rw [hset] at r3
      refine ⟨w', ?_, fun a' e => by
        subst e
        refine h _ _ ha (hw.put hp (by rw [wr_own]; unfold bksA; rw [if_neg (by omega)]; exact r2) ⟨fun r hr' => ?_, .inr ⟨hcp, g, rest, rfl, r3, ?_, by simpa using hle⟩⟩ (fun x hx => .inl hx) own_nodup (fun _ _ _ _ e => by cases e))
        · rcases List.mem_or_eq_of_mem_set hr' with q | rfl
          · exact h1 r q
          · exact ⟨by rw [setAt_length]; exact (h1 row hin).1, setAt_one _ _ _ (h1 row hin).2 k3⟩
        · rw [← hset, setAt_length]; exact hl⟩
      have hx' : a.eval x = .pointer (some ⟨g, 0 + i * k + o, none⟩) := ev ha hx
      rw [Nat.zero_add] at hx'
      simp [execOp, hx', ev ha hy, r1])
/-! ### append, make, calls that hand memory back -/
theorem reads_src {A : Option Addr} {c k : Nat} {rows : List (List Value)} {w : World} (h : Reads w A c k rows) {tx e' : TypeId} (hu : P.underlying tx = some (.slice e')) (c' : Nat) : Src P k tx (.slice A rows.length c') rows.length rows.flatten w := by
  have hlen : rows.flatten.length = rows.length * k := flat_len (fun row hr => (h.len row hr).1)
  have hone : ∀ u ∈ rows.flatten, u.oneCell' = true := fun u hu => by
    obtain ⟨row, hr, hu⟩ := List.mem_flatten.1 hu
    exact (h.len row hr).2 u hu
  by_cases hne : rows = []
  · subst hne
    cases A with
    | none => exact Src.ofNil w hu c'
    | some a => exact Src.ofSlice w hu a 0 c' [] (by simp) (fun j u hu => by cases hu) (fun _ h => by cases h)
  · obtain ⟨a, rfl, h2, h3⟩ := h.at_ hne
    refine Src.ofSlice w hu a _ c' _ hlen (fun j u hju => ?_) hone
    obtain ⟨bl, of, sp⟩ := a
    cases h2
    rw [Addr.add_mid]
    have hjl : j < rows.length * k := by rw [← hlen]; exact (List.getElem?_eq_some_iff.1 hju).1
    have hk0 : 0 < k := Nat.pos_of_ne_zero (fun e => by rw [e, Nat.mul_zero] at hjl; cases hjl)
    have hd : j / k < rows.length := Nat.div_lt_of_lt_mul (by rw [Nat.mul_comm]; exact hjl)
    have hrow : rows[j / k]? = some rows[j / k] := List.getElem?_eq_getElem hd
    have hmem := List.getElem_mem hd
    have hrl := (h.len _ hmem).1
    have hmod : j % k < (rows[j / k]).length := by rw [hrl]; exact Nat.mod_lt _ hk0
    have hcell := List.getElem?_eq_getElem hmod
    have hfl := flat_get (fun row hr => (h.len row hr).1) hrow hcell
    have hje : j / k * k + j % k = j := by rw [Nat.mul_comm]; exact Nat.div_add_mod j k
    rw [hje, hju] at hfl
    have := h.row _ _ hrow _ _ hcell
    simp only [bkA, ofA] at this
    rw [Nat.add_assoc, hje] at this
    rw [this, ← hfl]
theorem setCells_chg {g : Nat} {t : TypeId} : ∀ (vs : List Value) (o : Nat) {cs : List Value} {w : World}, w.heap[g]? = some (.cells cs.toArray t (0, 0)) → Chg [g] w (w.setCells g o vs) ∧ (w.setCells g o vs).heap[g]? = some (.cells (setAt cs o vs).toArray t (0, 0))
  | [], o, cs, w, hg => ⟨⟨rfl, rfl, rfl, Nat.le_refl _, fun _ _ _ => rfl⟩, hg⟩
  | v :: vs, o, cs, w, hg => by
    have hg' : (w.setCell ⟨g, o, none⟩ v).heap[g]? = some (.cells (cs.set o v).toArray t (0, 0)) := by
      rw [heap_setCell_same w g o _ t v hg]; simp
    obtain ⟨r2, r3⟩ := setCells_chg vs (o + 1) hg'
    rw [World.setCells, setAt]
    refine ⟨⟨r2.os, r2.tape, r2.output, Nat.le_trans (by simp [World.setCell]) r2.size, fun k hk hne => ?_⟩, r3⟩
    rw [r2.block k (by simpa [World.setCell] using hk) hne]
    exact heap_setCell_other w ⟨g, o, none⟩ k v (fun e => hne (List.mem_singleton.2 e))
theorem run_append_res {t tx e k b : Nat} (hst : SlT P t e k b) {e' : TypeId} (hux : P.underlying tx = some (.slice e')) (ty : TypeId) {A B : Option Addr} {c cb : Nat} {rows new : List (List Value)} {w : World} (ho : Owns w A c k rows e) (hs : Reads w B cb k new) (cb' : Nat) (hk0 : 0 < k)
    (hb : rows.length + new.length ≤ 1000000000) (hbb : b ≤ 100000) :
    ∃ A' c' w', (Builtin.append_ #[t, tx] ty #[.slice A rows.length c, .slice B new.length cb']).run P w = .ok (.slice A' (rows.length + new.length) c') w' ∧ Owns w' A' c' k (rows ++ new) e ∧ Chg (bksA A c) w w' ∧ (∀ g ∈ bksA A' c', g ∈ bksA A c ∨ w.heap.size ≤ g) := by
  obtain ⟨hu, inf, z, hinf, hz, hk, hby, hzc⟩ := hst.spec
  subst hk
  have hsrc := reads_src (P := P) hs hux cb'
  have hrows : ∀ row ∈ rows ++ new, row.length = inf.size ∧ ∀ v ∈ row, v.oneCell' = true := fun row hr => (List.mem_append.1 hr).elim (ho.1 row) (hs.len row)
  have hbytes : (rows.length + new.length) * inf.bytes ≤ 140737488355328 := by
    have : (rows.length + new.length) * inf.bytes ≤ 1000000000 * 100000 := Nat.mul_le_mul hb (by omega)
    omega
  by_cases hroom : rows.length + new.length ≤ c
  · by_cases hc : c = 0
    · subst hc
      have e1 : rows = [] := List.eq_nil_of_length_eq_zero (by omega)
      have e2 : new = [] := List.eq_nil_of_length_eq_zero (by omega)
      subst e1 e2
      refine ⟨A, 0, w, ?_, ⟨fun _ h => (by cases h), .inl ⟨rfl, rfl⟩⟩, ⟨rfl, rfl, rfl, Nat.le_refl _, fun _ _ _ => rfl⟩, fun g hg => .inl hg⟩
      rcases hsrc.kind with ⟨e'', hk2⟩ | hk2
      · have hcl : (Builtin.firstCells inf.size 0 (.slice B 0 cb')).run P w = .ok #[] w := hsrc.cells
        cases A <;> simp [Builtin.append_, run_underlying hu, run_underlying hk2, sizeOf, typeInfo, hinf, hcl, storeCells, Builtin.lenOf]
      · rw [hux] at hk2; cases hk2
    · rcases ho.2 with ⟨h0, _⟩ | ⟨_, g, rest, rfl, hg, hl, hle⟩
      · exact absurd h0 hc
      · have hfl := flat_len (fun row hr => (ho.1 row hr).1)
        have hnl := hsrc.newsLen
        have hmul : (rows.length + new.length) * inf.size ≤ c * inf.size := Nat.mul_le_mul_right _ hroom
        rw [Nat.add_mul] at hmul
        have hfit : ∀ j, j < new.flatten.length → 0 + rows.length * inf.size + j < (rows.flatten ++ rest).length := fun j hj => by rw [hl]; omega
        have hr := run_append_room_src (P := P) w t tx ty e inf hu hinf g 0 rows.length c _ _ _ hsrc hroom
          (fun j hj => by rw [cell_of_row w _ _ _ _ _ hg]; simp only [List.getElem?_toArray]; rw [List.getElem?_eq_getElem (hfit j hj)]; rfl)
          (fun j hj => frozen_of_row w g _ _ _ hg)
        obtain ⟨q1, q2⟩ := setCells_chg new.flatten (0 + rows.length * inf.size) hg
        refine ⟨_, c, _, hr, ⟨hrows, .inr ⟨by omega, g, rest.drop new.flatten.length, rfl, ?_, ?_, ?_⟩⟩, ?_, fun x hx => .inl hx⟩
        · rw [q2, Nat.zero_add, ← hfl, setAt_app _ _ _ (by rw [List.length_append] at hl; omega)]
          simp
        · rw [List.length_append] at hl
          simp only [List.flatten_append, List.length_append, List.length_drop]
          omega
        · rw [List.length_append]; exact hroom
        · unfold bksA; rw [if_neg hc]; exact q1
  · have hold : (Builtin.firstCells inf.size rows.length (.slice A rows.length c)).run P w.drew = .ok rows.flatten.toArray w.drew := by
      rcases ho.2 with ⟨_, rfl⟩ | ⟨_, g, rest, rfl, hg, hl, hle⟩
      · cases A with
        | none => exact run_firstCells_none w.drew _ _ _ _
        | some a => exact run_firstCells_some w.drew _ _ _ _ _ [] (by simp) (fun j u hu => by cases hu)
      · have := (reads_src (P := P) ho.reads hu c).cellsD
        exact this
    have hr := run_append_grow_src (P := P) w t tx ty e inf z hu hinf hz A rows.length c _ hold _ _ _ hsrc (by omega) (by omega) (growslice_fits (by omega) hbytes)
    have hge := grownCap_ge w (rows.length + new.length) c e
    have hpos : 0 < grownCap w (rows.length + new.length) c e := by omega
    refine ⟨_, _, _, hr, ⟨hrows, .inr ⟨hpos, w.heap.size, (Builtin.zeroCells z.cells (grownCap w (rows.length + new.length) c e - (rows.length + new.length))).toList, rfl, ?_, ?_, ?_⟩⟩, ⟨rfl, rfl, rfl, by simp, fun k hk _ => Below.heap_alloc w.drew _ k hk⟩, fun g hg => ?_⟩
    · refine (heap_alloc_new w.drew _).trans ?_
      simp
    · have e1 : (rows ++ new).flatten.length = (rows.length + new.length) * inf.size := by rw [flat_len (fun row hr => (hrows row hr).1), List.length_append]
      have e2 : (Builtin.zeroCells z.cells (grownCap w (rows.length + new.length) c e - (rows.length + new.length))).toList.length = (grownCap w (rows.length + new.length) c e - (rows.length + new.length)) * inf.size := by rw [Array.length_toList, size_zeroCells, hzc]
      rw [List.length_append, e1, e2, ← Nat.add_mul]
      congr 1
      omega
    · rw [List.length_append]; exact hge
    · obtain ⟨_, a, e, rfl⟩ := bksA_mem hg
      cases e; exact .inr (Nat.le_refl _)
theorem st1_append {d : Nat} {t tx e k b e' k' b' : Nat} [hst : SlT P t e k b] [hsx : SlT P tx e' k' b'] {A B : Option Addr} {n1 n2 c cb cb' : Nat} {rows new : List (List Value)} {f : Pc → Mem} (hx : opv L x = some (.slice A n1 c)) (hy : opv L y = some (.slice B n2 cb')) (hp : Plc m (.own A c k rows e) f) (hs : Sees m B cb k new) (e1 : n1 = rows.length) (e2 : n2 = new.length)
    (hb : rows.length + new.length ≤ 1000000000) (hkb : (Nat.blt 0 k && Nat.ble b 100000) = true) : Step1 P n W F ⟨some d, .call { callee := .builtin .append, args := #[x, y], argTypes := #[t, tx] }, ty, pos, af, none⟩ L m (fun v m' => ∃ A' c', v = .slice A' (n1 + n2) c' ∧ m' = f (.own A' c' k (rows ++ new) e)) := st1_of fun a ha w hw => by
  rw [Bool.and_eq_true] at hkb
  subst e1 e2
  obtain ⟨A', c', w', r1, r2, r3, r4⟩ := run_append_res (P := P) hst hsx.ok.1 ty (hw.ok _ hp.mem : Owns w A c k rows e) (hs w hw.ok) cb' (Nat.le_of_ble_eq_true hkb.1) hb (Nat.le_of_ble_eq_true hkb.2)
  refine ⟨_, w', _, ?_, hw.put hp r3 (show Pc.ok w' (.own A' c' k (rows ++ new) e) from r2) r4 own_nodup (fun _ _ _ _ e => by cases e), A', c', rfl, rfl⟩
  simp [execOp, resolve, invoke, builtin, ev ha hx, ev ha hy, r1]
theorem s_append {d : Nat} {t tx e k b e' k' b' : Nat} [hst : SlT P t e k b] [hsx : SlT P tx e' k' b'] {A B : Option Addr} {n1 n2 c cb cb' : Nat} {rows new : List (List Value)} {f : Pc → Mem} (hx : opv L x = some (.slice A n1 c)) (hy : opv L y = some (.slice B n2 cb')) (hp : Plc m (.own A c k rows e) f) (hs : Sees m B cb k new) (e1 : n1 = rows.length) (e2 : n2 = new.length)
    (hb : rows.length + new.length ≤ 1000000000) (hkb : (Nat.blt 0 k && Nat.ble b 100000) = true) (hd : fits n (some d) = true)
    (h : ∀ A' c', SSeq P ops n W F Q l ((d, .slice A' (n1 + n2) c') :: L) (f (.own A' c' k (rows ++ new) e))) :
    SSeq P ops n W F Q (⟨some d, .call { callee := .builtin .append, args := #[x, y], argTypes := #[t, tx] }, ty, pos, af, none⟩ :: l) L m :=
  s_step (st1_append hx hy hp hs e1 e2 hb hkb) hd fun v m' ⟨A', c', q1, q2⟩ => by subst q1 q2; exact h A' c'
theorem w_nilown {k : Nat} {t : TypeId} {c : Code} (h : Wp P n W F c L (.own none 0 k [] t :: m) Q) : Wp P n W F c L m Q := fun a w ha hw =>
  h a w ha (hw.add (Below.refl _ _) ⟨fun _ h => (by cases h), .inl ⟨rfl, rfl⟩⟩ (fun g hg => by obtain ⟨_, a, e, _⟩ := own_mem hg; cases e) own_nodup (fun _ _ _ _ e => by cases e))
def VSees (m : Mem) (A : Option Addr) (c k : Nat) (rows : List (List Value)) : Prop := Sees m A c k rows ∧ (rows ≠ [] → ∃ A' c' k' rows', Pc.vw A' c' k' rows' ∈ m ∧ rows' ≠ [] ∧ bkA A' = bkA A)
theorem VSees.of {A : Option Addr} {c k : Nat} {rows : List (List Value)} (hs : Sees m A c k rows) (hb : rows ≠ [] → ∃ A' c' k' rows', Pc.vw A' c' k' rows' ∈ m ∧ rows' ≠ [] ∧ bkA A' = bkA A) : VSees m A c k rows := ⟨hs, hb⟩
theorem VSees.has {A : Option Addr} {c k : Nat} {rows : List (List Value)} (h : VSees m A c k rows) {w : World} {X : Mem} (hw : Has W F (X ++ m) w) : Has W F (.vw A c k rows :: (X ++ m)) w :=
  hw.add (Below.refl _ _) (h.1 w (fun r hr => hw.ok r (List.mem_append_right _ hr))) (fun _ h => by cases h) List.nodup_nil (fun A' c' k' rows' e hne => by
    cases e
    obtain ⟨A', c', k', rows', h1, h2, h3⟩ := h.2 hne
    right; rw [← h3]; exact hw.apart A' c' k' rows' (List.mem_append_right _ h1) h2)
theorem VSees.vw {A : Option Addr} {c k : Nat} {rows : List (List Value)} (h : Pc.vw A c k rows ∈ m) : VSees m A c k rows := VSees.of (Sees.vw h) (fun hne => ⟨A, c, k, rows, h, hne, rfl⟩)
inductive Tk : Mem → Mem → Mem → Prop
  | nil {m : Mem} : Tk m [] m
  | take {m mu fr : Mem} {r : Pc} {f : Pc → Mem} (h : Plc m r f) (hr : Tk (f (.vw none 0 0 [])) mu fr) : Tk m (r :: mu) fr
  | see {m mu fr : Mem} {A : Option Addr} {c k : Nat} {rows : List (List Value)} (h : VSees m A c k rows) (hr : Tk m mu fr) : Tk m (.vw A c k rows :: mu) fr
theorem Plc.swap {m : Mem} {r : Pc} {f : Pc → Mem} (h : Plc m r f) {X : Mem} {w : World} (hw : Has W F (X ++ m) w) : Has W F ((X ++ [r]) ++ f (.vw none 0 0 [])) w := by
  obtain ⟨m0, h1, h2⟩ := h.perm
  have p1 : (X ++ m).Perm (X ++ (r :: m0)) := h1.append_left X
  refine ((hw.perm p1).nothing).perm ?_
  have p2 : ((X ++ [r]) ++ f (.vw none 0 0 [])).Perm ((X ++ [r]) ++ (.vw none 0 0 [] :: m0)) := (h2 _).append_left _
  refine List.Perm.trans ?_ p2.symm
  have p3 : (Pc.vw none 0 0 [] :: (X ++ (r :: m0))) = (Pc.vw none 0 0 [] :: ((X ++ [r]) ++ m0)) := by simp
  rw [p3]
  exact (List.perm_middle).symm
theorem Tk.pre {m mu fr : Mem} (h : Tk m mu fr) : ∀ {X : Mem} {w : World}, Has W F (X ++ m) w → Has W F (X ++ (mu ++ fr)) w := by
  induction h with
  | nil => exact fun hw => hw
  | @take m mu fr r f hp _ ih =>
    intro X w hw
    have := ih (hp.swap hw)
    simpa using this
  | @see m mu fr A c k rows hv _ ih =>
    intro X w hw
    have h1 : Has W F ((X ++ [.vw A c k rows]) ++ m) w := (hv.has hw).perm (by
      have : ((X ++ [Pc.vw A c k rows]) ++ m) = X ++ (Pc.vw A c k rows :: m) := by simp
      rw [this]
      exact List.perm_middle.symm)
    have := ih h1
    simpa using this
theorem Tk.has {m mu fr : Mem} (h : Tk m mu fr) {w : World} (hw : Has W F m w) : Has W F (mu ++ fr) w := h.pre (X := []) hw
theorem st1_tri {d : Option Tmp} {f : FuncId} {fn : Func} {xs : Array Operand} {ts : Array TypeId} {vs : List Value} {mu fr : Mem} {R : Value → Mem → Prop} (hf : P.funcs[f]? = some fn) (hq : ((fn.name == "runtime.NumGoroutine") || !fn.body.isSome) = false) (hv : opvs L xs.toList = some vs)
    (ht : Tri P f vs mu R) (hk : Tk m mu fr) : Step1 P n W F ⟨d, .call { callee := .value (.func f), args := xs, argTypes := ts }, ty, pos, af, none⟩ L m (fun v m'' => ∃ m', R v m' ∧ m'' = m' ++ fr) := fun a ha w hw => by
  have hname : (fn.name == "runtime.NumGoroutine") = false := by cases q : fn.name == "runtime.NumGoroutine" <;> simp_all
  have hb : fn.body.isSome = true := by cases q : fn.body.isSome <;> simp_all
  obtain ⟨c, hc⟩ := Option.isSome_iff_exists.1 hb
  have h1 : fn.name ≠ "runtime.NumGoroutine" := by simpa using hname
  have hargs : xs.map a.eval = vs.toArray := by
    have := evs ha hv
    apply Array.toList_inj.1
    simpa using this
  have hrun : (execOp a.eval ⟨d, .call { callee := .value (.func f), args := xs, argTypes := ts }, ty, pos, af, none⟩).run P w = .ok (.enter f vs.toArray) w := by
    simp [execOp, resolve, Deferred.ofValue, invoke, Act.eval, hargs, callFunc, hf, h1, hc]
  rw [hrun]
  refine ⟨rfl, (ht W F fr w (hk.has hw)).mono ?_⟩
  rintro e w' ⟨v, m', hR, rfl, hw'⟩
  exact ⟨v, _, ⟨m', hR, rfl⟩, rfl, hw'⟩
theorem s_tri {d : Option Tmp} {f : FuncId} {fn : Func} {xs : Array Operand} {ts : Array TypeId} {vs : List Value} {mu fr : Mem} {R : Value → Mem → Prop} (hf : P.funcs[f]? = some fn) (hq : ((fn.name == "runtime.NumGoroutine") || !fn.body.isSome) = false) (hv : opvs L xs.toList = some vs)
    (ht : Tri P f vs mu R) (hk : Tk m mu fr) (hd : fits n d = true) (h : ∀ v m', R v m' → SSeq P ops n W F Q l (putL d v L) (m' ++ fr)) : SSeq P ops n W F Q (⟨d, .call { callee := .value (.func f), args := xs, argTypes := ts }, ty, pos, af, none⟩ :: l) L m :=
  s_step (st1_tri hf hq hv ht hk) hd fun v m'' ⟨m', hR, e⟩ => by subst e; exact h v m' hR
theorem s_tris {d : Nat} {f : FuncId} {fn : Func} {xs : Array Operand} {ts : Array TypeId} {vs : List Value} {mu fr : Mem} {g : Option Addr → Nat → Value × Mem} (hf : P.funcs[f]? = some fn) (hq : ((fn.name == "runtime.NumGoroutine") || !fn.body.isSome) = false) (hv : opvs L xs.toList = some vs)
    (ht : Tri P f vs mu (RetS g)) (hk : Tk m mu fr) (hd : Nat.blt d n = true) (h : ∀ A c, SSeq P ops n W F Q l ((d, (g A c).1) :: L) ((g A c).2 ++ fr)) : SSeq P ops n W F Q (⟨some d, .call { callee := .value (.func f), args := xs, argTypes := ts }, ty, pos, af, none⟩ :: l) L m :=
  s_tri hf hq hv ht hk hd fun v m' ⟨A, c, e1, e2⟩ => by subst e1 e2; exact h A c
theorem Tri.mono {f : FuncId} {vs : List Value} {mu : Mem} {R R' : Value → Mem → Prop} (h : Tri P f vs mu R) (hR : ∀ v m', R v m' → R' v m') : Tri P f vs mu R' := fun W F fr w hw =>
  (h W F fr w hw).mono fun e w' ⟨v, m', h1, h2, h3⟩ => ⟨v, m', hR _ _ h1, h2, h3⟩
/-! ### A region that asks the tape: whatever only reads, reckons and calls, and new variables, in whatever order; behind it what waits for all of it, in the order of the text -/
section
variable {md : Region.Mode}
def befG (md : Region.Mode) (ops : Array Oper) : List Nat := ops.toList.foldl (fun acc o => acc ++ [o.after.toList.foldl (fun s e => if Region.binds md e then s ||| 2 ^ e.on ||| acc.getD e.on 0 else s) 0]) []
def befOk (md : Region.Mode) (ops : Array Oper) (B : List Nat) : Bool := (List.range ops.size).all fun j => (List.range ops.size).all fun i => !(B.getD j 0).testBit i || ((ops[j]?).map fun o => o.after.toList.any fun e => Region.binds md e && Nat.blt e.on j && (Nat.beq e.on i || (B.getD e.on 0).testBit i)).getD false
def heldUp (md : Region.Mode) (ops : Array Oper) (k : Nat) : Bool := befOk md ops (befG md ops) && (List.range ops.size).all fun j => Nat.blt j k || (List.range k).all fun i => Nat.blt i ops.size && ((befG md ops).getD j 0).testBit i
def Clo (md : Region.Mode) (ops : Array Oper) (listed : Array Bool) : Prop := ∀ q o, ops[q]? = some o → listed.getD q false = true → ∀ e ∈ o.after, Region.binds md e = true → listed.getD e.on false = true
theorem Clo.set {listed : Array Bool} (h : Clo md ops listed) {j : Nat} (hj : j ∈ Region.ready md ops listed) : Clo md ops (listed.setIfInBounds j true) := fun q o ho hq e he hb => by
  obtain ⟨hjun, oj, hoj, hall⟩ := mem_ready.1 hj
  by_cases hqj : j = q
  · subst hqj
    rw [hoj] at ho; cases ho
    exact getD_set_true (hall e he hb)
  · rw [getD_set_ne false hqj] at hq
    exact getD_set_true (h q o ho hq e he hb)
theorem befOk_spec {B : List Nat} (hB : befOk md ops B = true) {listed : Array Bool} (hc : Clo md ops listed) : ∀ (j i : Nat) (o : Oper), ops[j]? = some o → i < ops.size → (B.getD j 0).testBit i = true → (∀ e ∈ o.after, Region.binds md e = true → listed.getD e.on false = true) → listed.getD i false = true := by
  intro j
  induction j using Nat.strongRecOn with
  | _ j ih =>
    intro i o hj hi ht hall
    unfold befOk at hB
    rw [List.all_eq_true] at hB
    have h1 := hB j (List.mem_range.2 (Array.getElem?_eq_some_iff.1 hj).1)
    rw [List.all_eq_true] at h1
    have h2 := h1 i (List.mem_range.2 hi)
    rw [ht, hj] at h2
    simp only [Bool.not_true, Bool.false_or, Option.map_some, Option.getD_some, List.any_eq_true, Bool.and_eq_true, Bool.or_eq_true] at h2
    obtain ⟨e, he, ⟨hb, hlt⟩, hx⟩ := h2
    have he := Array.mem_toList_iff.1 he
    have hle := hall e he hb
    rcases hx with hx | hx
    · rw [Nat.eq_of_beq_eq_true hx] at hle; exact hle
    · rw [Nat.blt_eq] at hlt
      have hon : e.on < ops.size := Nat.lt_trans hlt (Array.getElem?_eq_some_iff.1 hj).1
      obtain ⟨o2, ho2⟩ : ∃ o2, ops[e.on]? = some o2 := ⟨ops[e.on], by simp [hon]⟩
      exact ih e.on hlt i o2 ho2 hi hx (hc e.on o2 ho2 hle)
theorem heldUp_spec {k : Nat} (h : heldUp md ops k = true) {listed : Array Bool} (hc : Clo md ops listed) {j i : Nat} (hj : j ∈ Region.ready md ops listed) (hk : k ≤ j) (hi : i < k) : listed.getD i false = true := by
  unfold heldUp at h
  rw [Bool.and_eq_true] at h
  obtain ⟨hB, h⟩ := h
  obtain ⟨-, o, ho, hall⟩ := mem_ready.1 hj
  rw [List.all_eq_true] at h
  have h1 := h j (List.mem_range.2 (Array.getElem?_eq_some_iff.1 ho).1)
  rw [Bool.or_eq_true] at h1
  rcases h1 with h1 | h1
  · rw [Nat.blt_eq] at h1; omega
  · rw [List.all_eq_true] at h1
    have h2 := h1 i (List.mem_range.2 hi)
    rw [Bool.and_eq_true, Nat.blt_eq] at h2
    exact befOk_spec hB hc j i o ho h2.1 h2.2 hall
def QB (P : Program) (ops : Array Oper) (W : World) (F : Nat → Prop) (m : Mem) (o : Oper) (v : Value) (a : Act) : Prop := ∀ W0, Has W F m W0 → YieldsIn P ops (fun w => Has W F m w ∧ Below W0.heap.size W0 w) o v a
theorem QB.more {o : Oper} {v : Value} {a : Act} (h : QB P ops W F m o v a) {m2 : Mem} (hs : ∀ w, Has W F m2 w → Has W F m w) : QB P ops W F m2 o v a := fun W0 h0 => by
  rcases h W0 (hs _ h0) with ⟨hw, hv⟩ | ⟨hw, rfl⟩
  · refine .inl ⟨hw, fun w ⟨h2, hb⟩ => ?_⟩
    rcases h w (hs _ h2) with ⟨_, hv'⟩ | ⟨hw', _⟩
    · have := hv' w ⟨hs _ h2, Below.refl _ _⟩
      unfold Oper.quietAt at this ⊢
      generalize (execOp a.eval o).run P w = r at *
      cases r with
      | ok nx w' =>
        cases nx <;> first | exact this | skip
        obtain ⟨e1, hc⟩ := this
        exact ⟨e1, hc.mono fun e w'' ⟨he, _, hb'⟩ => ⟨he, h2.step hb', below_on hb hb'⟩⟩
      | halt x w' => exact this
    · rw [hw] at hw'; cases hw'
  · exact .inr ⟨hw, rfl⟩
theorem QB.put {o oj : Oper} {v u : Value} {a : Act} (hs : ∀ cs b, o.op ≠ .select cs b) (hap : o.apart ops oj = true) (h : QB P ops W F m o v a) : QB P ops W F m o v (a.put oj.dst u) := fun W0 hW => by
  obtain ⟨-, -, h3⟩ := Oper.apart_spec hap
  exact (h W0 hW).of_same (execOp_put o hs a oj.dst u h3) (wanted_put o a oj.dst u h3)
theorem QB.back {o oj : Oper} {v u : Value} {a : Act} (hs : ∀ cs b, oj.op ≠ .select cs b) (hap : o.apart ops oj = true) (h : QB P ops W F m oj v (a.put o.dst u)) : QB P ops W F m oj v a := fun W0 hW => by
  obtain ⟨h1, -, -⟩ := Oper.apart_spec hap
  exact (h W0 hW).of_same (execOp_put oj hs a o.dst u h1).symm (wanted_put oj a o.dst u h1).symm
def CB (P : Program) (ops : Array Oper) (W : World) (F : Nat → Prop) (m : Mem) (o : Oper) (R : Value → Mem → Prop) (a : Act) : Prop := Region.wanted o (yielded ops a.tmps) = true ∧ ∀ w, Has W F m w → addUpon P W F R w ((execOp a.eval o).run P w)
theorem CB.same {o : Oper} {R : Value → Mem → Prop} {a a' : Act} (h : CB P ops W F m o R a) (he : execOp a'.eval o = execOp a.eval o) (hw : Region.wanted o (yielded ops a'.tmps) = Region.wanted o (yielded ops a.tmps)) : CB P ops W F m o R a' := ⟨hw.trans h.1, by rw [he]; exact h.2⟩
theorem CB.back {o oj : Oper} {R : Value → Mem → Prop} {u : Value} {a : Act} (hs : ∀ cs b, oj.op ≠ .select cs b) (hap : o.apart ops oj = true) (h : CB P ops W F m oj R (a.put o.dst u)) : CB P ops W F m oj R a := by
  obtain ⟨h1, -, -⟩ := Oper.apart_spec hap
  exact h.same (execOp_put oj hs a o.dst u h1).symm (wanted_put oj a o.dst u h1).symm
def AB (P : Program) (ops : Array Oper) (W : World) (F : Nat → Prop) (m : Mem) (o : Oper) (R : Value → Mem → Prop) (a : Act) : Prop := ∀ X, CB P ops W F (X ++ m) o (fun v m'' => ∃ m', R v m' ∧ m'' = m' ++ (X ++ m)) a
theorem AB.more {o : Oper} {R : Value → Mem → Prop} {a : Act} (h : AB P ops W F m o R a) (Y : Mem) : AB P ops W F (Y ++ m) o R a := fun X => by
  have := h (X ++ Y)
  simp only [List.append_assoc] at this
  exact this
theorem AB.put {o oj : Oper} {R : Value → Mem → Prop} {u : Value} {a : Act} (hs : ∀ cs b, o.op ≠ .select cs b) (hap : o.apart ops oj = true) (h : AB P ops W F m o R a) : AB P ops W F m o R (a.put oj.dst u) := fun X => by
  obtain ⟨-, -, h3⟩ := Oper.apart_spec hap
  exact (h X).same (execOp_put o hs a oj.dst u h3) (wanted_put o a oj.dst u h3)
def zeroOf (P : Program) (ty : TypeId) : Option (List Value) := ((P.info? ty).bind (·.zero)).map (fun v => v.cells.toList)
def isNew (o : Oper) : Bool := match o.op, o.guard with
  | .alloc _, none => true
  | .buildSlice _ _ _, none => true
  | _, _ => false
def bsPc (P : Program) (t : TypeId) (len : Nat) (rs : List (Nat × List Value)) : Option (Nat → Value × Pc) := match P.underlying t with
  | some (.slice e) => match P.info? e with
    | some i => if (rs.map (·.1) == List.range' 0 len && rs.all (fun r => Nat.beq r.2.length i.size && r.2.all (·.oneCell')) && Nat.ble (len * i.size) 16777216 && (i.zero.map fun z => z.cells.size) == some i.size) = true then some (fun g => (.slice (some ⟨g, 0, none⟩) len len, .own (some ⟨g, 0, none⟩) len i.size (rs.map (·.2)) e)) else none
    | none => none
  | _ => none
def newPc (P : Program) (o : Oper) (f : Operand → Value) : Option (Nat → Value × Pc) := match o.op with
  | .alloc ty => (zeroOf P ty).map fun z g => (.pointer (some ⟨g, 0, none⟩), .blk g z ty)
  | .buildSlice t len ps => bsPc P t len (ps.toList.map fun p => (p.1, (f p.2).cells.toList))
  | _ => none
theorem newPc_put {o : Oper} {a : Act} {dst : Option Tmp} {u : Value} (h : ∀ d, dst = some d → d ∉ o.looksAt ops) : newPc P o (a.put dst u).eval = newPc P o a.eval := by
  unfold newPc
  cases ho : o.op <;> try rfl
  rename_i t len ps
  dsimp only
  congr 1
  refine List.map_congr_left fun p hp => ?_
  have : (a.put dst u).eval p.2 = a.eval p.2 := Act.eval_put fun d hd hxd => h d hd (by
    unfold Oper.looksAt
    rw [ho]
    refine List.mem_append_left _ (List.mem_filterMap.2 ⟨.tmp d, ?_, rfl⟩)
    have hq : p.2 ∈ ps.toList.map (·.2) := List.mem_map_of_mem hp
    rw [hxd] at hq
    simpa [Op.operands] using hq)
  rw [this]
theorem fillA {k : Nat} {f : Operand → Value} : ∀ (ps : List (Nat × Operand)) (i : Nat), ps.map (·.1) = List.range' i ps.length → (∀ p ∈ ps, (f p.2).cells.toList.length = k) → ∀ (pre zs : List Value), pre.length = i * k → zs.length = ps.length * k → Instr.fill (fun i => some (i * k, k)) (pre ++ zs).toArray (ps.map fun p => (p.1, f p.2)) = some (pre ++ (ps.map fun p => (f p.2).cells.toList).flatten).toArray
  | [], i, _, _, pre, zs, _, hz => by
    obtain rfl : zs = [] := List.eq_nil_of_length_eq_zero (by simpa using hz)
    simp [Instr.fill]
  | (i', x) :: ps, i, hi, hr, pre, zs, hp, hz => by
    rw [List.map_cons, List.length_cons, List.range'_succ, List.cons.injEq] at hi
    obtain ⟨e0, hi⟩ := hi
    subst e0
    dsimp only at hp hi ⊢
    have k1 : (f x).cells.toList.length = k := hr _ (List.mem_cons_self ..)
    have hsz : (f x).cells.size = k := by rw [← k1]; simp
    rw [List.length_cons, Nat.add_mul] at hz
    have hpl : (pre ++ zs).length = pre.length + zs.length := by simp
    simp only [List.map_cons, Instr.fill]
    rw [if_neg (by simp; omega)]
    have e : ((f x).cells.zipIdx.foldl (fun (cs : Array Value) (p : Value × Nat) => cs.setIfInBounds (i' * k + p.2) p.1) (pre ++ zs).toArray) = (pre ++ (f x).cells.toList ++ zs.drop (f x).cells.toList.length).toArray := by
      rw [← Array.foldl_toList, Array.toList_zipIdx]
      have := setAt_foldl (f x).cells.toList (pre ++ zs) (i' * k) 0
      rw [this, Nat.add_zero, ← hp, setAt_app _ _ _ (by omega)]
    rw [e]
    have := fillA ps (i' + 1) hi (fun p hq => hr p (List.mem_cons_of_mem _ hq)) (pre ++ (f x).cells.toList) (zs.drop (f x).cells.toList.length) (by rw [List.length_append, hp, k1, Nat.add_mul]; omega) (by rw [List.length_drop]; omega)
    rw [this]
    simp
theorem newPc_run {o : Oper} {a : Act} {f : Nat → Value × Pc} (hn : isNew o = true) (h : newPc P o a.eval = some f) {m : Mem} {w : World} (hw : Has W F m w) : o.guard = none ∧ ∃ w', (execOp a.eval o).run P w = .ok (.value (f w.heap.size).1) w' ∧ Has W F ((f w.heap.size).2 :: m) w' := by
  obtain ⟨dst, op, ty, pos, af, gd⟩ := o
  cases gd with
  | some gg => cases op <;> cases hn
  | none =>
  cases op <;> first | (cases hn; done) | skip
  · rename_i ty2
    refine ⟨rfl, ?_⟩
    unfold newPc zeroOf at h
    dsimp only at h
    cases hi : P.info? ty2 with
    | none => rw [hi] at h; cases h
    | some i =>
      cases hq : i.zero with
      | none => rw [hi] at h; simp [hq] at h
      | some v =>
        rw [hi] at h
        simp only [Option.bind_some, hq, Option.map_some, Option.some.injEq] at h
        subst h
        have h0 : ((newVar ty2 v).run P w) = .ok ⟨w.heap.size, 0, none⟩ (w.alloc (.cells v.cells ty2)) := rfl
        refine ⟨w.alloc (.cells v.cells ty2), by simp [execOp, Instr.alloc, zeroValue, typeInfo, hi, hq, h0], ?_⟩
        have := hw.alloc v.cells.toList ty2
        simpa using this
  · rename_i t len ps
    refine ⟨rfl, ?_⟩
    unfold newPc bsPc at h
    dsimp only at h
    split at h
    · rename_i e hu
      split at h
      · rename_i i hinf
        split at h
        · rename_i hc
          simp only [Option.some.injEq] at h
          subst h
          simp only [Bool.and_eq_true, beq_iff_eq, List.all_eq_true] at hc
          obtain ⟨⟨⟨c1, c2⟩, c3⟩, c4⟩ := hc
          rw [List.map_map] at c1
          have c1' : ps.toList.map (·.1) = List.range' 0 len := c1
          have hlen : ps.toList.length = len := by have := congrArg List.length c1'; simpa using this
          have c2' : ∀ p ∈ ps.toList, (a.eval p.2).cells.toList.length = i.size ∧ ∀ v ∈ (a.eval p.2).cells.toList, v.oneCell' = true := fun p hp => by
            have := c2 _ (List.mem_map_of_mem hp)
            exact ⟨Nat.eq_of_beq_eq_true this.1, this.2⟩
          have hb' : ¬ (16777216 < len * i.size) := Nat.not_lt.2 (Nat.le_of_ble_eq_true c3)
          have hps : (ps.map fun (i, x) => (i, a.eval x)).toList = ps.toList.map fun p => (p.1, a.eval p.2) := by simp
          have hrows : ((ps.toList.map fun p => (p.1, (a.eval p.2).cells.toList)).map (·.2)) = ps.toList.map fun p => (a.eval p.2).cells.toList := by rw [List.map_map]; rfl
          rw [hrows]
          obtain ⟨rows, hR⟩ : ∃ rows, rows = ps.toList.map fun p => (a.eval p.2).cells.toList := ⟨_, rfl⟩
          rw [← hR]
          have hrl : rows.length = len := by rw [hR, List.length_map, hlen]
          have hrk : ∀ row ∈ rows, row.length = i.size ∧ ∀ v ∈ row, v.oneCell' = true := fun row hr => by
            rw [hR] at hr
            obtain ⟨p, hp, rfl⟩ := List.mem_map.1 hr
            exact c2' p hp
          have hfill : ∀ zs : Array Value, zs.size = len * i.size → Instr.fill (fun j => some (j * i.size, i.size)) zs (ps.toList.map fun p => (p.1, a.eval p.2)) = some rows.flatten.toArray := fun zs hzs => by
            have := fillA (f := a.eval) ps.toList 0 (by rw [hlen]; exact c1') (fun p hp => (c2' p hp).1) [] zs.toList (by simp) (by rw [Array.length_toList, hzs, hlen])
            rw [hR]
            simpa using this
          have hgen : ∀ zr : Array Value, Instr.fill (fun j => some (j * i.size, i.size)) (Array.map (fun x => zr[x % zr.size]!) (Array.range (len * i.size))) (ps.toList.map fun p => (p.1, a.eval p.2)) = some rows.flatten.toArray := fun zr => hfill _ (by simp)
          obtain ⟨z, hz⟩ : ∃ z, i.zero = some z := by
            cases hq : i.zero with
            | none => rw [hq] at c4; cases c4
            | some z => exact ⟨z, rfl⟩
          have hrun : (Instr.buildSlice t len (ps.map fun (i, x) => (i, a.eval x))).run P w = .ok (.slice (some ⟨w.heap.size, 0, none⟩) len len) (w.alloc (.cells rows.flatten.toArray e)) := by
            simp only [Instr.buildSlice, Sem.run_bind, run_underlying hu w, Result.andThen_ok, sizeOf, typeInfo, program, Sem.run, hinf, Sem.run_pure]
            rw [if_neg hb']
            by_cases h0 : len * i.size = 0
            · simp only [h0, if_true, Sem.run_bind, Sem.run_pure, Result.andThen_ok, hps]
              have := hfill (Array.map (fun x => (#[] : Array Value)[x % (#[] : Array Value).size]!) (Array.range (len * i.size))) (by simp)
              rw [h0] at this
              rw [this]
              rfl
            · simp only [h0, if_false, Sem.run_bind, Sem.run_pure, Result.andThen_ok, hps, zeroValue, typeInfo, program, Sem.run, hinf, hz, hgen z.cells]
              rfl
          refine ⟨w.alloc (.cells rows.flatten.toArray e), ?_, ?_⟩
          · simp only [execOp]
            rw [Sem.run_bind, hrun]
            rfl
          · refine hw.add ((Below.refl _ _).alloc (Nat.le_refl _) _) ⟨hrk, ?_⟩ (fun g hg => ?_) own_nodup (fun _ _ _ _ e => by cases e)
            · by_cases h0 : len = 0
              · exact .inl ⟨h0, List.eq_nil_of_length_eq_zero (by omega)⟩
              · refine .inr ⟨by omega, w.heap.size, [], rfl, ?_, ?_, by omega⟩
                · rw [List.append_nil]; exact heap_alloc_new w _
                · rw [List.append_nil, flat_len (fun row hr => (hrk row hr).1), hrl]
            · obtain ⟨_, a, e, rfl⟩ := own_mem hg
              cases e; exact Nat.le_refl _
        · cases h
      · cases h
    · cases h
def gOp (P : Program) (ops : Array Oper) (W : World) (F : Nat → Prop) (m0 : Mem) (j : Nat) (K : Act → Mem → Prop) (a : Act) (m : Mem) : Prop := ∃ o, ops[j]? = some o ∧
  match isNew o with
  | true => ∃ d f, o.dst = some d ∧ newPc P o a.eval = some f ∧ ∀ g, K (a.put (some d) (f g).1) ((f g).2 :: m)
  | false => (∃ v, QB P ops W F m o v a ∧ K (a.put o.dst v) m) ∨ (∃ R, CB P ops W F m o R a ∧ ∀ v m', R v m' → (∀ w, Has W F m' w → Has W F m0 w) ∧ K (a.put o.dst v) m')
theorem gOp_alloc {m0 : Mem} {j : Nat} {o : Oper} (ho : ops[j]? = some o) (hal : isNew o = true) {K : Act → Mem → Prop} {a : Act} {m : Mem} : gOp P ops W F m0 j K a m ↔ ∃ d f, o.dst = some d ∧ newPc P o a.eval = some f ∧ ∀ g, K (a.put (some d) (f g).1) ((f g).2 :: m) := by
  unfold gOp
  constructor
  · rintro ⟨o', ho', h⟩
    rw [ho] at ho'; cases ho'
    rw [hal] at h; exact h
  · intro h
    exact ⟨o, ho, by rw [hal]; exact h⟩
theorem gOp_quiet {m0 : Mem} {j : Nat} {o : Oper} (ho : ops[j]? = some o) (hal : isNew o = false) {K : Act → Mem → Prop} {a : Act} {m : Mem} : gOp P ops W F m0 j K a m ↔ ((∃ v, QB P ops W F m o v a ∧ K (a.put o.dst v) m) ∨ (∃ R, CB P ops W F m o R a ∧ ∀ v m', R v m' → (∀ w, Has W F m' w → Has W F m0 w) ∧ K (a.put o.dst v) m')) := by
  unfold gOp
  constructor
  · rintro ⟨o', ho', h⟩
    rw [ho] at ho'; cases ho'
    rw [hal] at h; exact h
  · intro h
    exact ⟨o, ho, by rw [hal]; exact h⟩
def wpG (P : Program) (md : Region.Mode) (ops : Array Oper) (W : World) (F : Nat → Prop) (m0 : Mem) (k : Nat) (end_ : Array Bool) (Q : Act → Mem → Prop) : Nat → Array Bool → Act → Mem → Prop
  | 0, listed, a, m => listed = end_ ∧ Q a m
  | fuel + 1, listed, a, m => Region.ready md ops listed ≠ [] ∧ ∀ j ∈ Region.ready md ops listed, j < k ∧ gOp P ops W F m0 j (wpG P md ops W F m0 k end_ Q fuel (listed.setIfInBounds j true)) a m
theorem has_perm {m m' : Mem} (hp : m.Perm m') : ∀ w, Has W F m' w → Has W F m w := fun w h => h.perm hp.symm
theorem gOp_perm {m0 : Mem} {j : Nat} {K : Act → Mem → Prop} (hK : ∀ a m m', m.Perm m' → K a m → K a m') {a : Act} {m m' : Mem} (hp : m.Perm m') (hh : gOp P ops W F m0 j K a m) : gOp P ops W F m0 j K a m' := by
  obtain ⟨o, ho, hx⟩ := hh
  refine ⟨o, ho, ?_⟩
  cases hal : isNew o with
  | true =>
    rw [hal] at hx
    obtain ⟨d, z, q1, q2, q3⟩ := hx
    exact ⟨d, z, q1, q2, fun g => hK _ _ _ (hp.cons _) (q3 g)⟩
  | false =>
    rw [hal] at hx
    rcases hx with ⟨v, q1, q2⟩ | ⟨R, q1, q2⟩
    · exact .inl ⟨v, q1.more (has_perm hp), hK _ _ _ hp q2⟩
    · exact .inr ⟨R, ⟨q1.1, fun w hw => q1.2 w (hw.perm hp.symm)⟩, q2⟩
theorem wpG_perm {m0 : Mem} {k : Nat} {end_ : Array Bool} {Q : Act → Mem → Prop} (hQ : ∀ a m m', m.Perm m' → Q a m → Q a m') : ∀ (fuel : Nat) (listed : Array Bool) (a : Act) (m m' : Mem), m.Perm m' → wpG P md ops W F m0 k end_ Q fuel listed a m → wpG P md ops W F m0 k end_ Q fuel listed a m'
  | 0, _, _, _, _, hp, h => ⟨h.1, hQ _ _ _ hp h.2⟩
  | fuel + 1, _, _, _, _, hp, h => ⟨h.1, fun j hj => ⟨(h.2 j hj).1, gOp_perm (fun a m m' hp h => wpG_perm hQ fuel _ a m m' hp h) hp (h.2 j hj).2⟩⟩
section
variable {m0 : Mem} {k : Nat} {end_ : Array Bool} {Q : Act → Mem → Prop} {i : Nat} {oi : Oper}
theorem g_key (hup : heldUp md ops k = true) (hik : i < k) {listed : Array Bool} (hc : Clo md ops listed) {j : Nat} (hr : i ∈ Region.ready md ops listed) (hj : j ∈ Region.ready md ops listed) (hji : j ≠ i) : j < k ∧ ∃ oj, ops[j]? = some oj ∧ (∀ e ∈ oj.after, Region.binds md e = true → e.on ≠ i) ∧ listed.getD j true = false := by
  obtain ⟨hjun, oj, hoj, hall⟩ := mem_ready.1 hj
  have hun := (mem_ready.1 hr).1
  have hnot : ∀ e ∈ oj.after, Region.binds md e = true → e.on ≠ i := fun e he hb heq => by
    have h1 := hall e he hb
    rw [heq] at h1
    rcases Nat.lt_or_ge i listed.size with h' | h'
    · simp [h'] at hun h1; rw [hun] at h1; cases h1
    · simp [Array.getElem?_eq_none h'] at h1
  refine ⟨?_, oj, hoj, hnot, hjun⟩
  rcases Nat.lt_or_ge j k with q | q
  · exact q
  · have h1 := heldUp_spec hup hc hj q hik
    rcases Nat.lt_or_ge i listed.size with h' | h'
    · simp [h'] at hun h1; rw [hun] at h1; cases h1
    · simp [Array.getElem?_eq_none h'] at h1
theorem g_zero (he : ∀ j, j < k → end_.getD j true = true) {listed : Array Bool} {j : Nat} (hjk : j < k) (hji : j ≠ i) (hjun : listed.getD j true = false) {a : Act} {m : Mem} (h : wpG P md ops W F m0 k end_ Q 0 (listed.setIfInBounds i true) a m) : False := by
  have h1 := h.1
  have h2 := he j hjk
  rw [← h1, getD_set_ne true (Ne.symm hji), hjun] at h2
  cases h2
theorem wpG_first (he : ∀ j, j < k → end_.getD j true = true) (hup : heldUp md ops k = true) (hi : ops[i]? = some oi) (hik : i < k) (hal : isNew oi = false) (hsel : ∀ (j : Nat) (o : Oper) cs b, ops[j]? = some o → o.op ≠ .select cs b) {v : Value} :
    ∀ (fuel : Nat) (listed : Array Bool) (a : Act) (m : Mem), Clo md ops listed →
      (∀ j oj, ops[j]? = some oj → j ≠ i → listed.getD j true = false → (∀ e ∈ oj.after, Region.binds md e = true → e.on ≠ i) → oi.apart ops oj = true) →
      i ∈ Region.ready md ops listed → (∀ w, Has W F m w → Has W F m0 w) → QB P ops W F m0 oi v a → wpG P md ops W F m0 k end_ Q fuel (listed.setIfInBounds i true) (a.put oi.dst v) m → wpG P md ops W F m0 k end_ Q (fuel + 1) listed a m := by
  intro fuel
  induction fuel with
  | zero =>
    intro listed a m hc hfree hr hm hy h
    refine ⟨(fun h => by rw [h] at hr; cases hr), fun j hj => ?_⟩
    by_cases hji : j = i
    · subst hji; exact ⟨hik, (gOp_quiet hi hal).2 (.inl ⟨v, hy.more hm, h⟩)⟩
    · obtain ⟨hjk, oj, hoj, hnot, hjun⟩ := g_key hup hik hc hr hj hji
      exact (g_zero he hjk hji hjun h).elim
  | succ fuel ih =>
    intro listed a m hc hfree hr hm hy h
    refine ⟨(fun h => by rw [h] at hr; cases hr), fun j hj => ?_⟩
    by_cases hji : j = i
    · subst hji; exact ⟨hik, (gOp_quiet hi hal).2 (.inl ⟨v, hy.more hm, h⟩)⟩
    · obtain ⟨hjk, oj, hoj, hnot, hjun⟩ := g_key hup hik hc hr hj hji
      refine ⟨hjk, ?_⟩
      have hap := hfree j oj hoj hji hjun hnot
      obtain ⟨p1, p2, p3⟩ := Oper.apart_spec hap
      have hfree' : ∀ q oq, ops[q]? = some oq → q ≠ i → (listed.setIfInBounds j true).getD q true = false → (∀ e ∈ oq.after, Region.binds md e = true → e.on ≠ i) → oi.apart ops oq = true := fun q oq hq hqi hun hno => by
        refine hfree q oq hq hqi ?_ hno
        by_cases hjq : j = q
        · subst hjq; exact hjun
        · rw [getD_set_ne true hjq] at hun; exact hun
      have hr' := ready_mono hr (Ne.symm hji)
      have hcomm : (listed.setIfInBounds i true).setIfInBounds j true = (listed.setIfInBounds j true).setIfInBounds i true := Array.setIfInBounds_comm _ _ (Ne.symm hji)
      have hgj := (h.2 j (ready_mono hj hji)).2
      rw [hcomm] at hgj
      have hsi := fun cs b => hsel i oi cs b hi
      have hsj := fun cs b => hsel j oj cs b hoj
      cases hj2 : isNew oj with
      | true =>
        obtain ⟨d, f, q1, q2, q3⟩ := (gOp_alloc hoj hj2).1 hgj
        rw [newPc_put p1] at q2
        refine (gOp_alloc hoj hj2).2 ⟨d, f, q1, q2, fun g => ?_⟩
        have hput := hy.put (u := (f g).1) hsi hap
        rw [q1] at hput
        refine ih _ _ _ (hc.set hj) hfree' hr' (fun w hw => hm w (hw.sub (List.sublist_cons_self ..))) hput ?_
        have := q3 g
        rw [Act.put_comm _ v _ (fun x hx => by have := p2 x hx; rw [q1] at this; exact this)] at this
        exact this
      | false =>
        rcases (gOp_quiet hoj hj2).1 hgj with ⟨u, q1, q2⟩ | ⟨R, q1, q2⟩
        · refine (gOp_quiet hoj hj2).2 (.inl ⟨u, q1.back hsj hap, ih _ _ _ (hc.set hj) hfree' hr' hm (hy.put hsi hap) ?_⟩)
          rw [Act.put_comm _ v _ p2] at q2
          exact q2
        · refine (gOp_quiet hoj hj2).2 (.inr ⟨R, q1.back hsj hap, fun u m' hR => ⟨(q2 u m' hR).1, ih _ _ _ (hc.set hj) hfree' hr' (q2 u m' hR).1 (hy.put hsi hap) ?_⟩⟩)
          have := (q2 u m' hR).2
          rw [Act.put_comm _ v _ p2] at this
          exact this
theorem wpG_new (hQ : ∀ a m m', m.Perm m' → Q a m → Q a m') (he : ∀ j, j < k → end_.getD j true = true) (hup : heldUp md ops k = true) (hi : ops[i]? = some oi) (hik : i < k) (hal : isNew oi = true) {d : Nat} {f : Nat → Value × Pc} (hd : oi.dst = some d) :
    ∀ (fuel : Nat) (listed : Array Bool) (a : Act) (m : Mem), Clo md ops listed →
      (∀ j oj, ops[j]? = some oj → j ≠ i → listed.getD j true = false → (∀ e ∈ oj.after, Region.binds md e = true → e.on ≠ i) → oi.apart ops oj = true) →
      (∀ j oj, ops[j]? = some oj → j ≠ i → listed.getD j true = false → ((befG md ops).getD j 0).testBit i = true ∨ isNew oj = true) → befOk md ops (befG md ops) = true →
      i ∈ Region.ready md ops listed → newPc P oi a.eval = some f → (∀ g, wpG P md ops W F m0 k end_ Q fuel (listed.setIfInBounds i true) (a.put (some d) (f g).1) ((f g).2 :: m)) → wpG P md ops W F m0 k end_ Q (fuel + 1) listed a m := by
  intro fuel
  induction fuel with
  | zero =>
    intro listed a m hc hfree hnew hbef hr hz h
    refine ⟨(fun h => by rw [h] at hr; cases hr), fun j hj => ?_⟩
    by_cases hji : j = i
    · subst hji; exact ⟨hik, (gOp_alloc hi hal).2 ⟨d, f, hd, hz, h⟩⟩
    · obtain ⟨hjk, oj, hoj, hnot, hjun⟩ := g_key hup hik hc hr hj hji
      exact (g_zero he hjk hji hjun (h 0)).elim
  | succ fuel ih =>
    intro listed a m hc hfree hnew hbef hr hz h
    refine ⟨(fun h => by rw [h] at hr; cases hr), fun j hj => ?_⟩
    by_cases hji : j = i
    · subst hji; exact ⟨hik, (gOp_alloc hi hal).2 ⟨d, f, hd, hz, h⟩⟩
    · obtain ⟨hjk, oj, hoj, hnot, hjun⟩ := g_key hup hik hc hr hj hji
      refine ⟨hjk, ?_⟩
      have hap := hfree j oj hoj hji hjun hnot
      obtain ⟨p1, p2, p3⟩ := Oper.apart_spec hap
      have hback : ∀ q : Nat, (listed.setIfInBounds j true).getD q true = false → listed.getD q true = false := fun q hun => by
        by_cases hjq : j = q
        · subst hjq; exact hjun
        · rw [getD_set_ne true hjq] at hun; exact hun
      have hr' := ready_mono hr (Ne.symm hji)
      have hcomm : (listed.setIfInBounds i true).setIfInBounds j true = (listed.setIfInBounds j true).setIfInBounds i true := Array.setIfInBounds_comm _ _ (Ne.symm hji)
      have hun := (mem_ready.1 hr).1
      have hj2 : isNew oj = true := by
        rcases hnew j oj hoj hji hjun with q | q
        · obtain ⟨-, oj', hoj', hall⟩ := mem_ready.1 hj
          rw [hoj] at hoj'; cases hoj'
          have := befOk_spec hbef hc j i oj hoj (Array.getElem?_eq_some_iff.1 hi).1 q hall
          rcases Nat.lt_or_ge i listed.size with h' | h'
          · simp [h'] at hun this; rw [hun] at this; cases this
          · simp [Array.getElem?_eq_none h'] at this
        · exact q
      have hgj : ∀ g, ∃ d' f', oj.dst = some d' ∧ newPc P oj a.eval = some f' ∧ ∀ g', wpG P md ops W F m0 k end_ Q fuel ((listed.setIfInBounds j true).setIfInBounds i true) ((a.put (some d) (f g).1).put (some d') (f' g').1) ((f' g').2 :: (f g).2 :: m) := fun g => by
        have := ((h g).2 j (ready_mono hj hji)).2
        rw [hcomm] at this
        obtain ⟨d', f', s1, s2, s3⟩ := (gOp_alloc hoj hj2).1 this
        rw [newPc_put (fun d0 hd0 => p1 d0 (by rw [hd]; exact hd0))] at s2
        exact ⟨d', f', s1, s2, s3⟩
      obtain ⟨d', f', q1, q2, -⟩ := hgj 0
      refine (gOp_alloc hoj hj2).2 ⟨d', f', q1, q2, fun g' => ih _ _ _ (hc.set hj) (fun q oq hq hqi hun hno => hfree q oq hq hqi (hback q hun) hno) (fun q oq hq hqi hun => hnew q oq hq hqi (hback q hun)) hbef hr' (by rw [newPc_put (fun d0 hd0 => p3 d0 (by rw [q1]; exact hd0))]; exact hz) (fun g => ?_)⟩
      obtain ⟨d2, z2, s1, s2, s3⟩ := hgj g
      rw [q1] at s1; cases s1
      rw [q2] at s2; cases s2
      have := s3 g'
      rw [Act.put_comm a _ _ (fun x hx => by have := p2 x (by rw [hd]; exact hx); rw [q1] at this; exact this)] at this
      exact wpG_perm hQ _ _ _ _ _ (List.Perm.swap ..) this
theorem wpG_add (hQ : ∀ a m m', m.Perm m' → Q a m → Q a m') (hup : heldUp md ops k = true) (hi : ops[i]? = some oi) (hik : i < k) (hal : isNew oi = false) (hsel : ∀ (j : Nat) (o : Oper) cs b, ops[j]? = some o → o.op ≠ .select cs b) {R : Value → Mem → Prop} (hne : ∃ v m', R v m') (he : ∀ j, j < k → end_.getD j true = true) :
    ∀ (fuel : Nat) (listed : Array Bool) (a : Act) (m : Mem), Clo md ops listed →
      (∀ j oj, ops[j]? = some oj → j ≠ i → listed.getD j true = false → (∀ e ∈ oj.after, Region.binds md e = true → e.on ≠ i) → oi.apart ops oj = true) →
      (∀ j oj, ops[j]? = some oj → j ≠ i → listed.getD j true = false → ((befG md ops).getD j 0).testBit i = true ∨ isNew oj = true) →
      befOk md ops (befG md ops) = true → i ∈ Region.ready md ops listed → (∀ w, Has W F m w → Has W F m0 w) → AB P ops W F m oi R a → (∀ v m', R v m' → wpG P md ops W F m0 k end_ Q fuel (listed.setIfInBounds i true) (a.put oi.dst v) (m' ++ m)) → wpG P md ops W F m0 k end_ Q (fuel + 1) listed a m := by
  intro fuel
  induction fuel with
  | zero =>
    intro listed a m hc hfree hnew hbef hr hm hy h
    refine ⟨(fun h => by rw [h] at hr; cases hr), fun j hj => ?_⟩
    by_cases hji : j = i
    · subst hji
      refine ⟨hik, (gOp_quiet hi hal).2 (.inr ⟨_, hy [], fun v m'' hR => ?_⟩)⟩
      obtain ⟨m', hR, rfl⟩ := hR
      exact ⟨fun w hw => hm w (hw.sub (List.sublist_append_right _ _)), h v m' hR⟩
    · obtain ⟨hjk, oj, hoj, hnot, hjun⟩ := g_key hup hik hc hr hj hji
      obtain ⟨v, m', hR⟩ := hne
      exact (g_zero he hjk hji hjun (h v m' hR)).elim
  | succ fuel ih =>
    intro listed a m hc hfree hnew hbef hr hm hy h
    refine ⟨(fun h => by rw [h] at hr; cases hr), fun j hj => ?_⟩
    by_cases hji : j = i
    · subst hji
      refine ⟨hik, (gOp_quiet hi hal).2 (.inr ⟨_, hy [], fun v m'' hR => ?_⟩)⟩
      obtain ⟨m', hR, rfl⟩ := hR
      exact ⟨fun w hw => hm w (hw.sub (List.sublist_append_right _ _)), h v m' hR⟩
    · obtain ⟨hjk, oj, hoj, hnot, hjun⟩ := g_key hup hik hc hr hj hji
      refine ⟨hjk, ?_⟩
      have hap := hfree j oj hoj hji hjun hnot
      obtain ⟨p1, p2, p3⟩ := Oper.apart_spec hap
      have hun := (mem_ready.1 hr).1
      have hj2 : isNew oj = true := by
        rcases hnew j oj hoj hji hjun with q | q
        · obtain ⟨-, oj', hoj', hall⟩ := mem_ready.1 hj
          rw [hoj] at hoj'; cases hoj'
          have := befOk_spec hbef hc j i oj hoj (Array.getElem?_eq_some_iff.1 hi).1 q hall
          rcases Nat.lt_or_ge i listed.size with h' | h'
          · simp [h'] at hun this; rw [hun] at this; cases this
          · simp [Array.getElem?_eq_none h'] at this
        · exact q
      obtain ⟨d, f, q1, q2⟩ : ∃ d f, oj.dst = some d ∧ newPc P oj a.eval = some f := by
        obtain ⟨v, m', hR⟩ := hne
        obtain ⟨d, f, s1, s2, _⟩ := (gOp_alloc hoj hj2).1 ((h v m' hR).2 j (ready_mono hj hji)).2
        rw [newPc_put p1] at s2
        exact ⟨d, f, s1, s2⟩
      have hback : ∀ q : Nat, (listed.setIfInBounds j true).getD q true = false → listed.getD q true = false := fun q hun => by
        by_cases hjq : j = q
        · subst hjq; exact hjun
        · rw [getD_set_ne true hjq] at hun; exact hun
      have hr' := ready_mono hr (Ne.symm hji)
      have hcomm : (listed.setIfInBounds i true).setIfInBounds j true = (listed.setIfInBounds j true).setIfInBounds i true := Array.setIfInBounds_comm _ _ (Ne.symm hji)
      have hsi := fun cs b => hsel i oi cs b hi
      refine (gOp_alloc hoj hj2).2 ⟨d, f, q1, q2, fun g => ?_⟩
      have hput := (hy.put (u := (f g).1) hsi hap).more [(f g).2]
      rw [q1] at hput
      have hnext : ∀ v m', R v m' → wpG P md ops W F m0 k end_ Q fuel ((listed.setIfInBounds j true).setIfInBounds i true) ((a.put (some d) (f g).1).put oi.dst v) (m' ++ ((f g).2 :: m)) := fun v m' hR => by
        have hj' := ((h v m' hR).2 j (ready_mono hj hji)).2
        rw [hcomm] at hj'
        obtain ⟨d2, z2, s1, s2, s3⟩ := (gOp_alloc hoj hj2).1 hj'
        rw [newPc_put p1] at s2
        rw [q1] at s1; cases s1
        rw [q2] at s2; cases s2
        have := s3 g
        rw [Act.put_comm a _ _ (fun x hx => by have := p2 x hx; rw [q1] at this; exact this)] at this
        exact wpG_perm hQ _ _ _ _ _ List.perm_middle.symm this
      refine ih _ _ _ (hc.set hj) (fun q oq hq hqi hun hno => hfree q oq hq hqi (hback q hun) hno) (fun q oq hq hqi hun => hnew q oq hq hqi (hback q hun)) hbef hr' (fun w hw => hm w (hw.sub (List.sublist_cons_self ..))) hput hnext
end
theorem wpAny_of_g {m0 : Mem} {Q' : Exit → Act → World → Prop} {k f0 : Nat} {end_ : Array Bool} {Q : Act → Mem → Prop} (hQ : ∀ a m w, Has W F m w → Q a m → wpAny P md ops Q' f0 end_ a w) :
    ∀ (fuel : Nat) (listed : Array Bool) (a : Act) (m : Mem) (w : World), Has W F m w → wpG P md ops W F m0 k end_ Q fuel listed a m → wpAny P md ops Q' (fuel + f0) listed a w
  | 0, listed, a, m, w, hm, h => by obtain ⟨rfl, hq⟩ := h; rw [Nat.zero_add]; exact hQ a m w hm hq
  | fuel + 1, listed, a, m, w, hm, h => by
    rw [show fuel + 1 + f0 = (fuel + f0) + 1 by omega]
    refine ⟨fun h0 => absurd h0 h.1, fun j hj => ?_⟩
    obtain ⟨o, ho, hx⟩ := (h.2 j hj).2
    have step : ∀ a' m' w', Has W F m' w' → wpG P md ops W F m0 k end_ Q fuel (listed.setIfInBounds j true) a' m' → wpAny P md ops Q' (fuel + f0) (listed.setIfInBounds j true) a' w' := fun a' m' w' h1 h3 => wpAny_of_g hQ fuel _ a' m' w' h1 h3
    cases hal : isNew o with
    | true =>
      rw [hal] at hx
      obtain ⟨d, f, q1, q2, q3⟩ := hx
      obtain ⟨hg, w2, hrun, hw2⟩ := newPc_run hal q2 hm
      unfold wpOp
      rw [ho]
      simp only
      rw [if_pos (by unfold Region.wanted; rw [hg])]
      refine .inl ?_
      unfold Oper.wp
      rw [hrun, Oper.upon_value, q1]
      exact step _ _ _ hw2 (q3 w.heap.size)
    | false =>
      rw [hal] at hx
      rcases hx with ⟨v, q1, q2⟩ | ⟨R, q1, q2⟩
      · unfold wpOp
        rw [ho]
        simp only
        rcases q1 w hm with ⟨h1, h2⟩ | ⟨h1, rfl⟩
        · rw [if_pos h1]
          refine .inl (Oper.wp_of_quiet (C := fun w' => Has W F m w' ∧ Below w.heap.size w w') (K := fun a' => a' = a.put o.dst v) ⟨hm, Below.refl _ _⟩ (fun a' w' hw' ha' => ?_) ⟨v, h2, rfl⟩)
          subst ha'
          exact step _ _ _ hw'.1 q2
        · rw [if_neg (by rw [h1]; exact Bool.false_ne_true)]
          exact step _ _ _ hm q2
      · unfold wpOp
        rw [ho]
        simp only
        rw [if_pos q1.1]
        refine .inl ?_
        have := q1.2 w hm
        unfold Oper.wp
        generalize (execOp a.eval o).run P w = r at *
        cases r with
        | ok nx w' =>
          cases nx <;> first | exact this.elim | skip
          · obtain ⟨m1, r1, r2⟩ := this
            exact step _ _ _ r2 (q2 _ _ r1).2
          · obtain ⟨m1, r1, r2⟩ := this
            exact step _ _ _ r2 (q2 _ _ r1).2
          · obtain ⟨e1, hc⟩ := this
            rw [e1, Oper.upon_enter]
            refine hc.mono ?_
            rintro e w'' ⟨v, m1, r1, rfl, r3⟩
            exact step _ _ _ r3 (q2 _ _ r1).2
        | halt x w' => exact this.elim
/-! The walk: what only reads, reckons and calls, each as soon as it may; new variables; what lays memory; what changes it, where it alone may come up; at last what waits for all of it. -/
def gOrd (md : Region.Mode) (ops : Array Oper) (k : Nat) : List Nat → Array Bool → Array Bool → Bool
  | [], listed, end_ => listed == end_
  | i :: r, listed, end_ => Nat.blt i k && (Region.ready md ops listed).contains i && (Region.free md ops listed i || Region.ready md ops listed == [i]) && gOrd md ops k r (listed.setIfInBounds i true) end_
def gLone (md : Region.Mode) (ops : Array Oper) (B : List Nat) (listed : Array Bool) (i : Nat) : Bool := Region.free md ops listed i && (List.range ops.size).all fun j => j == i || listed.getD j true || (B.getD j 0).testBit i || ((ops[j]?).map isNew).getD true
def gNews (md : Region.Mode) (ops : Array Oper) (B : List Nat) : List Nat → Array Bool → Bool
  | [], _ => true
  | i :: r, listed => (((ops[i]?).map fun o => !isNew o).getD true || gLone md ops B listed i || Region.ready md ops listed == [i]) && gNews md ops B r (listed.setIfInBounds i true)
def gOnes (md : Region.Mode) (ops : Array Oper) (B : List Nat) : List Nat → Array Bool → List Nat
  | [], _ => []
  | i :: r, listed => (if Region.ready md ops listed == [i] then 2 else if gLone md ops B listed i then 1 else 0) :: gOnes md ops B r (listed.setIfInBounds i true)
def GSeq (P : Program) (ops : Array Oper) (n : Fm) (W : World) (F : Nat → Prop) (m0 : Mem) (K : Slots → Mem → Prop) : List Oper → List Nat → Slots → Mem → Prop
  | [], _, L, m => K L m
  | o :: l, bs, L, m => match isNew o with
    | true => ∃ d f, o.dst = some d ∧ (∀ a, Holds n L a → newPc P o a.eval = some f) ∧ Nat.blt d n = true ∧ ∀ g, GSeq P ops n W F m0 K l bs.tail ((d, (f g).1) :: L) ((f g).2 :: m)
    | false => (∃ v, (∀ a, Holds n L a → QB P ops W F m0 o v a) ∧ fits n o.dst = true ∧ GSeq P ops n W F m0 K l bs.tail (putL o.dst v L) m) ∨
        (∃ v, bs.head? = some 2 ∧ (∀ a, Holds n L a → QB P ops W F m o v a) ∧ fits n o.dst = true ∧ GSeq P ops n W F m0 K l bs.tail (putL o.dst v L) m) ∨
        (∃ R, bs.head? = some 2 ∧ (∀ a, Holds n L a → CB P ops W F m o R a) ∧ fits n o.dst = true ∧ ∀ v m', R v m' → (∀ w, Has W F m' w → Has W F m0 w) ∧ GSeq P ops n W F m0 K l bs.tail (putL o.dst v L) m') ∨
        (∃ R, bs.head? = some 1 ∧ (∃ v m', R v m') ∧ (∀ a, Holds n L a → AB P ops W F m o R a) ∧ fits n o.dst = true ∧ ∀ v m', R v m' → GSeq P ops n W F m0 K l bs.tail (putL o.dst v L) (m' ++ m))
theorem wpG_alone {m0 : Mem} {k : Nat} {end_ : Array Bool} {Q : Act → Mem → Prop} {i fuel : Nat} {listed : Array Bool} {a : Act} {m : Mem} (hik : i < k) (hr : Region.ready md ops listed = [i]) (h : gOp P ops W F m0 i (wpG P md ops W F m0 k end_ Q fuel (listed.setIfInBounds i true)) a m) : wpG P md ops W F m0 k end_ Q (fuel + 1) listed a m :=
  ⟨(fun h0 => by rw [hr] at h0; cases h0), fun j hj => by rw [hr] at hj; obtain rfl := List.mem_singleton.1 hj; exact ⟨hik, h⟩⟩
theorem wpG_of_seq {m0 : Mem} {K : Slots → Mem → Prop} {k : Nat} {end_ : Array Bool} {Q : Act → Mem → Prop} (hQ : ∀ a m m', m.Perm m' → Q a m → Q a m') (hK : ∀ a L m, Holds n L a → K L m → Q a m) (he : ∀ j, j < k → end_.getD j true = true) (hup : heldUp md ops k = true) (hs : Region.noSelect ops = true) :
    ∀ (r : List Nat) (l : List Oper) (listed : Array Bool) (L : Slots) (m : Mem) (a : Act), r.map (ops[·]?) = l.map some → gOrd md ops k r listed end_ = true → gNews md ops (befG md ops) r listed = true → Clo md ops listed → Holds n L a → (∀ w, Has W F m w → Has W F m0 w) → GSeq P ops n W F m0 K l (gOnes md ops (befG md ops) r listed) L m → wpG P md ops W F m0 k end_ Q r.length listed a m
  | [], l, listed, L, m, a, hrl, ho, _, _, ha, _, h => by
    cases l with
    | cons _ _ => cases hrl
    | nil => exact ⟨by simpa [gOrd] using ho, hK a L m ha h⟩
  | i :: r, l, listed, L, m, a, hrl, ho, hn, hc, ha, hm, h => by
    cases l with
    | nil => cases hrl
    | cons o l =>
      simp only [List.map_cons, List.cons.injEq] at hrl
      obtain ⟨hi, hrl⟩ := hrl
      simp only [gOrd, Bool.and_eq_true, Nat.blt_eq] at ho
      obtain ⟨⟨⟨hik, hr⟩, hf⟩, ho⟩ := ho
      simp only [gNews, Bool.and_eq_true] at hn
      obtain ⟨hn0, hn⟩ := hn
      have hr' : i ∈ Region.ready md ops listed := by simpa using hr
      have two : (gOnes md ops (befG md ops) (i :: r) listed).head? = some 2 → Region.ready md ops listed = [i] := fun e => by
        rw [gOnes] at e
        simp only [List.head?_cons, Option.some.injEq] at e
        by_cases q : (Region.ready md ops listed == [i]) = true
        · simpa using q
        · rw [if_neg q] at e
          split at e <;> cases e
      have one : (gOnes md ops (befG md ops) (i :: r) listed).head? = some 1 → gLone md ops (befG md ops) listed i = true := fun e => by
        rw [gOnes] at e
        simp only [List.head?_cons, Option.some.injEq] at e
        by_cases q : (Region.ready md ops listed == [i]) = true
        · rw [if_pos q] at e; cases e
        · rw [if_neg q] at e
          by_cases q2 : gLone md ops (befG md ops) listed i = true
          · exact q2
          · rw [if_neg q2] at e; cases e
      have htl : (gOnes md ops (befG md ops) (i :: r) listed).tail = gOnes md ops (befG md ops) r (listed.setIfInBounds i true) := rfl
      unfold GSeq at h
      rw [htl] at h
      cases hal : isNew o with
      | false =>
        rw [hal] at h
        rcases h with ⟨v, hy, hd, h⟩ | ⟨v, h1, hy, hd, h⟩ | ⟨R, h1, hy, hd, h⟩ | ⟨R, h1, hne, hy, hd, h⟩
        · have hnext := wpG_of_seq hQ hK he hup hs r l _ _ _ _ hrl ho hn (hc.set hr') (ha.put hd v) hm h
          rw [Bool.or_eq_true] at hf
          rcases hf with hf | hf
          · exact wpG_first he hup hi hik hal (Region.noSelect_spec hs) _ _ _ _ hc (Region.free_spec hi hf) hr' hm (hy a ha) hnext
          · exact wpG_alone hik (by simpa using hf) ((gOp_quiet hi hal).2 (.inl ⟨v, (hy a ha).more hm, hnext⟩))
        · have hnext := wpG_of_seq hQ hK he hup hs r l _ _ _ _ hrl ho hn (hc.set hr') (ha.put hd v) hm h
          exact wpG_alone hik (two h1) ((gOp_quiet hi hal).2 (.inl ⟨v, hy a ha, hnext⟩))
        · refine wpG_alone hik (two h1) ((gOp_quiet hi hal).2 (.inr ⟨R, hy a ha, fun v m' hR => ⟨(h v m' hR).1, ?_⟩⟩))
          exact wpG_of_seq hQ hK he hup hs r l _ _ _ _ hrl ho hn (hc.set hr') (ha.put hd v) (h v m' hR).1 (h v m' hR).2
        · have hl := one h1
          unfold gLone at hl
          rw [Bool.and_eq_true, List.all_eq_true] at hl
          have hup' := hup
          unfold heldUp at hup'
          rw [Bool.and_eq_true] at hup'
          refine wpG_add hQ hup hi hik hal (Region.noSelect_spec hs) hne he _ _ _ _ hc (Region.free_spec hi hl.1) (fun j oj hoj hji hun => ?_) hup'.1 hr' hm (hy a ha) (fun v m' hR => ?_)
          · have := hl.2 j (List.mem_range.2 (Array.getElem?_eq_some_iff.1 hoj).1)
            rw [hun, hoj] at this
            simp only [Bool.or_eq_true, beq_iff_eq, hji, false_or, Bool.false_eq_true, Option.map_some, Option.getD_some] at this
            exact this
          · exact wpG_of_seq hQ hK he hup hs r l _ _ _ _ hrl ho hn (hc.set hr') (ha.put hd v) (fun w hw => hm w (hw.sub (List.sublist_append_right _ _))) (h v m' hR)
      | true =>
        rw [hal] at h
        obtain ⟨d, f, hd, hz, hdn, h⟩ := h
        have hnext := fun g => wpG_of_seq hQ hK he hup hs r l _ _ _ _ hrl ho hn (hc.set hr') (ha.put (d := some d) hdn (f g).1) (fun w hw => hm w (hw.sub (List.sublist_cons_self ..))) (h g)
        have hno : ((ops[i]?).map fun o => !isNew o).getD true = false := by rw [hi]; simp [hal]
        rw [hno, Bool.false_or, Bool.or_eq_true] at hn0
        rcases hn0 with hl | hal1
        · unfold gLone at hl
          rw [Bool.and_eq_true, List.all_eq_true] at hl
          have hup' := hup
          unfold heldUp at hup'
          rw [Bool.and_eq_true] at hup'
          refine wpG_new hQ he hup hi hik hal hd _ _ _ _ hc (Region.free_spec hi hl.1) (fun j oj hoj hji hun => ?_) hup'.1 hr' (hz a ha) hnext
          have := hl.2 j (List.mem_range.2 (Array.getElem?_eq_some_iff.1 hoj).1)
          rw [hun, hoj] at this
          simp only [Bool.or_eq_true, beq_iff_eq, hji, false_or, Bool.false_eq_true, Option.map_some, Option.getD_some] at this
          exact this
        · exact wpG_alone hik (by simpa using hal1) ((gOp_alloc hi hal).2 ⟨d, f, hd, hz a ha, hnext⟩)
def gTail (md : Region.Mode) (ops : Array Oper) : Nat → Nat → Array Bool → Bool
  | 0, _, listed => (Region.ready md ops listed).isEmpty
  | fuel + 1, i, listed => Region.ready md ops listed == [i] && gTail md ops fuel (i + 1) (listed.setIfInBounds i true)
theorem wpAny_tail {Q' : Exit → Act → World → Prop} : ∀ (l : List Oper) (i : Nat) (listed : Array Bool) (a : Act) (w : World), (∀ j, l[j]? = ops[i + j]?) → gTail md ops l.length i listed = true → wpList P ops Q' l a w → wpAny P md ops Q' l.length listed a w
  | [], i, listed, a, w, hl, ht, h => ⟨by simpa [gTail] using ht, h⟩
  | o :: l, i, listed, a, w, hl, ht, h => by
    have h0 : ops[i]? = some o := by simpa using (hl 0).symm
    simp only [List.length_cons, gTail, Bool.and_eq_true, beq_iff_eq] at ht
    obtain ⟨hr, ht⟩ := ht
    refine ⟨(fun h1 => by rw [hr] at h1; cases h1), fun j hj => ?_⟩
    rw [hr] at hj
    obtain rfl := List.mem_singleton.1 hj
    unfold wpList at h
    unfold wpOp
    rw [h0]
    simp only
    have key : ∀ a' w', wpList P ops Q' l a' w' → wpAny P md ops Q' l.length (listed.setIfInBounds j true) a' w' := fun a' w' h' => wpAny_tail l (j + 1) _ a' w' (fun q => by have := hl (q + 1); simpa [Nat.add_assoc, Nat.add_comm 1 q] using this) ht h'
    split at h
    · rename_i hq
      rw [if_pos hq]
      exact h.imp (Oper.wp_mono key) id
    · rename_i hq
      rw [if_neg hq]
      exact key _ _ h
def upTo (n k : Nat) : Array Bool := ((List.range n).map fun i => Nat.blt i k).toArray
theorem upTo_getD (n k j : Nat) (h : j < k) : (upTo n k).getD j true = true := by
  unfold upTo
  rcases Nat.lt_or_ge j n with q | q
  · simp [q, Nat.blt_eq]; exact h
  · simp [q]
def isQ (o : Oper) : Bool := match o.op with
  | .move _ | .assign _ | .pick .. | .build .. | .load .. | .binOp .. | .unOp .. | .convert .. | .fieldAddr .. | .field .. | .indexAddr .. | .index .. | .extract .. | .slice .. | .lookup .. | .nilCheck _ | .makeFunc .. => true
  | .call { callee := .value _, .. } => true
  | .call { callee := .builtin b, .. } => (match b with | .len | .cap | .min | .max => true | _ => false)
  | _ => false
theorem map_filterMap {α β : Type} (f : α → Option β) : ∀ (r : List α), (r.all fun x => (f x).isSome) = true → r.map f = (r.filterMap f).map some
  | [], _ => rfl
  | x :: r, h => by
    rw [List.all_cons, Bool.and_eq_true] at h
    obtain ⟨y, hy⟩ := Option.isSome_iff_exists.1 h.1
    rw [List.map_cons, List.filterMap_cons, hy, List.map_cons, map_filterMap f r h.2]
theorem w_mixed_r (hro : n.ro = none) (id : Nat) (rs : List Nat) (bs : List Nat) (m0 : Mem) {l : List Oper} {lt : List Oper} (hm : P.follows .mixedOrders = true)
    (hB : (heldUp .any l.toArray rs.length && Region.noSelect l.toArray && gOrd .any l.toArray rs.length rs (Array.replicate l.length false) (upTo l.length rs.length) && gNews .any l.toArray (befG .any l.toArray) rs (Array.replicate l.length false) && gTail .any l.toArray (l.length - rs.length) rs.length (upTo l.length rs.length) && Nat.ble rs.length l.length && rs.all (fun i => (l.toArray[i]?).isSome) && (gOnes .any l.toArray (befG .any l.toArray) rs (Array.replicate l.length false) == bs)) = true)
    (hm0 : m0.Sublist m) (hlt : l.drop rs.length = lt) (h : GSeq P l.toArray n W F m0 (fun L' m' => SSeq P l.toArray n W F Q lt L' m') (rs.filterMap (l.toArray[·]?)) bs L m) : Wp P n W F (.region id l.toArray true) L m Q := by
  simp only [Bool.and_eq_true, beq_iff_eq] at hB
  obtain ⟨⟨⟨⟨⟨⟨⟨b1, b2⟩, b3⟩, b4⟩, b5⟩, b7⟩, b8⟩, b10⟩ := hB
  have b7' := Nat.le_of_ble_eq_true b7
  subst b10
  intro a w ha hw
  refine wide_of hro (wp_region_any hm ?_)
  have hll : lt.length = l.length - rs.length := by rw [← hlt]; simp
  have hg := wpG_of_seq (P := P) (ops := l.toArray) (n := n) (W := W) (F := F) (m0 := m0) (K := fun L' m' => SSeq P l.toArray n W F Q lt L' m') (Q := fun a' m' => ∀ w', Has W F m' w' → wpList P l.toArray Q lt a' w')
    (fun a m m' hp hh w' hw' => hh w' (hw'.perm hp.symm)) (fun a' L' m' ha' hK w' hw' => hK a' w' ha' hw') (fun j hj => upTo_getD _ _ _ hj) b1 b2 rs _ (Array.replicate l.length false) L m a (map_filterMap _ _ b8) b3 b4 (fun q o _ hq' => by rw [show (Array.replicate l.length false).getD q false = false by simp [Array.getElem?_replicate]; split <;> rfl] at hq'; cases hq') ha (fun w hw => hw.sub hm0) h
  have := wpAny_of_g (P := P) (W := W) (F := F) (Q' := Q) (f0 := lt.length) (fun a' m' w' h1 hh => wpAny_tail lt rs.length _ a' w' (fun j => by rw [← hlt]; simp) (by rw [hll]; exact b5) (hh w' h1)) rs.length _ a m _ hw.drew hg
  rw [hll] at this
  simpa [Nat.add_sub_cancel' b7'] using this
section
variable {m0 : Mem} {K : Slots → Mem → Prop} {d : Nat} {op : Op} {ty : TypeId} {pos : String} {af : Array Edge} {gd : Option (Nat × Bool)} {l : List Oper} {bs : List Nat} {b0 : Nat} {v : Value}
theorem g_done {l : List Oper} (h : SSeq P ops n W F Q l L m) : GSeq P ops n W F m0 (fun L' m' => SSeq P ops n W F Q l L' m') [] bs L m := h
theorem g_new {t : TypeId} {z : List Value} [hz : ZeroT P t z] (hd : Nat.blt d n = true) (h : ∀ g, GSeq P ops n W F m0 K l bs ((d, .pointer (some ⟨g, 0, none⟩)) :: L) (.blk g z t :: m)) : GSeq P ops n W F m0 K (⟨some d, .alloc t, ty, pos, af, none⟩ :: l) (b0 :: bs) L m :=
  ⟨d, fun g => (.pointer (some ⟨g, 0, none⟩), .blk g z t), rfl, fun a _ => by show (zeroOf P t).map _ = _; rw [show zeroOf P t = some z from hz.ok]; rfl, hd, h⟩
theorem g_st (hal : isNew ⟨some d, op, ty, pos, af, gd⟩ = false) (hs : ∀ W0, Stp P ops n (HB W F m0 W0) L ⟨some d, op, ty, pos, af, gd⟩ v) (hd : Nat.blt d n = true) (h : GSeq P ops n W F m0 K l bs ((d, v) :: L) m) :
    GSeq P ops n W F m0 K (⟨some d, op, ty, pos, af, gd⟩ :: l) (b0 :: bs) L m := by
  unfold GSeq
  rw [hal]
  exact .inl ⟨v, fun a ha W0 _ => hs W0 a ha, hd, h⟩
theorem g_st1 (hal : isNew ⟨some d, op, ty, pos, af, gd⟩ = false) (hs : ∀ W0, Stp P ops n (HB W F m W0) L ⟨some d, op, ty, pos, af, gd⟩ v) (hd : Nat.blt d n = true) (h : GSeq P ops n W F m0 K l bs ((d, v) :: L) m) :
    GSeq P ops n W F m0 K (⟨some d, op, ty, pos, af, gd⟩ :: l) (2 :: bs) L m := by
  unfold GSeq
  rw [hal]
  exact .inr (.inl ⟨v, rfl, fun a ha W0 _ => hs W0 a ha, hd, h⟩)
theorem g_step {dst : Option Tmp} {R : Value → Mem → Prop} (hal : isNew ⟨dst, op, ty, pos, af, none⟩ = false) (h1 : Step1 P n W F ⟨dst, op, ty, pos, af, none⟩ L m R) (hd : fits n dst = true) (h : ∀ v m', R v m' → m0.Sublist m' ∧ GSeq P ops n W F m0 K l bs (putL dst v L) m') : GSeq P ops n W F m0 K (⟨dst, op, ty, pos, af, none⟩ :: l) (2 :: bs) L m := by
  unfold GSeq
  rw [hal]
  exact .inr (.inr (.inl ⟨R, rfl, fun a ha => ⟨rfl, fun w hw => h1 a ha w hw⟩, hd, fun v m' hR => ⟨fun w hw => hw.sub (h v m' hR).1, (h v m' hR).2⟩⟩))
theorem want_none {o : Oper} (h : o.guard = none) : ∀ a, Holds n L a → Region.wanted o (yielded ops a.tmps) = true := fun a _ => by unfold Region.wanted; rw [h]
theorem want_on {dst : Option Tmp} {j : Nat} {g want : Bool} (hg : gval ops L j = some (.bool g)) (hq : g = want) : ∀ a, Holds n L a → Region.wanted ⟨dst, op, ty, pos, af, some (j, want)⟩ (yielded ops a.tmps) = true := fun a ha => by rw [wanted_of ha hg, hq]; simp
theorem PRows.bsl {k : Nat} {a : Act} (ha : Holds n L a) {i : Nat} {ps : List (Nat × Operand)} {rows : List (List Value)} (h : PRows L k i ps rows) : (ps.map fun p => (p.1, (a.eval p.2).cells.toList)) = (List.range' i rows.length).zip rows := by
  induction h with
  | nil => rfl
  | @cons i x v row l rows hx hc hk h ih =>
    rw [List.map_cons, ih, List.length_cons, List.range'_succ, List.zip_cons_cons, ev ha hx, hc.spec]
theorem g_bslice {len : Nat} {t e k b : Nat} [hst : SlT P t e k b] {ps : Array (Nat × Operand)} {rows : List (List Value)} (h : PRows L k 0 ps.toList rows) (hb : (Nat.beq rows.length len && Nat.ble (len * k) 16777216) = true) (hd : Nat.blt d n = true)
    (hn : ∀ g, GSeq P ops n W F m0 K l bs ((d, .slice (some ⟨g, 0, none⟩) len len) :: L) (.own (some ⟨g, 0, none⟩) len k rows e :: m)) : GSeq P ops n W F m0 K (⟨some d, .buildSlice t len ps, ty, pos, af, none⟩ :: l) (b0 :: bs) L m := by
  refine ⟨d, fun g => (.slice (some ⟨g, 0, none⟩) len len, .own (some ⟨g, 0, none⟩) len k rows e), rfl, fun a ha => ?_, hd, hn⟩
  rw [Bool.and_eq_true] at hb
  have hl := Nat.eq_of_beq_eq_true hb.1
  obtain ⟨hu, i, z, hinf, hz, hk, _, hzc⟩ := hst.spec
  show bsPc P t len _ = _
  rw [h.bsl ha]
  unfold bsPc
  rw [hu]
  dsimp only
  rw [hinf]
  dsimp only
  subst hk
  have hsp := h.spec
  have q1 : ((List.range' 0 rows.length).zip rows).map (·.1) = List.range' 0 len := by rw [← hl, List.map_fst_zip (by simp)]
  have q2 : ((List.range' 0 rows.length).zip rows).map (·.2) = rows := by rw [List.map_snd_zip (by simp)]
  rw [q1, q2, if_pos]
  simp only [Bool.and_eq_true, beq_self_eq_true, true_and, List.all_eq_true]
  refine ⟨⟨fun r hr => ?_, hb.2⟩, ?_⟩
  · have := hsp.2 _ (List.of_mem_zip hr).2
    exact ⟨by rw [this.1]; exact Nat.beq_refl _, this.2⟩
  · rw [hz]; simp [hzc]
theorem g_append {t tx e k b e' k' b' : Nat} [hst : SlT P t e k b] [hsx : SlT P tx e' k' b'] {x y : Operand} {A B : Option Addr} {n1 n2 c cb cb' : Nat} {rows new : List (List Value)} {f : Pc → Mem} (hx : opv L x = some (.slice A n1 c)) (hy : opv L y = some (.slice B n2 cb')) (hp : Plc m (.own A c k rows e) f) (hs : Sees m B cb k new) (e1 : n1 = rows.length) (e2 : n2 = new.length)
    (hb : rows.length + new.length ≤ 1000000000) (hkb : (Nat.blt 0 k && Nat.ble b 100000) = true) (hm0 : ∀ A' c', m0.Sublist (f (.own A' c' k (rows ++ new) e))) (hd : fits n (some d) = true)
    (h : ∀ A' c', GSeq P ops n W F m0 K l bs ((d, .slice A' (n1 + n2) c') :: L) (f (.own A' c' k (rows ++ new) e))) : GSeq P ops n W F m0 K (⟨some d, .call { callee := .builtin .append, args := #[x, y], argTypes := #[t, tx] }, ty, pos, af, none⟩ :: l) (2 :: bs) L m :=
  g_step rfl (st1_append hx hy hp hs e1 e2 hb hkb) hd fun v m' ⟨A', c', q1, q2⟩ => by subst q1 q2; exact ⟨hm0 A' c', h A' c'⟩
theorem g_store {g o : Nat} {t tv : TypeId} {x y : Operand} {v : Value} {vs cs cs' : List Value} {f : Pc → Mem} (hx : opv L x = some (.pointer (some ⟨g, o, none⟩))) (hy : opv L y = some v) (hp : Plc m (.blk g cs t) f) (hc : Cells v vs) (hs : setAt cs o vs = cs') (hi : ((P.info? tv).map fun i => Nat.beq vs.length i.size) = some true) (hk : (Nat.ble (o + vs.length) cs.length && vs.all (·.oneCell')) = true) (hm0 : m0.Sublist (f (.blk g cs' t)))
    (h : GSeq P ops n W F m0 K l bs L (f (.blk g cs' t))) : GSeq P ops n W F m0 K (⟨none, .store tv x y, ty, pos, af, none⟩ :: l) (2 :: bs) L m := by
  refine g_step (R := fun v' m' => m' = f (.blk g cs' t)) rfl (fun a ha w hw => ?_) rfl (fun v' m' e => by subst e; exact ⟨hm0, h⟩)
  simp only [Bool.and_eq_true, List.all_eq_true] at hk
  obtain ⟨k2, k3⟩ := hk
  subst hs
  obtain ⟨w', r1, r2, r3⟩ := run_storeAt_in (P := P) (w := w) (hw.ok _ hp.mem : w.heap[g]? = some (.cells cs.toArray t (0, 0))) hc hi (Nat.le_of_ble_eq_true k2) k3
  have hrun : (execOp a.eval ⟨none, .store tv x y, ty, pos, af, none⟩).run P w = .ok .skip w' := by simp [execOp, ev ha hx, ev ha hy, r1]
  rw [hrun]
  exact ⟨_, rfl, hw.put hp r2 r3 (fun x hx => .inl hx) (List.nodup_cons.2 ⟨(fun h => by cases h), List.nodup_nil⟩) (fun _ _ _ _ e => by cases e)⟩
end
end

/-! ### A function's begin and end -/
def argL : Nat → List Value → Slots
  | _, [] => []
  | k, v :: l => (k, v) :: argL (k + 1) l
theorem look_argL : ∀ (vs : List Value) (k t : Nat) (v : Value), look (argL k vs) t = some v → k ≤ t ∧ vs[t - k]? = some v
  | [], k, t, v, h => by cases h
  | u :: vs, k, t, v, h => by
    unfold argL look at h
    cases hq : Nat.beq k t with
    | true => rw [hq] at h; cases h; obtain rfl := Nat.eq_of_beq_eq_true hq; simp
    | false =>
      rw [hq] at h
      obtain ⟨h1, h2⟩ := look_argL vs (k + 1) t v h
      refine ⟨by omega, ?_⟩
      rw [show t - k = (t - (k + 1)) + 1 by omega]
      simpa using h2
theorem enter_w {k : Nat} {f : FuncId} {fn : Func} {c : Code} {vs : List Value} {R : Ending → World → Prop} {w : World} (hw : Has W F m w) (hf : P.funcs[f]? = some fn) (hb : fn.body = some c) (hn : fn.ntmps = k) (hl : Nat.ble vs.length k = true)
    (h : Wp P ⟨k, [], none⟩ W F c (argL 0 vs) m (bodyPost P fn R)) : Calls P f vs.toArray w R := by
  have hl' : vs.length ≤ k := Nat.le_of_ble_eq_true hl
  refine calls_of_wp hf hb (wpIn_wide.1 (h _ _ ⟨rfl, ?_, fun t v ht => ?_⟩ hw))
  · simp [hn]; omega
  · obtain ⟨-, h2⟩ := look_argL _ _ _ _ ht
    have hlt : t < vs.length := by
      rcases Nat.lt_or_ge t vs.length with q | q
      · exact q
      · rw [List.getElem?_eq_none (by omega)] at h2; cases h2
    simp only [Nat.sub_zero] at h2
    rw [Array.getElem?_append_left (by simpa using hlt)]
    simpa using h2
theorem enter {k : Nat} {f : FuncId} {fn : Func} {c : Code} {vs : List Value} {R : Ending → World → Prop} (hf : P.funcs[f]? = some fn) (hb : fn.body = some c) (hn : fn.ntmps = k) (hl : Nat.ble vs.length k = true)
    (h : Wp P ⟨k, [], none⟩ W F c (argL 0 vs) [] (bodyPost P fn R)) : Calls P f vs.toArray W R := enter_w (Has.start W F) hf hb hn hl h
theorem enter_r {k : Nat} {f : FuncId} {fn : Func} {c : Code} {vs : List Value} {U : Mem} {v : Value} (hv : U.all (fun u => match u with | .vw .. => true | _ => false) = true) (hf : P.funcs[f]? = some fn) (hb : fn.body = some c) (hn : fn.ntmps = k) (hl : Nat.ble vs.length k = true)
    (h : ∀ W, Wp P ⟨k, [], none⟩ W (fun _ => False) c (argL 0 vs) U (bodyPost P fn fun e w' => e = .returned v ∧ Below W.heap.size W w')) : RCal P f vs U v := fun w hU =>
  enter_w (Has.views w hU hv) hf hb hn hl (h w)
def TPost (W : World) (F : Nat → Prop) (fr : Mem) (R : Value → Mem → Prop) : Ending → World → Prop := fun e w' => ∃ v m', R v m' ∧ e = .returned v ∧ Has W F (m' ++ fr) w'
theorem enter_t {k : Nat} {f : FuncId} {fn : Func} {c : Code} {vs : List Value} {mu : Mem} {R : Value → Mem → Prop} (hf : P.funcs[f]? = some fn) (hb : fn.body = some c) (hn : fn.ntmps = k) (hl : Nat.ble vs.length k = true)
    (h : ∀ W F fr, Wp P ⟨k, [], none⟩ W F c (argL 0 vs) (mu ++ fr) (bodyPost P fn (TPost W F fr R))) : Tri P f vs mu R := fun W F fr w hw => enter_w hw hf hb hn hl (h W F fr)
theorem t_end {fr m' : Mem} {R : Value → Mem → Prop} {v : Value} (hR : R v m') (hs : (m' ++ fr).Sublist m) : ∀ w, Has W F m w → TPost W F fr R (.returned v) w := fun w hw => ⟨v, m', hR, rfl, hw.sub hs⟩
theorem f_end (hds : n.ds = []) {fn : Func} {R : Ending → World → Prop} {t : Nat} {v : Value} (hr : fn.results = #[.tmp t]) (hv : look L t = some v) (h : ∀ w, Has W F m w → R (.returned v) w) : Fin n W F (bodyPost P fn R) .ret L m := fun a w ha hw => by
  refine ⟨ha.defers.trans hds, v, ?_, h w hw⟩
  rw [results_tmp hr]
  simp [ha.slot t v hv]
inductive Res (P : Program) (L : Slots) (m : Mem) : List ResultVar → List Value → Prop
  | nil : Res P L m [] []
  | tmp {t : Nat} {v : Value} {l : List ResultVar} {vs : List Value} (hv : look L t = some v) (h : Res P L m l vs) : Res P L m (.tmp t :: l) (v :: vs)
  | agg {t k g o : Nat} {ty T : TypeId} {cs r : List Value} {l : List ResultVar} {vs : List Value} (hk : AggT P ty k) (hv : look L t = some (.pointer (some ⟨g, o, none⟩))) (hm : Pc.blk g cs T ∈ m) (hr : Sub cs o k r) (h : Res P L m l vs) : Res P L m (.cell t ty :: l) (.agg r.toArray :: vs)
  | cell {t g o : Nat} {ty T : TypeId} {cs : List Value} {v : Value} {l : List ResultVar} {vs : List Value} (hk : scalB P ty = true) (hv : look L t = some (.pointer (some ⟨g, o, none⟩))) (hm : Pc.blk g cs T ∈ m) (hr : At cs o v) (h : Res P L m l vs) : Res P L m (.cell t ty :: l) (v :: vs)
def resOne (tmps : Array Value) : ResultVar → Sem Value
  | .tmp t => pure (tmps.getD t undef)
  | .cell p t => do loadVar t (← asAddr (tmps.getD p undef))
theorem results_eq (fn : Func) (tmps : Array Value) : results fn tmps = (do let vs ← fn.results.mapM (resOne tmps); pure (if h : vs.size = 1 then vs[0] else .tuple vs)) := by
  unfold results
  congr 2
theorem run_res {a : Act} {w : World} (ha : Holds n L a) (hw : Has W F m w) {l : List ResultVar} {vs : List Value} (h : Res P L m l vs) :
    (l.mapM (resOne a.tmps)).run P w = .ok vs w := by
  have hg : ∀ {t : Nat} {v : Value}, look L t = some v → a.tmps.getD t undef = v := fun h => by have := ha.slot _ _ h; simp [this]
  induction h with
  | nil => rfl
  | tmp hv _ ih =>
    rw [List.mapM_cons, Sem.run_bind]
    simp only [resOne, hg hv, Sem.run_pure, Result.andThen_ok, Sem.run_bind, ih]
  | @agg t k g o ty T cs r l vs hk hv hm hr _ ih =>
    obtain ⟨d, hu, hd, hi⟩ := aggB_spec hk.ok
    have hgc : w.heap[g]? = some (.cells cs.toArray T (0, 0)) := hw.ok _ hm
    have hl := run_loadVar_mid (P := P) w g o ty r d (fun j v hv => by rw [cell_of_row w g _ _ _ _ hgc]; simpa using hr.get j v hv) hu hd (by rw [hr.spec.2]; exact hi)
    have h0 : (asAddr (a.tmps.getD t undef)).run P w = .ok ⟨g, o, none⟩ w := by rw [hg hv]; rfl
    rw [List.mapM_cons, Sem.run_bind]
    simp only [resOne, Sem.run_bind, h0, Result.andThen_ok, hl]
    simp only [Sem.run_bind, ih, Result.andThen_ok, Sem.run_pure]
  | @cell t g o ty T cs v l vs hk hv hm hr _ ih =>
    have hgc : w.heap[g]? = some (.cells cs.toArray T (0, 0)) := hw.ok _ hm
    have hc : w.cell? ⟨g, o, none⟩ = some v := by rw [cell_of_row w g _ _ _ _ hgc]; simpa using hr.get
    have hl : (loadVar ty ⟨g, o, none⟩).run P w = .ok v w := by simp [loadVar, scalB_spec hk, hc]
    have h0 : (asAddr (a.tmps.getD t undef)).run P w = .ok ⟨g, o, none⟩ w := by rw [hg hv]; rfl
    rw [List.mapM_cons, Sem.run_bind]
    simp only [resOne, Sem.run_bind, h0, Result.andThen_ok, hl]
    simp only [Sem.run_bind, ih, Result.andThen_ok, Sem.run_pure]
theorem f_ends (hds : n.ds = []) {fn : Func} {R : Ending → World → Prop} {l : List ResultVar} {v1 v2 : Value} {vs : List Value} (hr : fn.results = l.toArray) (hv : Res P L m l (v1 :: v2 :: vs)) (h : ∀ w, Has W F m w → R (.returned (.tuple (v1 :: v2 :: vs).toArray)) w) : Fin n W F (bodyPost P fn R) .ret L m := fun a w ha hw => by
  refine ⟨ha.defers.trans hds, _, ?_, h w hw⟩
  rw [results_eq, hr, List.mapM_toArray]
  simp only [Sem.run_bind, Sem.run_map, run_res ha hw hv, Result.andThen_ok]
  simp
theorem f_ends1 (hds : n.ds = []) {fn : Func} {R : Ending → World → Prop} {l : List ResultVar} {v1 : Value} (hr : fn.results = l.toArray) (hv : Res P L m l [v1]) (h : ∀ w, Has W F m w → R (.returned v1) w) : Fin n W F (bodyPost P fn R) .ret L m := fun a w ha hw => by
  refine ⟨ha.defers.trans hds, _, ?_, h w hw⟩
  rw [results_eq, hr, List.mapM_toArray]
  simp only [Sem.run_bind, Sem.run_map, run_res ha hw hv, Result.andThen_ok]
  simp
end
abbrev Ans (v : Value) (W : World) : Ending → World → Prop := fun e w' => e = .returned v ∧ Below W.heap.size W w'
theorem ans {v : Value} {W w : World} {m : Mem} (h : Has W (fun _ => False) m w) : Ans v W (.returned v) w := ⟨rfl, h.keep.below⟩
theorem ans_b {b : Bool} {W w : World} {m : Mem} (hb : b = true) (h : Has W (fun _ => False) m w) : Ans (.bool true) W (.returned (.bool b)) w := by subst hb; exact ans h
section
variable {P : Program} {n : Fm} {W : World} {F : Nat → Prop} {m : Mem} {L : Slots} {Q : Exit → Act → World → Prop}
theorem w_draw_l {id : Nat} {l : List Oper} (hro : n.ro = none) (hm : P.follows .mixedOrders = true) (hq : l.all isQ = true) (hB : Region.lexB .any l.toArray = true) (h : QSeq P l.toArray n (Has W F m) (fun L' => Fin n W F Q .normal L' m) l L) : Wp P n W F (.region id l.toArray true) L m Q := w_draw hro hm hB h
theorem w_reg_l {id : Nat} {l : List Oper} (hro : n.ro = none) (h : SSeq P l.toArray n W F Q l L m) : Wp P n W F (.region id l.toArray false) L m Q := w_reg hro h
theorem gv_true {v : Value} : gv true v = v := rfl
theorem gv_tt {b : Bool} {v : Value} : gv (true && b) v = gv b v := by cases b <;> rfl

/-! ### Loops -/
def Cov (S : List Nat) (L' l : Slots) : Prop := ∀ t, S.elem t = false → ∀ v, look l t = some v → look L' t = some v
theorem Cov.nil {S : List Nat} {L' : Slots} : Cov S L' [] := fun t _ v h => by cases h
theorem Cov.seen {S : List Nat} {L' l : Slots} {t : Nat} {v : Value} (h : S.elem t = true) (hc : Cov S L' l) : Cov S L' ((t, v) :: l) := fun u hu x hx => by
  unfold look at hx
  cases hq : Nat.beq t u with
  | true => obtain rfl := Nat.eq_of_beq_eq_true hq; rw [h] at hu; cases hu
  | false => rw [hq] at hx; exact hc u hu x hx
theorem Cov.cons {S : List Nat} {L' l : Slots} {t : Nat} {v : Value} (h : look L' t = some v) (hc : Cov (t :: S) L' l) : Cov S L' ((t, v) :: l) := fun u hu x hx => by
  unfold look at hx
  cases hq : Nat.beq t u with
  | true => obtain rfl := Nat.eq_of_beq_eq_true hq; rw [hq] at hx; cases hx; exact h
  | false =>
    rw [hq] at hx
    refine hc u ?_ x hx
    have : (u == t) = false := by
      rw [beq_eq_false_iff_ne]
      rintro rfl
      rw [nbeq] at hq; exact Bool.noConfusion hq
    rw [List.elem_cons, this, hu]
theorem Holds.cov {a : Act} {L' l : Slots} (h : Holds n L' a) (hc : Cov [] L' l) : Holds n l a := ⟨h.defers, h.size, fun t v ht => h.slot t v (hc t rfl v ht)⟩
def Nxt (n : Fm) (W : World) (F : Nat → Prop) (l : Slots) (m : Mem) (R : Act → World → Prop) : Prop := ∀ a w, Holds n l a → Has W F m w → R a w
theorem w_loop {α : Type} {c : Code} (V : α → Slots) (M : α → Mem) (I : α → Prop) (μ : α → Nat) (L0 : Slots) (s0 : α) (hI : I s0) (hc : Cov [] L (V s0 ++ L0)) (hm : (M s0).Sublist m)
    (round : ∀ s, I s → ∀ R : Act → World → Prop, (∀ s', I s' → μ s' < μ s → Nxt n W F (V s' ++ L0) (M s') R) → Wp P n W F c (V s ++ L0) (M s) (Exit.then R Q)) : Wp P n W F (.loop c) L m Q := fun a w ha hw => by
  have key : ∀ k s, I s → μ s < k → ∀ a w, Holds n (V s ++ L0) a → Has W F (M s) w → Code.roundsIn (fen n.ro) 0 P c Q k a w := by
    intro k
    induction k with
    | zero => intro s _ h; exact absurd h (Nat.not_lt_zero _)
    | succ k ih =>
      intro s hs hk a w ha hw
      rw [roundsIn_succ]
      exact round s hs (Code.roundsIn (fen n.ro) 0 P c Q k) (fun s' hs' hlt a w ha hw => ih s' hs' (Nat.lt_of_lt_of_le hlt (Nat.le_of_lt_succ hk)) a w ha hw) a w ha hw
  exact wpIn_loop_rounds (μ s0 + 1) (key _ s0 hI (Nat.lt_succ_self _) a w (ha.cov hc) (hw.sub hm))
theorem w_loopm {α : Type} {c : Code} (V : α → Slots) (M : α → Mem) (I : α → Prop) (μ : α → Nat) (s0 : α) (hI : I s0) (hc : Cov [] L (V s0 ++ L)) (hm : (M s0).Sublist m)
    (round : ∀ s, I s → ∀ R : Act → World → Prop, (∀ s', I s' → μ s' < μ s → Nxt n W F (V s' ++ L) (M s') R) → Wp P n W F c (V s ++ L) (M s) (Exit.then R Q)) : Wp P n W F (.loop c) L m Q :=
  w_loop V M I μ L s0 hI hc hm round
theorem w_loop0 {α : Type} {c : Code} (V : α → Slots) (I : α → Prop) (μ : α → Nat) (s0 : α) (hI : I s0) (hc : Cov [] L (V s0 ++ L))
    (round : ∀ s, I s → ∀ R : Act → World → Prop, (∀ s', I s' → μ s' < μ s → Nxt n W F (V s' ++ L) m R) → Wp P n W F c (V s ++ L) m (Exit.then R Q)) : Wp P n W F (.loop c) L m Q :=
  w_loop V (fun _ => m) I μ L s0 hI hc (List.Sublist.refl _) round
def Rd (P : Program) (n : Fm) (W : World) (F : Nat → Prop) (c : Code) (Q : Exit → Act → World → Prop) (k : Nat) (L : Slots) (m : Mem) : Prop := ∀ a w, Holds n L a → Has W F m w → Code.roundsIn (fen n.ro) 0 P c Q k a w
theorem w_unroll {c : Code} (k : Nat) (h : Rd P n W F c Q k L m) : Wp P n W F (.loop c) L m Q := fun a w ha hw => wpIn_loop_rounds k (h a w ha hw)
theorem rd_succ {c : Code} {k : Nat} (h : Wp P n W F c L m (Exit.then (Code.roundsIn (fen n.ro) 0 P c Q k) Q)) : Rd P n W F c Q (k + 1) L m := fun a w ha hw => by
  rw [roundsIn_succ]
  exact h a w ha hw
theorem f_rounds {c : Code} {k : Nat} (h : Rd P n W F c Q k L m) : Fin n W F (Exit.then (Code.roundsIn (fen n.ro) 0 P c Q k) Q) .normal L m := fun a w ha hw => h a w ha hw
theorem f_back {l : Slots} {m' : Mem} {R : Act → World → Prop} (hB : Nxt n W F l m' R) (hc : Cov [] L l) (hs : m'.Sublist m) : Fin n W F (Exit.then R Q) .normal L m := fun a w ha hw => hB a w (ha.cov hc) (hw.sub hs)
theorem f_backs {l : Option Addr → Nat → Slots} {m' : Option Addr → Nat → Mem} {R : Act → World → Prop} {A : Option Addr} {c : Nat} (hB : ∀ A c, Nxt n W F (l A c) (m' A c) R) (hc : Cov [] L (l A c)) (hs : (m' A c).Sublist m) : Fin n W F (Exit.then R Q) .normal L m := f_back (hB A c) hc hs
end
attribute [irreducible] Rd Cov Nxt Wp Fin QSeq SSeq GSeq Yld Stp Cal RCal Tri Sees VSees elP
end Go.Proofs.Ytfcffemglcgbnaa.Sq
