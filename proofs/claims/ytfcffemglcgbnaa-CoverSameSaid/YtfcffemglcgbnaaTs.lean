/-
  package trie: prune, Del.
-/
import Derived.Test.YtfcffemglcgbnaaTq
namespace Go.Proofs.Ytfcffemglcgbnaa.Hand
open Go.RowKit Go.Proofs.Ytfcffemglcgbnaa.Bits Go.Proofs.Ytfcffemglcgbnaa.Dig Go.Proofs.Ytfcffemglcgbnaa.Sq
set_option linter.unusedVariables false
set_option linter.unusedSimpArgs false
set_option maxRecDepth 100000
set_option maxHeartbeats 2000000
theorem tm_tv {g : Nat} {T : Ts} {Aa : Option Addr} {ca : Nat} {Af : Option Addr} {cf : Nat} (w : World) (hw : ∀ u ∈ tM g T Aa ca Af cf, u.ok w) : ∀ u ∈ tv g T Aa ca Af cf, u.ok w := fun u hu => by
  simp only [List.mem_cons, List.not_mem_nil, or_false] at hu hw
  rcases hu with rfl | rfl | rfl
  · exact blk_reads (hw _ (.inl rfl)) (fun v hv => by simp only [List.mem_cons, List.not_mem_nil, or_false] at hv; rcases hv with rfl | rfl | rfl <;> rfl)
  · exact Owns.reads (hw _ (.inr (.inl rfl)))
  · exact Owns.reads (hw _ (.inr (.inr rfl)))
theorem fr_len {T : Ts} {lab : Lab} {L : List Pr} {xk : Key} (h : InvX T lab L xk) : T.fr.length ≤ T.ar.length := by
  have := nodup_len (m := List.range T.ar.length) h.nodup fun z hz => List.mem_range.2 ((h.free z).1 hz).1
  rwa [List.length_range] at this
end Go.Proofs.Ytfcffemglcgbnaa.Hand
namespace Go.Proofs.Ytfcffemglcgbnaa.Hand
open Go.RowKit Go.Proofs.Ytfcffemglcgbnaa.Bits Go.Proofs.Ytfcffemglcgbnaa.Dig Go.Proofs.Ytfcffemglcgbnaa.Sq
set_option linter.unusedVariables false
set_option linter.unusedSimpArgs false
set_option maxRecDepth 100000
set_option maxHeartbeats 1000000
def TrieI (L : List Pr) (mo : Int) (T : Ts) : Prop := (∃ lab, InvX T lab L (false, [])) ∧ ((T.ar.length : Nat) : Int) = mo
abbrev TrA : Type := (Option Addr × Nat) × (Option Addr × Nat)
def TrieM (g : Nat) (T : Ts) (a : TrA) : Mem := tM g T a.1.1 a.1.2 a.2.1 a.2.2
theorem trie_no (g : Nat) : ∀ T a, noVw (TrieM g T a) := fun T a r hr A c k rows e => by
  subst e
  unfold TrieM tM at hr
  simp at hr
def trieP (g : Nat) (L : List Pr) (mo : Int) (bs : List Nat) : Pc := packed (TrieI L mo) (TrieM g) bs
theorem trie_tv {g : Nat} {T : Ts} {a : TrA} (w : World) (hw : ∀ u ∈ TrieM g T a ++ [], u.ok w) : ∀ u ∈ tv g T a.1.1 a.1.2 a.2.1 a.2.2, u.ok w := tm_tv w (by rw [List.append_nil] at hw; exact hw)
theorem trie_rcal {g : Nat} {L : List Pr} {mo : Int} {bs : List Nat} {f : FuncId} {vs : List Value} {v : Value} (h : ∀ (T : Ts) (lab : Lab), InvX T lab L (false, []) → ((T.ar.length : Nat) : Int) = mo → ∀ Aa ca Af cf, RCal Try.prog f vs (tv g T Aa ca Af cf) v) : RCal Try.prog f vs [trieP g L mo bs] v :=
  RCal.unpack fun T a ⟨⟨lab, h1⟩, h2⟩ => (h T lab h1 h2 _ _ _ _).of_view fun w hw => trie_tv w hw
section
variable {g : Nat} {L : List Pr} {mo : Int} {bs : List Nat}
theorem get_p {p : Px} (hp : p.a.wf) : RCal Try.prog 97 [.pointer (some ⟨g, 0, none⟩), p.val] [trieP g L mo bs] (.tuple #[.int .i64 (getN L p).1, .bool (getN L p).2]) := trie_rcal fun T lab h _ Aa ca Af cf => get_v h hp g Aa ca Af cf
theorem len_p : RCal Try.prog 130 [.pointer (some ⟨g, 0, none⟩)] [trieP g L mo bs] (.int .i64 ((L.length : Nat) : Int)) := trie_rcal fun T lab h _ Aa ca Af cf => len_v h g Aa ca Af cf
theorem put_p (hL : L.length ≤ 100000) (hb : mo ≤ 10000000) {p : Px} (hp : p.a.wf) (va : Int) : Tri Try.prog 101 [.pointer (some ⟨g, 0, none⟩), p.val, .int .i64 va] [trieP g L mo bs] (RetX fun b : List Nat × Unit => (.int .i64 (putN L mo p va).2.2, [trieP g (putN L mo p va).1 (putN L mo p va).2.1 b.1])) := by
  refine Tri.unpack (mu := []) (trie_no g) fun T a ⟨⟨lab, h⟩, hT⟩ => ?_
  refine Tri.repack (X := Unit) (val := fun _ => .int .i64 (putN L mo p va).2.2) (mu' := fun _ => []) (trie_no g) ?_
  rw [List.append_nil]
  cases hs : sanB p with
  | true =>
    have e : putN L mo p va = (putG p va false L, mx2 mo (nodesN (putG p va false L)), 0) := by unfold putN; rw [if_pos hs]
    rw [e]
    refine (put_o h hL (by omega) hs va g a.1.1 a.1.2 a.2.1 a.2.2).mono fun v m' ⟨T', b, ⟨lab', h1⟩, h2, h3, h4, h5⟩ => ⟨T', (b, a.2), (), ⟨⟨lab', h1⟩, ?_⟩, h4, by rw [h5, List.append_nil]; rfl⟩
    have hc := h1.count
    dsimp only
    unfold mx2
    rcases h2 with q | q
    · rw [if_neg (by have := fr_len h1; omega)]; omega
    · rw [q] at hc
      simp only [List.length_nil] at hc
      split <;> omega
  | false =>
    have e : putN L mo p va = (L, mo, 1) := by unfold putN; rw [hs, if_neg (by decide)]
    rw [e]
    have k2 := sane_px hp
    rw [hs] at k2
    have k0 : RCal Try.prog 115 [.pointer (some ⟨g, 0, none⟩)] (tM g T a.1.1 a.1.2 a.2.1 a.2.2) (.bool true) := (made_s g T (by have := h.size; omega) a.1.1 a.1.2 a.2.1 a.2.2).of_view tm_tv
    unfold TrieM
    obtain ⟨⟨Aa, ca⟩, Af, cf⟩ := a
    dsimp only at k0 ⊢
    refine enter_t Try.func101 rfl Try.ntmps101 rfl (fun Wo Fo fro => ?_)
    repeat (first | (apply s_box; rfl; constructor; rfl; intro _) | apply s_st | apply st_go | (apply st_on; rfl) | (focus (first | (apply y_move; rfl) | (apply y_assign; rfl) | (apply y_not; rfl) | (apply y_load; rfl; (repeat (first | exact List.Mem.head _ | apply List.Mem.tail)); (repeat (first | exact Sub.nil | apply Sub.take | apply Sub.drop)); done) | (apply y_calls; rfl; rfl; rfl; (first | assumption); done) | (apply y_rcal; rfl; rfl; rfl; (first | assumption); (repeat (first | exact SeesAll.nil | (apply SeesAll.cons; (first | (focus (apply Sees.vw; (repeat (first | exact List.Mem.head _ | apply List.Mem.tail)); done)) | (focus (apply Sees.own; (repeat (first | exact List.Mem.head _ | apply List.Mem.tail)); done)) | exact Sees.nil | assumption)) | (apply SeesAll.mem; (repeat (first | exact List.Mem.head _ | apply List.Mem.tail))))); done) | (apply y_or; rfl; rfl; done))) | apply s_nil | apply w_seq | apply f_then | apply f_ret | apply w_ret | refine w_cond_t rfl ?_ | (apply w_reg_l; rfl) | exact rfl)
    first | (apply f_end0; rfl; rfl; intro w hw; exact t_endT hw ⟨T, ((Aa, ca), (Af, cf)), (), ⟨⟨lab, h⟩, hT⟩, rfl, rfl⟩ (by (repeat (first | exact Tk.nil | (apply Tk.see; (first | (focus (apply VSees.vw; (repeat (first | exact List.Mem.head _ | apply List.Mem.tail)); done)) | exact VSees.nil | assumption)) | (apply Tk.see; exact VSees.nil) | (apply Tk.take; (repeat (first | exact Plc.hit | apply Plc.miss)))))) (by (repeat (first | exact List.Sublist.refl _ | apply List.Sublist.cons_cons | apply List.Sublist.cons)))) | (apply f_end; rfl; rfl; rfl; intro w hw; exact t_endT hw ⟨T, ((Aa, ca), (Af, cf)), (), ⟨⟨lab, h⟩, hT⟩, rfl, rfl⟩ (by (repeat (first | exact Tk.nil | (apply Tk.see; (first | (focus (apply VSees.vw; (repeat (first | exact List.Mem.head _ | apply List.Mem.tail)); done)) | exact VSees.nil | assumption)) | (apply Tk.see; exact VSees.nil) | (apply Tk.take; (repeat (first | exact Plc.hit | apply Plc.miss)))))) (by (repeat (first | exact List.Sublist.refl _ | apply List.Sublist.cons_cons | apply List.Sublist.cons)))) | (apply f_ends; rfl; rfl; (repeat (first | exact Res.nil | (apply Res.tmp; rfl) | (apply Res.agg; exact inferInstance; rfl; (repeat (first | exact List.Mem.head _ | apply List.Mem.tail)); (repeat (first | exact Sub.nil | apply Sub.take | apply Sub.drop))) | (apply Res.cell; kernel_rfl; rfl; (repeat (first | exact List.Mem.head _ | apply List.Mem.tail)); (repeat (first | exact At.hit | apply At.miss))))); intro w hw; exact t_endT hw ⟨T, ((Aa, ca), (Af, cf)), (), ⟨⟨lab, h⟩, hT⟩, rfl, rfl⟩ (by (repeat (first | exact Tk.nil | (apply Tk.see; (first | (focus (apply VSees.vw; (repeat (first | exact List.Mem.head _ | apply List.Mem.tail)); done)) | exact VSees.nil | assumption)) | (apply Tk.see; exact VSees.nil) | (apply Tk.take; (repeat (first | exact Plc.hit | apply Plc.miss)))))) (by (repeat (first | exact List.Sublist.refl _ | apply List.Sublist.cons_cons | apply List.Sublist.cons)))) | (apply f_ends1; rfl; rfl; (repeat (first | exact Res.nil | (apply Res.tmp; rfl) | (apply Res.agg; exact inferInstance; rfl; (repeat (first | exact List.Mem.head _ | apply List.Mem.tail)); (repeat (first | exact Sub.nil | apply Sub.take | apply Sub.drop))) | (apply Res.cell; kernel_rfl; rfl; (repeat (first | exact List.Mem.head _ | apply List.Mem.tail)); (repeat (first | exact At.hit | apply At.miss))))); intro w hw; exact t_endT hw ⟨T, ((Aa, ca), (Af, cf)), (), ⟨⟨lab, h⟩, hT⟩, rfl, rfl⟩ (by (repeat (first | exact Tk.nil | (apply Tk.see; (first | (focus (apply VSees.vw; (repeat (first | exact List.Mem.head _ | apply List.Mem.tail)); done)) | exact VSees.nil | assumption)) | (apply Tk.see; exact VSees.nil) | (apply Tk.take; (repeat (first | exact Plc.hit | apply Plc.miss)))))) (by (repeat (first | exact List.Sublist.refl _ | apply List.Sublist.cons_cons | apply List.Sublist.cons))))
end
def T0 : Ts := ⟨[freshN (-1), freshN (-1)], [], 0⟩
theorem inv0 : InvX T0 (fun i => if i = 0 then some (false, []) else if i = 1 then some (true, []) else none) [] (false, []) := by
  have g : ∀ (i : Nat) (k : Key), (if i = 0 then some ((false, []) : Key) else if i = 1 then some (true, []) else none) = some k → (i = 0 ∧ k = (false, [])) ∨ (i = 1 ∧ k = (true, [])) := fun i k h => by
    split at h
    · exact .inl ⟨by assumption, (Option.some.inj h).symm⟩
    · split at h
      · exact .inr ⟨by assumption, (Option.some.inj h).symm⟩
      · cases h
  have gx : ∀ (i : Nat) (k : Key) (x : Nd), (if i = 0 then some ((false, []) : Key) else if i = 1 then some (true, []) else none) = some k → T0.ar[i]? = some x → x = freshN (-1) := fun i k x h hx => by
    rcases g i k h with ⟨rfl, _⟩ | ⟨rfl, _⟩
    · exact (Option.some.inj hx).symm
    · exact (Option.some.inj hx).symm
  refine ⟨rfl, rfl, fun i k h => ?_, fun i j k h h' => ?_, fun i => ?_, List.nodup_nil, fun i v q x b h hx => ?_, fun i v q b x h hx => ?_, fun i v x h hx => ?_, fun k => ?_, fun i k x h hx => ?_, fun i k x h hx e he => (by cases he), rfl, GoodL.nil, Nat.zero_le _⟩
  · show i < 2
    rcases g i k h with ⟨rfl, _⟩ | ⟨rfl, _⟩ <;> omega
  · rcases g i k h with ⟨rfl, rfl⟩ | ⟨rfl, rfl⟩ <;> rcases g j _ h' with ⟨rfl, e⟩ | ⟨rfl, e⟩ <;> first | rfl | cases e
  · show i ∈ [] ↔ i < 2 ∧ _
    constructor
    · intro q; cases q
    · rintro ⟨q1, q2⟩
      split at q2
      · cases q2
      · split at q2
        · cases q2
        · omega
  · rw [gx i _ x h hx]
    refine .inr ⟨kid_fresh _ _, fun j hj => ?_⟩
    rcases g j _ hj with ⟨_, e⟩ | ⟨_, e⟩ <;> (have := congrArg (fun k : Key => k.2.length) e; simp at this)
  · rcases g i _ h with ⟨_, e⟩ | ⟨_, e⟩ <;> (have := congrArg (fun k : Key => k.2.length) e; simp at this)
  · rw [gx i _ x h hx]; rfl
  · rw [node_nil]
    unfold Node
    constructor
    · rintro ⟨i, h⟩
      rcases g i k h with ⟨_, rfl⟩ | ⟨_, rfl⟩ <;> exact .inl rfl
    · rintro (h | ⟨e, he, _⟩)
      · obtain ⟨v, q⟩ := k
        dsimp only at h
        subst h
        cases v
        · exact ⟨0, rfl⟩
        · exact ⟨1, rfl⟩
      · cases he
  · rw [gx i _ x h hx]
    constructor
    · intro q; cases q
    · rintro ⟨e, he, _⟩; cases he
theorem new_p : Tri Try.prog 103 [] [] (RetX fun b : List Nat × Nat => (.pointer (some ⟨b.2, 0, none⟩), [trieP b.2 [] 2 b.1])) := by
  refine Tri.repackG (X := Nat) (val := fun g => .pointer (some ⟨g, 0, none⟩)) (mu' := fun _ => []) (I' := fun _ => TrieI [] 2) (ps' := TrieM) trie_no ?_
  have k1 := fresh_s (-1)
  refine enter_t Try.func103 rfl Try.ntmps103 rfl (fun Wo Fo fro => ?_)
  refine w_nilown (k := 1) (t := 3) ?_
  repeat (first | (apply s_box; rfl; constructor; rfl; intro _) | (apply s_bslice; (repeat (first | exact PRows.nil | (apply PRows.cons; rfl; constructor; rfl))); rfl; rfl; intro _) | apply s_st | apply st_go | (focus (first | (apply y_assign; rfl) | (apply y_calls; rfl; rfl; rfl; (first | assumption); done) | (apply y_build; kernel_rfl; (repeat (first | exact Bld.nil | (apply Bld.cons; exact inferInstance; rfl; constructor; kernel_rfl; (focus ((simp only [setAt, List.set_cons_zero, List.set_cons_succ, Nat.zero_add, Nat.reduceAdd, Nat.reduceMul]); try rfl))))); done))) | apply s_nil | apply w_seq | apply f_then | apply w_ret | (apply w_reg_l; rfl) | exact rfl)
  rename_i g1 g2
  first | (apply f_end0; rfl; rfl; intro w hw; exact t_endT hw ⟨g2, T0, ((some ⟨g1, 0, none⟩, 2), (none, 0)), ⟨⟨_, inv0⟩, rfl⟩, rfl, rfl⟩ (by (repeat (first | exact Tk.nil | (apply Tk.see; (first | (focus (apply VSees.vw; (repeat (first | exact List.Mem.head _ | apply List.Mem.tail)); done)) | exact VSees.nil | assumption)) | (apply Tk.see; exact VSees.nil) | (apply Tk.take; (repeat (first | exact Plc.hit | apply Plc.miss)))))) (by (repeat (first | exact List.Sublist.refl _ | apply List.Sublist.cons_cons | apply List.Sublist.cons)))) | (apply f_end; rfl; rfl; rfl; intro w hw; exact t_endT hw ⟨g2, T0, ((some ⟨g1, 0, none⟩, 2), (none, 0)), ⟨⟨_, inv0⟩, rfl⟩, rfl, rfl⟩ (by (repeat (first | exact Tk.nil | (apply Tk.see; (first | (focus (apply VSees.vw; (repeat (first | exact List.Mem.head _ | apply List.Mem.tail)); done)) | exact VSees.nil | assumption)) | (apply Tk.see; exact VSees.nil) | (apply Tk.take; (repeat (first | exact Plc.hit | apply Plc.miss)))))) (by (repeat (first | exact List.Sublist.refl _ | apply List.Sublist.cons_cons | apply List.Sublist.cons)))) | (apply f_ends; rfl; rfl; (repeat (first | exact Res.nil | (apply Res.tmp; rfl) | (apply Res.agg; exact inferInstance; rfl; (repeat (first | exact List.Mem.head _ | apply List.Mem.tail)); (repeat (first | exact Sub.nil | apply Sub.take | apply Sub.drop))) | (apply Res.cell; kernel_rfl; rfl; (repeat (first | exact List.Mem.head _ | apply List.Mem.tail)); (repeat (first | exact At.hit | apply At.miss))))); intro w hw; exact t_endT hw ⟨g2, T0, ((some ⟨g1, 0, none⟩, 2), (none, 0)), ⟨⟨_, inv0⟩, rfl⟩, rfl, rfl⟩ (by (repeat (first | exact Tk.nil | (apply Tk.see; (first | (focus (apply VSees.vw; (repeat (first | exact List.Mem.head _ | apply List.Mem.tail)); done)) | exact VSees.nil | assumption)) | (apply Tk.see; exact VSees.nil) | (apply Tk.take; (repeat (first | exact Plc.hit | apply Plc.miss)))))) (by (repeat (first | exact List.Sublist.refl _ | apply List.Sublist.cons_cons | apply List.Sublist.cons)))) | (apply f_ends1; rfl; rfl; (repeat (first | exact Res.nil | (apply Res.tmp; rfl) | (apply Res.agg; exact inferInstance; rfl; (repeat (first | exact List.Mem.head _ | apply List.Mem.tail)); (repeat (first | exact Sub.nil | apply Sub.take | apply Sub.drop))) | (apply Res.cell; kernel_rfl; rfl; (repeat (first | exact List.Mem.head _ | apply List.Mem.tail)); (repeat (first | exact At.hit | apply At.miss))))); intro w hw; exact t_endT hw ⟨g2, T0, ((some ⟨g1, 0, none⟩, 2), (none, 0)), ⟨⟨_, inv0⟩, rfl⟩, rfl, rfl⟩ (by (repeat (first | exact Tk.nil | (apply Tk.see; (first | (focus (apply VSees.vw; (repeat (first | exact List.Mem.head _ | apply List.Mem.tail)); done)) | exact VSees.nil | assumption)) | (apply Tk.see; exact VSees.nil) | (apply Tk.take; (repeat (first | exact Plc.hit | apply Plc.miss)))))) (by (repeat (first | exact List.Sublist.refl _ | apply List.Sublist.cons_cons | apply List.Sublist.cons))))
end Go.Proofs.Ytfcffemglcgbnaa.Hand
