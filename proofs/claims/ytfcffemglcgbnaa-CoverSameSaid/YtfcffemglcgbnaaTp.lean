/-
  package trie: Under.
-/
import Derived.Test.YtfcffemglcgbnaaTl
namespace Go.Proofs.Ytfcffemglcgbnaa.Hand
open Go.RowKit Go.Proofs.Ytfcffemglcgbnaa.Bits Go.Proofs.Ytfcffemglcgbnaa.Dig Go.Proofs.Ytfcffemglcgbnaa.Sq
set_option linter.unusedVariables false
set_option linter.unusedSimpArgs false
set_option maxRecDepth 100000
set_option maxHeartbeats 2000000
theorem dig_snoc (q : List Bool) (b : Bool) : cutd (putd (digK q) q.length b) (q.length + 1) = digK (q ++ [b]) := funext fun i => by
  unfold cutd putd digK
  by_cases h : i < q.length
  · rw [decide_eq_true (by omega), if_neg (by omega), List.getD_eq_getElem?_getD, List.getD_eq_getElem?_getD, List.getElem?_append_left h, Bool.true_and]
  · by_cases h2 : i = q.length
    · subst h2
      simp
    · have e1 : decide (i < q.length + 1) = false := decide_eq_false (by omega)
      have e2 : (q ++ [b])[i]? = none := List.getElem?_eq_none (by rw [List.length_append, List.length_singleton]; omega)
      rw [e1, Bool.false_and, List.getD_eq_getElem?_getD, e2]
      rfl
theorem child_k {v : Bool} {q : List Bool} (hq : q.length < W v) (x : Int) : Cal Try.prog 110 [(pxK (v, q)).val, .int .i64 x] (.tuple #[(pxK (v, q ++ [setv x])).val, .bool true]) := by
  have h := child_pk v (digK q) q.length hq x
  rw [digK_cut, dig_snoc] at h
  have e : ((((q ++ [setv x]).length : Nat)) : Int) = ((q.length + 1 : Nat) : Int) := by simp
  unfold pxK
  dsimp only
  rw [e]
  exact h
end Go.Proofs.Ytfcffemglcgbnaa.Hand
namespace Go.Proofs.Ytfcffemglcgbnaa.Hand
open Go.RowKit Go.Proofs.Ytfcffemglcgbnaa.Bits Go.Proofs.Ytfcffemglcgbnaa.Dig Go.Proofs.Ytfcffemglcgbnaa.Sq
set_option linter.unusedVariables false
set_option linter.unusedSimpArgs false
set_option maxRecDepth 100000
set_option maxHeartbeats 1000000
abbrev tM (g : Nat) (T : Ts) (Aa : Option Addr) (ca : Nat) (Af : Option Addr) (cf : Nat) : Mem := [.blk g [.slice Aa T.ar.length ca, .slice Af T.fr.length cf, .int .i64 T.n] 174, .own Aa ca 5 (T.ar.map Nd.cells) 170, .own Af cf 1 (T.fr.map i64n) 3]
theorem take_a {T : Ts} {fr' : List Nat} {t : Nat} (hf : T.fr = fr' ++ [t]) {y : Nd} (hy : T.ar[t]? = some y) (hb : T.fr.length ≤ 100000000) (up : Int) (g : Nat) (Aa : Option Addr) (ca : Nat) (Af : Option Addr) (cf : Nat) :
    Tri Try.prog 133 [.pointer (some ⟨g, 0, none⟩), .int .i64 up] (tM g T Aa ca Af cf) (RetX fun _ : Unit × Unit => (.int .i64 ((t : Nat) : Int), tM g ⟨T.ar.set t (freshN up), fr', T.n⟩ Aa ca Af cf)) := by
  have hrow := nd_row hy
  have hal : T.ar.length = (T.ar.map Nd.cells).length := by simp
  have htl : t < (T.ar.map Nd.cells).length := by simpa using (List.getElem?_eq_some_iff.1 hy).1
  have hfl : T.fr.length = fr'.length + 1 := by rw [hf]; simp
  have hrowf : (T.fr.map i64n)[fr'.length]? = some [.int .i64 ((t : Nat) : Int)] := by rw [hf]; simp [i64n]
  have hfl2 : T.fr.length = (T.fr.map i64n).length := by simp
  have hflt : fr'.length < (T.fr.map i64n).length := by rw [← hfl2]; omega
  have hix : IntKind.i64.wrap (((T.fr.length : Nat) : Int) - 1) = ((fr'.length : Nat) : Int) := by rw [hfl, IntWalk.i64_in _ (by omega)]; omega
  have htk : (T.fr.map i64n).take fr'.length = fr'.map i64n := by rw [hf]; simp
  have hle : fr'.length ≤ T.fr.length := by omega
  have k1 := fresh_s up
  have e1 : (T.ar.set t (freshN up)).length = T.ar.length := by simp
  have e2 : (T.ar.set t (freshN up)).map Nd.cells = (T.ar.map Nd.cells).set t [.int .i64 (-1), .int .i64 (-1), .int .i64 up, .bool false, .int .i64 0] := by rw [List.map_set]; rfl
  unfold tM
  dsimp only
  rw [e1, e2]
  clear e1 e2 hf
  refine enter_t Try.func133 rfl Try.ntmps133 rfl (fun Wo Fo fro => ?_)
  refine w_know (p := T.fr.length ≤ cf) (fun w hw => by simpa using has_cap hw (List.Mem.tail _ (List.Mem.tail _ (List.Mem.head _)))) (fun hcf => ?_)
  repeat (first | (apply s_store; rfl; rfl; (repeat (first | exact Plc.hit | apply Plc.miss)); constructor; (focus ((simp only [setAt, List.set_cons_zero, List.set_cons_succ, Nat.zero_add, Nat.reduceAdd, Nat.reduceMul]); try rfl)); kernel_rfl; rfl) | apply s_st | apply st_go | (focus (first | (apply y_move; rfl) | (apply y_assign; rfl) | (apply y_cell; rfl; (repeat (first | exact List.Mem.head _ | apply List.Mem.tail)); (repeat (first | exact At.hit | apply At.miss)); kernel_rfl; done) | (apply y_ecell; rfl; (first | (focus (apply Sees.vw; (repeat (first | exact List.Mem.head _ | apply List.Mem.tail)); done)) | (focus (apply Sees.own; (repeat (first | exact List.Mem.head _ | apply List.Mem.tail)); done)) | exact Sees.nil | assumption); (first | assumption | rfl); (repeat (first | exact At.hit | apply At.miss)); kernel_rfl; done) | (apply y_faddr; kernel_rfl; rfl) | (apply y_ixaddr; rfl; rfl; (first | (focus (apply Sees.vw; (repeat (first | exact List.Mem.head _ | apply List.Mem.tail)); done)) | (focus (apply Sees.own; (repeat (first | exact List.Mem.head _ | apply List.Mem.tail)); done)) | exact Sees.nil | assumption); (first | rfl | assumption | (focus (simp; done)) | (focus (simp; omega))); (first | assumption | rfl | exact (show (0 : Int) = ((0 : Nat) : Int) from rfl) | exact (show (1 : Int) = ((1 : Nat) : Int) from rfl) | exact (show (2 : Int) = ((2 : Nat) : Int) from rfl) | exact (show (3 : Int) = ((3 : Nat) : Int) from rfl)); (first | assumption | omega | (focus (simp; done)) | (focus (simp; omega))); done) | (apply y_nilc; rfl) | (apply y_len; rfl) | (apply y_slice; rfl; rfl; rfl; (first | rfl | exact (show some (0 : Int) = some (((0 : Nat)) : Int) from rfl) | exact (show some (1 : Int) = some (((1 : Nat)) : Int) from rfl) | (apply congrArg some; assumption)); (first | rfl | exact (show some (0 : Int) = some (((0 : Nat)) : Int) from rfl) | exact (show some (1 : Int) = some (((1 : Nat)) : Int) from rfl) | (apply congrArg some; assumption)); (first | assumption | omega | (focus (simp; done)) | (focus (simp; omega))); (first | assumption | omega | (focus (simp; done)) | (focus (simp; omega))); done) | (apply y_gt; rfl; rfl) | (apply y_sub; rfl; rfl))) | apply s_nil | apply w_seq | apply f_then | (apply w_cond_tt; rfl; (focus ((repeat (first | assumption | rfl | exact beq_self_eq_true _ | exact bne_self_eq_false _ | apply bOrF | apply bAndT | apply bNotF | apply bNotT | (focus (apply decide_eq_true; omega)) | (focus (apply decide_eq_false; omega)) | (focus (apply bEqT; omega)) | (focus (apply bEqF; omega)) | (focus (apply bNeT; omega)) | (focus (apply bNeF; omega)) | (focus (apply bOrT1; first | assumption | (apply decide_eq_true; omega))) | (focus (apply bOrT2; first | assumption | (apply decide_eq_true; omega))) | (focus (apply bAndF1; first | assumption | (apply decide_eq_false; omega))) | (focus (apply bAndF2; first | assumption | (apply decide_eq_false; omega))))); done))) | (apply w_reg_l; rfl) | exact rfl)
  refine w_take (A := Af) (c := cf) (k := 1) (rows := T.fr.map i64n) (t := 3) (by (repeat (first | exact Plc.hit | apply Plc.miss))) fr'.length ?_
  rw [htk]
  simp only [advA_zero, Nat.sub_zero]
  repeat (first | (apply s_estore; rfl; rfl; (repeat (first | exact Plc.hit | apply Plc.miss)); (first | assumption | rfl); constructor; (focus ((simp only [setAt, List.set_cons_zero, List.set_cons_succ, Nat.zero_add, Nat.reduceAdd, Nat.reduceMul]); try rfl)); kernel_rfl; rfl) | apply s_st | apply st_go | (focus (first | (apply y_move; rfl) | (apply y_assign; rfl) | (apply y_cell; rfl; (repeat (first | exact List.Mem.head _ | apply List.Mem.tail)); (repeat (first | exact At.hit | apply At.miss)); kernel_rfl; done) | (apply y_calls; rfl; rfl; rfl; (first | assumption); done) | (apply y_faddr; kernel_rfl; rfl) | (apply y_ixaddr; rfl; rfl; (first | (focus (apply Sees.vw; (repeat (first | exact List.Mem.head _ | apply List.Mem.tail)); done)) | (focus (apply Sees.own; (repeat (first | exact List.Mem.head _ | apply List.Mem.tail)); done)) | exact Sees.nil | assumption); (first | rfl | assumption | (focus (simp; done)) | (focus (simp; omega))); (first | assumption | rfl | exact (show (0 : Int) = ((0 : Nat) : Int) from rfl) | exact (show (1 : Int) = ((1 : Nat) : Int) from rfl) | exact (show (2 : Int) = ((2 : Nat) : Int) from rfl) | exact (show (3 : Int) = ((3 : Nat) : Int) from rfl)); (first | assumption | omega | (focus (simp; done)) | (focus (simp; omega))); done) | (apply y_nilc; rfl))) | apply s_nil | apply w_seq | apply f_then | apply f_ret | apply w_ret | (apply f_end; rfl; rfl; rfl; intro w hw; first | exact ans hw | (refine ans_b ?_ hw; (focus ((repeat (first | assumption | rfl | exact beq_self_eq_true _ | exact bne_self_eq_false _ | apply bOrF | apply bAndT | apply bNotF | apply bNotT | (focus (apply decide_eq_true; omega)) | (focus (apply decide_eq_false; omega)) | (focus (apply bEqT; omega)) | (focus (apply bEqF; omega)) | (focus (apply bNeT; omega)) | (focus (apply bNeF; omega)) | (focus (apply bOrT1; first | assumption | (apply decide_eq_true; omega))) | (focus (apply bOrT2; first | assumption | (apply decide_eq_true; omega))) | (focus (apply bAndF1; first | assumption | (apply decide_eq_false; omega))) | (focus (apply bAndF2; first | assumption | (apply decide_eq_false; omega))))); done))) | (apply t_endS1 hw; rfl; (focus ((repeat (first | exact List.Sublist.refl _ | apply List.Sublist.cons_cons | apply List.Sublist.cons)); done))) | (apply t_endU hw; rfl; (focus ((repeat (first | exact List.Sublist.refl _ | apply List.Sublist.cons_cons | apply List.Sublist.cons)); done))) | (apply t_endX1 hw; rfl; (focus ((repeat (first | exact List.Sublist.refl _ | apply List.Sublist.cons_cons | apply List.Sublist.cons)); done))) | (refine t_end ⟨rfl, rfl⟩ ?_ w hw; (focus ((repeat (first | exact List.Sublist.refl _ | apply List.Sublist.cons_cons | apply List.Sublist.cons)); done))) | (apply t_endUT hw; rfl; (focus ((repeat (first | exact Tk.nil | (apply Tk.see; (first | (focus (apply VSees.vw; (repeat (first | exact List.Mem.head _ | apply List.Mem.tail)); done)) | exact VSees.nil | assumption)) | (apply Tk.see; exact VSees.nil) | (apply Tk.take; (repeat (first | exact Plc.hit | apply Plc.miss))))); done)); (focus ((repeat (first | exact List.Sublist.refl _ | apply List.Sublist.cons_cons | apply List.Sublist.cons)); done))) | (apply t_endXT hw; rfl; (repeat (first | exact Tk.nil | (apply Tk.see; (first | (focus (apply VSees.vw; (repeat (first | exact List.Mem.head _ | apply List.Mem.tail)); done)) | exact VSees.nil | assumption)) | (apply Tk.see; exact VSees.nil) | (apply Tk.take; (repeat (first | exact Plc.hit | apply Plc.miss))))); (focus ((repeat (first | exact List.Sublist.refl _ | apply List.Sublist.cons_cons | apply List.Sublist.cons)); done)))) | (apply w_mixed_r rfl 5 [0, 1, 2, 3, 4, 5, 6] [0, 0, 0, 0, 0, 2, 2] _ ; kernel_rfl; kernel_rfl; exact List.Sublist.refl _; rfl) | (apply g_st1; rfl; intro W0) | (apply g_st; rfl; intro W0) | apply g_done | (apply w_reg_l; rfl) | exact rfl)
theorem take_b {T : Ts} (hf : T.fr = []) (hb : T.ar.length ≤ 100000000) (up : Int) (g : Nat) (Aa : Option Addr) (ca : Nat) (Af : Option Addr) (cf : Nat) :
    Tri Try.prog 133 [.pointer (some ⟨g, 0, none⟩), .int .i64 up] (tM g T Aa ca Af cf) (RetX fun b : Option Addr × Nat => (.int .i64 ((T.ar.length : Nat) : Int), tM g ⟨T.ar ++ [freshN up], [], T.n⟩ b.1 b.2 Af cf)) := by
  have hal : T.ar.length = (T.ar.map Nd.cells).length := by simp
  have k1 := fresh_s up
  have e1 : (T.ar ++ [freshN up]).length = T.ar.length + 1 := by simp
  have e2 : (T.ar ++ [freshN up]).map Nd.cells = T.ar.map Nd.cells ++ [[.int .i64 (-1), .int .i64 (-1), .int .i64 up, .bool false, .int .i64 0]] := by rw [List.map_append]; rfl
  have hix : ((T.ar.length : Nat) : Int) = IntKind.i64.wrap (((T.ar.length + 1 : Nat) : Int) - 1) := by rw [IntWalk.i64_in _ (by omega)]; omega
  unfold tM
  dsimp only
  rw [e1, e2, hf]
  rw [hix]
  clear e1 e2 hf hix
  dsimp only [List.length_nil, List.map_nil]
  refine enter_t Try.func133 rfl Try.ntmps133 rfl (fun Wo Fo fro => ?_)
  repeat (first | (apply s_store; rfl; rfl; (repeat (first | exact Plc.hit | apply Plc.miss)); constructor; (focus ((simp only [setAt, List.set_cons_zero, List.set_cons_succ, Nat.zero_add, Nat.reduceAdd, Nat.reduceMul]); try rfl)); kernel_rfl; rfl) | (apply g_bslice; (repeat (first | exact PRows.nil | (apply PRows.cons; rfl; constructor; rfl))); rfl; rfl; intro _) | (apply g_append; rfl; rfl; (repeat (first | exact Plc.hit | apply Plc.miss)); (first | (focus (apply Sees.vw; (repeat (first | exact List.Mem.head _ | apply List.Mem.tail)); done)) | (focus (apply Sees.own; (repeat (first | exact List.Mem.head _ | apply List.Mem.tail)); done)) | exact Sees.nil | assumption); (first | rfl | assumption | (focus (simp; done)) | (focus (simp; omega))); (first | rfl | assumption | (focus (simp; done)) | (focus (simp; omega))); (first | assumption | omega | (focus (simp; done)) | (focus (simp; omega))); kernel_rfl; (intro _ _; (focus ((repeat (first | exact List.Sublist.refl _ | apply List.Sublist.cons_cons | apply List.Sublist.cons)); done))); rfl; intro _ _) | apply s_st | apply st_go | (focus (first | (apply y_move; rfl) | (apply y_assign; rfl) | (apply y_cell; rfl; (repeat (first | exact List.Mem.head _ | apply List.Mem.tail)); (repeat (first | exact At.hit | apply At.miss)); kernel_rfl; done) | (apply y_calls; rfl; rfl; rfl; (first | assumption); done) | (apply y_faddr; kernel_rfl; rfl) | (apply y_nilc; rfl) | (apply y_len; rfl) | (apply y_gt; rfl; rfl) | (apply y_sub; rfl; rfl))) | apply s_nil | apply w_seq | apply f_then | apply w_skip | apply w_ret | refine w_cond_f rfl ?_ | (apply f_end; rfl; rfl; rfl; intro w hw; first | exact ans hw | (refine ans_b ?_ hw; (focus ((repeat (first | assumption | rfl | exact beq_self_eq_true _ | exact bne_self_eq_false _ | apply bOrF | apply bAndT | apply bNotF | apply bNotT | (focus (apply decide_eq_true; omega)) | (focus (apply decide_eq_false; omega)) | (focus (apply bEqT; omega)) | (focus (apply bEqF; omega)) | (focus (apply bNeT; omega)) | (focus (apply bNeF; omega)) | (focus (apply bOrT1; first | assumption | (apply decide_eq_true; omega))) | (focus (apply bOrT2; first | assumption | (apply decide_eq_true; omega))) | (focus (apply bAndF1; first | assumption | (apply decide_eq_false; omega))) | (focus (apply bAndF2; first | assumption | (apply decide_eq_false; omega))))); done))) | (apply t_endS1 hw; rfl; (focus ((repeat (first | exact List.Sublist.refl _ | apply List.Sublist.cons_cons | apply List.Sublist.cons)); done))) | (apply t_endU hw; rfl; (focus ((repeat (first | exact List.Sublist.refl _ | apply List.Sublist.cons_cons | apply List.Sublist.cons)); done))) | (apply t_endX1 hw; rfl; (focus ((repeat (first | exact List.Sublist.refl _ | apply List.Sublist.cons_cons | apply List.Sublist.cons)); done))) | (refine t_end ⟨rfl, rfl⟩ ?_ w hw; (focus ((repeat (first | exact List.Sublist.refl _ | apply List.Sublist.cons_cons | apply List.Sublist.cons)); done))) | (apply t_endUT hw; rfl; (focus ((repeat (first | exact Tk.nil | (apply Tk.see; (first | (focus (apply VSees.vw; (repeat (first | exact List.Mem.head _ | apply List.Mem.tail)); done)) | exact VSees.nil | assumption)) | (apply Tk.see; exact VSees.nil) | (apply Tk.take; (repeat (first | exact Plc.hit | apply Plc.miss))))); done)); (focus ((repeat (first | exact List.Sublist.refl _ | apply List.Sublist.cons_cons | apply List.Sublist.cons)); done))) | (apply t_endXT hw; rfl; (repeat (first | exact Tk.nil | (apply Tk.see; (first | (focus (apply VSees.vw; (repeat (first | exact List.Mem.head _ | apply List.Mem.tail)); done)) | exact VSees.nil | assumption)) | (apply Tk.see; exact VSees.nil) | (apply Tk.take; (repeat (first | exact Plc.hit | apply Plc.miss))))); (focus ((repeat (first | exact List.Sublist.refl _ | apply List.Sublist.cons_cons | apply List.Sublist.cons)); done)))) | (apply w_mixed_r rfl 7 [0, 1, 2, 3, 4, 5, 6, 7, 8] [0, 0, 0, 0, 0, 2, 2, 2, 2] (.blk g [.slice Aa T.ar.length ca, .slice Af 0 cf, .int .i64 T.n] 174 :: fro); kernel_rfl; kernel_rfl; (focus ((repeat (first | exact List.Sublist.refl _ | apply List.Sublist.cons_cons | apply List.Sublist.cons)); done)); rfl) | (apply g_st1; rfl; intro W0) | (apply g_st; rfl; intro W0) | apply g_done | (apply w_reg_l; rfl) | exact rfl)
theorem eq_key {p q : Px} (hp : sanB p = true) (hq : sanB q = true) : keyP p = keyP q ↔ p = q := ⟨key_inj hp hq, fun e => by rw [e]⟩
theorem InvX.put {T : Ts} {lab : Lab} {L : List Pr} {p : Px} (hs : sanB p = true) (h : InvX T lab L (keyP p)) {i : Nat} (hi : lab i = some (keyP p)) {x : Nd} (hx : T.ar[i]? = some x) (va : Int) :
    InvX ⟨T.ar.set i ⟨x.k0, x.k1, x.up, true, va⟩, T.fr, if x.ends = true then T.n else T.n + 1⟩ lab (putG p va false L) (false, []) := by
  obtain ⟨h1, h2⟩ := put_spec (v := va) hs h.good
  have hk : ∀ e ∈ L, keyP e.p = keyP p ↔ e.p = p := fun e he => eq_key (h.good.sane e he) hs
  refine h.change hi hx (fun k => ?_) ?_ (fun e he hk' => ?_) (fun e he => ?_) ?_ h1 (Nat.zero_le _)
  · rw [node_nil]
    constructor
    · rintro ((hn | ⟨e, he, q1, q2⟩) | ⟨q1, q2⟩)
      · exact .inl hn
      · by_cases hp : e.p = p
        · exact .inr ⟨⟨p, va⟩, (h2 _).2 (.inl rfl), by rw [← hp]; exact q1, by rw [← hp]; exact q2⟩
        · exact .inr ⟨e, (h2 _).2 (.inr ⟨he, hp⟩), q1, q2⟩
      · exact .inr ⟨⟨p, va⟩, (h2 _).2 (.inl rfl), q1.symm, q2⟩
    · rintro (hn | ⟨e, he, q1, q2⟩)
      · exact .inl (.inl hn)
      · rcases (h2 e).1 he with rfl | ⟨he, _⟩
        · exact .inr ⟨q1.symm, q2⟩
        · exact .inl (.inr ⟨e, he, q1, q2⟩)
  · exact ⟨fun _ => ⟨⟨p, va⟩, (h2 _).2 (.inl rfl), rfl⟩, fun _ => rfl⟩
  · rcases (h2 e).1 he with rfl | ⟨he, hne⟩
    · rfl
    · exact absurd ((hk e he).1 hk') hne
  · rw [h2]
    constructor
    · rintro (rfl | ⟨q, _⟩)
      · exact absurd rfl he
      · exact q
    · exact fun q => .inr ⟨q, fun e' => he (by rw [e'])⟩
  · rw [put_len h.good hs, h.cnt]
    have hen := h.ends i _ x hi hx
    by_cases he : x.ends = true
    · rw [if_pos he]
      obtain ⟨e, q1, q2⟩ := hen.1 he
      have := out_len h.good q1 ((hk e q1).1 q2)
      omega
    · rw [if_neg he]
      have := (out_same (L := L) (p := p)).2 fun e q1 q2 => he (hen.2 ⟨e, q1, by rw [q2]⟩)
      omega
theorem InvX.down {T : Ts} {lab : Lab} {L : List Pr} {v : Bool} {q : List Bool} {b : Bool} (h : InvX T lab L (v, q)) {m : Nat} (hm : lab m = some (v, q ++ [b])) : InvX T lab L (v, q ++ [b]) := by
  have hn : Node L (v, q ++ [b]) := by
    rcases (h.node _).1 ⟨m, hm⟩ with hn | ⟨_, h2⟩
    · exact hn
    · have := h2.length_le; dsimp only at this; rw [List.length_append, List.length_singleton] at this; omega
  refine h.shift (fun k => ?_) (h.len hm)
  rw [node_pre hn]
  constructor
  · rintro (h1 | ⟨h1, h2⟩)
    · exact h1
    · exact (node_pre hn k).1 (.inr ⟨h1, h2.trans (List.prefix_append _ _)⟩)
  · exact .inl
end Go.Proofs.Ytfcffemglcgbnaa.Hand
