/-
  kedgelaw05: what its laws lean on.
-/
import Derived.Test.YtjhapdcojcmjlaaTs
import Derived.Test.YtjhapdcojcmjlaaPd
namespace Go.Proofs.Ytjhapdcojcmjlaa.Hand
open Go.RowKit Go.Proofs.Ytjhapdcojcmjlaa.Bits Go.Proofs.Ytjhapdcojcmjlaa.Dig Go.Proofs.Ytjhapdcojcmjlaa.Sq
set_option linter.unusedVariables false
set_option linter.unusedSimpArgs false
set_option maxRecDepth 100000
set_option maxHeartbeats 1000000
def zeroPx (v : Bool) : Px := ⟨⟨0, 0, v⟩, 0⟩
theorem zeroD (i : Nat) : D 0 0 i = false := by unfold D; split <;> (try split) <;> simp
theorem zeroPx_sane (v : Bool) : sanB (zeroPx v) = true := by
  refine saneB_iff.2 ⟨?_, Int.le_refl 0, Int.natCast_nonneg _, fun i _ _ => zeroD i⟩
  cases v
  · exact (sane4 ⟨by decide, by decide⟩).2 fun i _ _ => zeroD i
  · exact ⟨(hi_v6 (by decide)).symm, (lo_v6 (by decide)).symm⟩
theorem zeroPx_key (v : Bool) : keyP (zeroPx v) = (v, []) := rfl
theorem zeroPx_wf (v : Bool) : (zeroPx v).a.wf := by cases v <;> exact ⟨by decide, by decide⟩
theorem under_all {L : List Pr} (hg : GoodL L) : underN L (zeroPx false) ++ underN L (zeroPx true) = L := by
  have key : ∀ v e, e ∈ underN L (zeroPx v) ↔ e ∈ L ∧ v = (keyP e.p).1 := fun v e => by
    unfold underN
    rw [List.mem_filter, cov_key, zeroPx_key]
    exact ⟨fun ⟨h1, _, _, h2, _⟩ => ⟨h1, h2⟩, fun ⟨h1, h2⟩ => ⟨h1, zeroPx_sane v, hg.sane e h1, h2, List.nil_prefix⟩⟩
  refine GoodL.ext ⟨fun e he => ?_, ?_⟩ hg fun e => ?_
  · rcases List.mem_append.1 he with h | h
    · exact hg.sane e ((key _ _).1 h).1
    · exact hg.sane e ((key _ _).1 h).1
  · rw [List.pairwise_append]
    refine ⟨(und_good hg _).sorted, (und_good hg _).sorted, fun a ha b hb => ?_⟩
    unfold ltK
    rw [← ((key _ _).1 ha).2, ← ((key _ _).1 hb).2]
    rfl
  · rw [List.mem_append, key, key]
    constructor
    · rintro (h | h) <;> exact h.1
    · intro h
      cases hv : (keyP e.p).1
      · exact .inl ⟨h, rfl⟩
      · exact .inr ⟨h, rfl⟩
theorem take_pr (l : List Pr) {i : Nat} (h : i < l.length) : (l.take (i + 1)).map Pr.cells = (l.take i).map Pr.cells ++ [l[i].cells] := by
  rw [List.take_add_one, List.getElem?_eq_getElem h, List.map_append]
  rfl
theorem rabove_f (L : List Pr) (hw : ∀ e ∈ L, e.p.a.wf) (hl : L.length ≤ 100000000) {p : Px} (hp : p.a.wf) (mo : Int) (A : Option Addr) (c : Nat) : FCal Try.prog 121 [.agg #[.slice A L.length c, .int .i64 mo], p.val] [.vw A c 5 (L.map Pr.cells)] (RetX fun b : Option Addr × Nat => (.slice b.1 (aboveN L p).length b.2, [.own b.1 b.2 5 ((aboveN L p).map Pr.cells) 165])) := FCal.ofS rfl (fun _ _ => noVw_own) (rabove_s L hw hl hp mo A c)
/-- One thing that is done. -/
structure Ac5 where
  out : Bool
  p : Px
  v : Int
def Ac5.cells (o : Ac5) : List Value := [.bool o.out, .int .u64 o.p.a.hi, .int .u64 o.p.a.lo, .bool o.p.a.v6, .int .i64 o.p.n, .int .i64 o.v]
def Ac5.wf (o : Ac5) : Prop := o.p.a.wf
noncomputable def doT (L : List Pr) (mo : Int) (o : Ac5) : List Pr × Int × Int := if o.out = true then ((delN L o.p).1, mo, (delN L o.p).2) else putN L mo o.p o.v
end Go.Proofs.Ytjhapdcojcmjlaa.Hand
