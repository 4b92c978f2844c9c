-- Written by a program of this session (wip/tools/pp.py drives the kit's print with hand-proved contracts); Lean checks it.
import Derived.Test.YtbaeaiiohkfieaaPIx0
import Derived.Test.YtbaeaiiohkfieaaPIx1
namespace Go.Proofs.Ytbaeaiiohkfieaa.PI
open Go.RowKit Go.Proofs.Ytbaeaiiohkfieaa.Hand Go.Proofs.Ytbaeaiiohkfieaa.PP Go.Proofs.YtbaeaiiohkfieaaW.PrintWords Go.Proofs.YtbaeaiiohkfieaaW.PrintLast Go.Proofs.YtbaeaiiohkfieaaW.PrintMore
attribute [local go_sem] max2_int min2_int max_two min_two max_three min_three max_four min_four   -- for this text's walks alone
set_option linter.unusedVariables false
set_option linter.unusedSimpArgs false

noncomputable section
attribute [local go_sem high] eqA34
/-! ### kedgelaw02_PrefixChain: function 5 -/
mutual
def kedgelaw02_PrefixChain.j2 : Nat → Bool → Int → Int → Int → Bool → Int → Int → Bool → Int → Option (Bool)
  | 0, _, _, _, _, _, _, _, _, _ => none
  | k + 1, x3, x5, x102000, x102001, x102002, x108000, x108001, x108002, x108003 => if x3 = true then (if x108003 = 0 then ((addr_Width.f x102002).bind fun t120 => (kedgelaw02_PrefixChain.j3 k (x5 == t120))) else (kedgelaw02_PrefixChain.j3 k false)) else (kedgelaw02_PrefixChain.j3 k false)
def kedgelaw02_PrefixChain.j3 : Nat → Bool → Option (Bool)
  | 0, _ => none
  | k + 1, x2 => some x2
def kedgelaw02_PrefixChain.l0 : Nat → Bool → Int → Int → Int → Int → Bool → Int → Int → Bool → Int → Option (Bool)
  | 0, _, _, _, _, _, _, _, _, _, _ => none
  | k + 1, x3, x5, x6, x102000, x102001, x102002, x108000, x108001, x108002, x108003 => if x6 < 130 then ((prefix_Parent.f x108000 x108001 x108002 x108003).bind fun bt108 => ((prefix_Contains.f x108000 x108001 x108002 x108003 x102000 x102001 x102002).bind fun t114 => (if t114 = true then ((prefix_Of.f x102000 x102001 x102002 x108003).bind fun bt115 => (kedgelaw02_PrefixChain.j1 k x3 x5 x6 bt108.2.2.2.2 ((!(x108000 == bt115.1) || (!(x108001 == bt115.2.1) || (!(x108002 == bt115.2.2.1)))) || (!(x108003 == bt115.2.2.2))) x102000 x102001 x102002 x108000 x108001 x108002 x108003 bt108.1 bt108.2.1 bt108.2.2.1 bt108.2.2.2.1)) else (kedgelaw02_PrefixChain.j1 k x3 x5 x6 bt108.2.2.2.2 true x102000 x102001 x102002 x108000 x108001 x108002 x108003 bt108.1 bt108.2.1 bt108.2.2.1 bt108.2.2.2.1)))) else (kedgelaw02_PrefixChain.j2 k x3 x5 x102000 x102001 x102002 x108000 x108001 x108002 x108003)
def kedgelaw02_PrefixChain.j1 : Nat → Bool → Int → Int → Bool → Bool → Int → Int → Bool → Int → Int → Bool → Int → Int → Int → Bool → Int → Option (Bool)
  | 0, _, _, _, _, _, _, _, _, _, _, _, _, _, _, _, _ => none
  | k + 1, x3, x5, x6, x8, x32, x102000, x102001, x102002, x108000, x108001, x108002, x108003, x114000, x114001, x114002, x114003 => if x32 = true then (some false) else (if x8 = true then ((prefix_Inside.f k x114000 x114001 x114002 x114003 x108000 x108001 x108002 x108003).bind fun t119 => (if t119 = true then (if x114003 = (wrap64 (x108003 - 1)) then (kedgelaw02_PrefixChain.l0 k x3 (wrap64 (x5 + 1)) (wrap64 (x6 + 1)) x102000 x102001 x102002 x114000 x114001 x114002 x114003) else (some false)) else (some false))) else (kedgelaw02_PrefixChain.j2 k x3 x5 x102000 x102001 x102002 x108000 x108001 x108002 x108003))
end
def kedgelaw02_PrefixChain.f (k : Nat) (a0_0 : Int) (a0_1 : Int) (a0_2 : Bool) : Option (Bool) := (kedgelaw02_awake.f).bind fun t102 => ((prefix_Of.f a0_0 a0_1 a0_2 128).bind fun bt103 => (kedgelaw02_PrefixChain.l0 k t102 0 0 a0_0 a0_1 a0_2 bt103.1 bt103.2.1 bt103.2.2.1 bt103.2.2.2))
theorem kedgelaw02_PrefixChain.mono_l : ∀ k, (∀ y0 y1 y2 y3 y4 y5 y6 y7 y8, LeO (kedgelaw02_PrefixChain.j2 k y0 y1 y2 y3 y4 y5 y6 y7 y8) (kedgelaw02_PrefixChain.j2 (k + 1) y0 y1 y2 y3 y4 y5 y6 y7 y8)) ∧ (∀ y0, LeO (kedgelaw02_PrefixChain.j3 k y0) (kedgelaw02_PrefixChain.j3 (k + 1) y0)) ∧ (∀ y0 y1 y2 y3 y4 y5 y6 y7 y8 y9, LeO (kedgelaw02_PrefixChain.l0 k y0 y1 y2 y3 y4 y5 y6 y7 y8 y9) (kedgelaw02_PrefixChain.l0 (k + 1) y0 y1 y2 y3 y4 y5 y6 y7 y8 y9)) ∧ (∀ y0 y1 y2 y3 y4 y5 y6 y7 y8 y9 y10 y11 y12 y13 y14 y15, LeO (kedgelaw02_PrefixChain.j1 k y0 y1 y2 y3 y4 y5 y6 y7 y8 y9 y10 y11 y12 y13 y14 y15) (kedgelaw02_PrefixChain.j1 (k + 1) y0 y1 y2 y3 y4 y5 y6 y7 y8 y9 y10 y11 y12 y13 y14 y15))
  | 0 => ⟨fun _ _ _ _ _ _ _ _ _ r h => by simp [kedgelaw02_PrefixChain.j2] at h, fun _ r h => by simp [kedgelaw02_PrefixChain.j3] at h, fun _ _ _ _ _ _ _ _ _ _ r h => by simp [kedgelaw02_PrefixChain.l0] at h, fun _ _ _ _ _ _ _ _ _ _ _ _ _ _ _ _ r h => by simp [kedgelaw02_PrefixChain.j1] at h⟩
  | k + 1 => by
    obtain ⟨ih0, ih1, ih2, ih3⟩ := kedgelaw02_PrefixChain.mono_l k
    refine ⟨?_, ?_, ?_, ?_⟩
    · intro y0 y1 y2 y3 y4 y5 y6 y7 y8
      unfold kedgelaw02_PrefixChain.j2
      repeat' first
      | (with_reducible exact ih0 _ _ _ _ _ _ _ _ _)
      | (with_reducible exact ih1 _)
      | (with_reducible exact ih2 _ _ _ _ _ _ _ _ _ _)
      | (with_reducible exact ih3 _ _ _ _ _ _ _ _ _ _ _ _ _ _ _ _)
      | (with_reducible exact prefix_Inside.mono _ _ _ _ _ _ _ _ _)
      | (with_reducible exact LeO.refl _)
      | (with_reducible exact LeO.none _)
      | (with_reducible refine LeO.ite ?_ ?_)
      | (with_reducible refine LeO.bind ?_ (fun _ => ?_))
      | exact ih0 _ _ _ _ _ _ _ _ _
      | exact ih1 _
      | exact ih2 _ _ _ _ _ _ _ _ _ _
      | exact ih3 _ _ _ _ _ _ _ _ _ _ _ _ _ _ _ _
      | exact prefix_Inside.mono _ _ _ _ _ _ _ _ _
      | exact LeO.none _
      | refine LeO.ite ?_ ?_
      | refine LeO.bind ?_ (fun _ => ?_)
    · intro y0
      unfold kedgelaw02_PrefixChain.j3
      repeat' first
      | (with_reducible exact ih0 _ _ _ _ _ _ _ _ _)
      | (with_reducible exact ih1 _)
      | (with_reducible exact ih2 _ _ _ _ _ _ _ _ _ _)
      | (with_reducible exact ih3 _ _ _ _ _ _ _ _ _ _ _ _ _ _ _ _)
      | (with_reducible exact prefix_Inside.mono _ _ _ _ _ _ _ _ _)
      | (with_reducible exact LeO.refl _)
      | (with_reducible exact LeO.none _)
      | (with_reducible refine LeO.ite ?_ ?_)
      | (with_reducible refine LeO.bind ?_ (fun _ => ?_))
      | exact ih0 _ _ _ _ _ _ _ _ _
      | exact ih1 _
      | exact ih2 _ _ _ _ _ _ _ _ _ _
      | exact ih3 _ _ _ _ _ _ _ _ _ _ _ _ _ _ _ _
      | exact prefix_Inside.mono _ _ _ _ _ _ _ _ _
      | exact LeO.none _
      | refine LeO.ite ?_ ?_
      | refine LeO.bind ?_ (fun _ => ?_)
    · intro y0 y1 y2 y3 y4 y5 y6 y7 y8 y9
      unfold kedgelaw02_PrefixChain.l0
      repeat' first
      | (with_reducible exact ih0 _ _ _ _ _ _ _ _ _)
      | (with_reducible exact ih1 _)
      | (with_reducible exact ih2 _ _ _ _ _ _ _ _ _ _)
      | (with_reducible exact ih3 _ _ _ _ _ _ _ _ _ _ _ _ _ _ _ _)
      | (with_reducible exact prefix_Inside.mono _ _ _ _ _ _ _ _ _)
      | (with_reducible exact LeO.refl _)
      | (with_reducible exact LeO.none _)
      | (with_reducible refine LeO.ite ?_ ?_)
      | (with_reducible refine LeO.bind ?_ (fun _ => ?_))
      | exact ih0 _ _ _ _ _ _ _ _ _
      | exact ih1 _
      | exact ih2 _ _ _ _ _ _ _ _ _ _
      | exact ih3 _ _ _ _ _ _ _ _ _ _ _ _ _ _ _ _
      | exact prefix_Inside.mono _ _ _ _ _ _ _ _ _
      | exact LeO.none _
      | refine LeO.ite ?_ ?_
      | refine LeO.bind ?_ (fun _ => ?_)
    · intro y0 y1 y2 y3 y4 y5 y6 y7 y8 y9 y10 y11 y12 y13 y14 y15
      unfold kedgelaw02_PrefixChain.j1
      repeat' first
      | (with_reducible exact ih0 _ _ _ _ _ _ _ _ _)
      | (with_reducible exact ih1 _)
      | (with_reducible exact ih2 _ _ _ _ _ _ _ _ _ _)
      | (with_reducible exact ih3 _ _ _ _ _ _ _ _ _ _ _ _ _ _ _ _)
      | (with_reducible exact prefix_Inside.mono _ _ _ _ _ _ _ _ _)
      | (with_reducible exact LeO.refl _)
      | (with_reducible exact LeO.none _)
      | (with_reducible refine LeO.ite ?_ ?_)
      | (with_reducible refine LeO.bind ?_ (fun _ => ?_))
      | exact ih0 _ _ _ _ _ _ _ _ _
      | exact ih1 _
      | exact ih2 _ _ _ _ _ _ _ _ _ _
      | exact ih3 _ _ _ _ _ _ _ _ _ _ _ _ _ _ _ _
      | exact prefix_Inside.mono _ _ _ _ _ _ _ _ _
      | exact LeO.none _
      | refine LeO.ite ?_ ?_
      | refine LeO.bind ?_ (fun _ => ?_)
theorem kedgelaw02_PrefixChain.mono : ∀ a0 a1 a2 k, LeO (kedgelaw02_PrefixChain.f k a0 a1 a2) (kedgelaw02_PrefixChain.f (k + 1) a0 a1 a2) := by
  intro a0 a1 a2 k
  obtain ⟨ih0, ih1, ih2, ih3⟩ := kedgelaw02_PrefixChain.mono_l k
  unfold kedgelaw02_PrefixChain.f
  repeat' first
      | (with_reducible exact ih0 _ _ _ _ _ _ _ _ _)
      | (with_reducible exact ih1 _)
      | (with_reducible exact ih2 _ _ _ _ _ _ _ _ _ _)
      | (with_reducible exact ih3 _ _ _ _ _ _ _ _ _ _ _ _ _ _ _ _)
      | (with_reducible exact prefix_Inside.mono _ _ _ _ _ _ _ _ _)
      | (with_reducible exact LeO.refl _)
      | (with_reducible exact LeO.none _)
      | (with_reducible refine LeO.ite ?_ ?_)
      | (with_reducible refine LeO.bind ?_ (fun _ => ?_))
      | exact ih0 _ _ _ _ _ _ _ _ _
      | exact ih1 _
      | exact ih2 _ _ _ _ _ _ _ _ _ _
      | exact ih3 _ _ _ _ _ _ _ _ _ _ _ _ _ _ _ _
      | exact prefix_Inside.mono _ _ _ _ _ _ _ _ _
      | exact LeO.none _
      | refine LeO.ite ?_ ?_
      | refine LeO.bind ?_ (fun _ => ?_)
def kedgelaw02_PrefixChain.T8 : Bool × List (List Nat × List Nat) := (true, [([], []), ([], []), ([0, 1], [0, 1]), ([2], [2]), ([3, 2], [3]), ([4], [4]), ([4], [4]), ([4], [4]), ([7, 4], [4, 7]), ([6, 8, 4, 4], [4, 6, 8]), ([5, 9, 4], [4, 5, 9]), ([4, 10], [4, 10])])
def kedgelaw02_PrefixChain.B8 : List Nat := [0, 0, 3, 7, 15, 31, 31, 31, 159, 479, 1023, 2047]
theorem kedgelaw02_PrefixChain.tab8 : rtab .any (opsOf Try.f5 8) = kedgelaw02_PrefixChain.T8 := by kernel_rfl
theorem kedgelaw02_PrefixChain.bits8 : waitsOk kedgelaw02_PrefixChain.T8.2 kedgelaw02_PrefixChain.B8 = true := by kernel_rfl
set_option maxHeartbeats 8000000 in
set_option maxRecDepth 100000 in
theorem kedgelaw02_PrefixChain.calls (k : Nat) (a0_0 : Int) (a0_1 : Int) (a0_2 : Bool) (r : Bool) (w : World) (h : kedgelaw02_PrefixChain.f k a0_0 a0_1 a0_2 = some r) :
    Calls Try.prog 5 #[.agg #[.int .u64 a0_0, .int .u64 a0_1, .bool a0_2]] w fun e w' => e = .returned (.bool r) ∧ Below w.heap.size w w' := by
  have hu24 := Try.underlying24
  have hu34 := Try.underlying34
  have HB := Aside0.mk (Below.refl w.heap.size w)
  have H : ((kedgelaw02_awake.f).bind fun t102 => ((prefix_Of.f a0_0 a0_1 a0_2 128).bind fun bt103 => (kedgelaw02_PrefixChain.l0 k t102 0 0 a0_0 a0_1 a0_2 bt103.1 bt103.2.1 bt103.2.2.1 bt103.2.2.2))) = some r := h
  clear h
  replace H := Option.bind_eq_some_iff.mp H
  obtain ⟨t102, A20, H⟩ := H
  replace H : ((prefix_Of.f a0_0 a0_1 a0_2 128).bind fun bt103 => (kedgelaw02_PrefixChain.l0 k t102 0 0 a0_0 a0_1 a0_2 bt103.1 bt103.2.1 bt103.2.2.1 bt103.2.2.2)) = some r := H
  have A2 := Aside0.mk A20
  clear A20
  replace H := Option.bind_eq_some_iff.mp H
  obtain ⟨⟨t103, t104, t105, t106⟩, A30, H⟩ := H
  replace H : (kedgelaw02_PrefixChain.l0 k t102 0 0 a0_0 a0_1 a0_2 t103 t104 t105 t106) = some r := H
  have A3 := Aside0.mk A30
  clear A30
  have HC4 := Aside0.mk H
  clear H
  go_enter Try.func5, Try.ntmps5
  go_upto_block 0 with (first | ((with_reducible refine gate_dst (N := 1) rfl ?_); refine box_event ?hg (N := 1) ?hd (cs := #[.int .u64 a0_0, .int .u64 a0_1, .bool a0_2]) (t := 24) ?hr ?_; (case hd => rfl); (case hg => rfl); (case hr => first | (go_simp; done) | (go_simp; rfl)); intro gb101 hg w5 hbox hb; have n0_ := Aside0.mk (below_step (by repeat (first | (with_reducible first | exact HB.out | apply below_alloc | apply pw_below_drewN | apply below_drew1) | exact HB.out)) hb); have n1_ := Aside0.mk (hbox); have n2_ := Aside0.mk ((by rw [hg]; exact (below_size (by repeat (first | (with_reducible first | exact HB.out | apply below_alloc | apply pw_below_drewN | apply below_drew1) | exact HB.out))) : w.heap.size ≤ gb101)); have n3_ := Aside0.mk ((by rw [hg]; exact (below_size (by repeat (first | (with_reducible first | exact HB.out | apply below_alloc | apply pw_below_drewN | apply below_drew1) | exact HB.out))) : w.heap.size ≤ gb101)); clear HB; have HB := n0_; have BK101 := n1_; have GW101 := n2_; have GE101 := n3_; clear n0_ n1_ n2_ n3_; clear hb hbox hg) | ((with_reducible refine gate_callee (f := 22) rfl ?_); refine goesL_ (some 9) rfl rfl Try.func22 (by kernel_rfl) rfl #[] rfl (by (try simp only [List.map_toArray, List.map_cons, List.map_nil]); first | done | rfl | (simp only [List.length_drop, List.length_take]; rfl)) ?_; (with_reducible refine (kedgelaw02_awake.calls  t102 _ A2.out).mono ?_); rintro e w6 ⟨rfl, hb⟩; refine ⟨_, rfl, ?_⟩; have n0_ := Aside0.mk (blk_below (g := gb101) (o := .cells #[.int .u64 a0_0, .int .u64 a0_1, .bool a0_2] 24 (0, 0)) (by (with_reducible repeat (first | refine blk_drewN ?_ _ | refine blk_drew ?_ | refine blk_alloc ?_ _)); exact BK101.out) hb); have n1_ := Aside0.mk (below_step (by repeat (first | (with_reducible first | exact HB.out | apply below_alloc | apply pw_below_drewN | apply below_drew1 | refine below_set ?_ GE101.out) | exact HB.out)) hb); clear BK101; clear HB; have BK101 := n0_; have HB := n1_; clear n0_ n1_; (try clear hb); (try clear hb2); (try clear hk); (try clear hi); have hcz7_0 : w6.cell? ⟨gb101, 0, none⟩ = some (.int .u64 a0_0) := (blk_cell BK101.out 0).trans rfl; have hcz7_1 : w6.cell? ⟨gb101, 1, none⟩ = some (.int .u64 a0_1) := (blk_cell BK101.out 1).trans rfl; have hcz7_2 : w6.cell? ⟨gb101, 2, none⟩ = some (.bool a0_2) := (blk_cell BK101.out 2).trans rfl; have hfz7_0 := blk_frozen BK101.out 0; have hfz7_1 := blk_frozen BK101.out 1; have hfz7_2 := blk_frozen BK101.out 2) | ((with_reducible refine gate_callee (f := 23) rfl ?_); refine goesL_ (some 11) rfl rfl Try.func23 (by kernel_rfl) rfl #[.agg #[.int .u64 a0_0, .int .u64 a0_1, .bool a0_2], .int .i64 128] rfl (by (try simp only [List.map_toArray, List.map_cons, List.map_nil]); first | done | rfl | (simp only [List.length_drop, List.length_take]; rfl)) ?_; (with_reducible refine (prefix_Of.calls a0_0 a0_1 a0_2 128 t103 t104 t105 t106 _ A3.out).mono ?_); rintro e w8 ⟨rfl, hb⟩; refine ⟨_, rfl, ?_⟩; have n0_ := Aside0.mk (blk_below (g := gb101) (o := .cells #[.int .u64 a0_0, .int .u64 a0_1, .bool a0_2] 24 (0, 0)) (by (with_reducible repeat (first | refine blk_drewN ?_ _ | refine blk_drew ?_ | refine blk_alloc ?_ _)); exact BK101.out) hb); have n1_ := Aside0.mk (below_step (by repeat (first | (with_reducible first | exact HB.out | apply below_alloc | apply pw_below_drewN | apply below_drew1 | refine below_set ?_ GE101.out) | exact HB.out)) hb); clear BK101; clear HB; have BK101 := n0_; have HB := n1_; clear n0_ n1_; (try clear hb); (try clear hb2); (try clear hk); (try clear hi)) | ((with_reducible refine gate_dst (N := 4) rfl ?_); refine box_event ?hg (N := 4) ?hd (cs := #[.int .u64 0, .int .u64 0, .bool false, .int .i64 0]) (t := 34) ?hr ?_; (case hd => rfl); (case hg => rfl); (case hr => first | (go_simp; done) | (go_simp; rfl)); intro gb107 hg w9 hbox hb; have n0_ := Aside0.mk (blk_below (g := gb101) (o := .cells #[.int .u64 a0_0, .int .u64 a0_1, .bool a0_2] 24 (0, 0)) (by (with_reducible repeat (first | refine blk_drewN ?_ _ | refine blk_drew ?_ | refine blk_alloc ?_ _)); exact BK101.out) hb); have n1_ := Aside0.mk (below_step (by repeat (first | (with_reducible first | exact HB.out | apply below_alloc | apply pw_below_drewN | apply below_drew1 | refine below_set ?_ GE101.out) | exact HB.out)) hb); have n2_ := Aside0.mk (hbox); have n3_ := Aside0.mk ((by rw [hg]; exact (below_size (by repeat (first | (with_reducible first | exact HB.out | apply below_alloc | apply pw_below_drewN | apply below_drew1 | refine below_set ?_ GE101.out) | exact HB.out))) : w.heap.size ≤ gb107)); have n4_ := Aside0.mk ((by rw [hg]; exact (below_size (by repeat (first | (with_reducible first | exact HB.out | apply below_alloc | apply pw_below_drewN | apply below_drew1 | refine below_set ?_ GE101.out) | exact HB.out))) : w.heap.size ≤ gb107)); have n5_ := Aside0.mk ((by rw [hg]; exact Nat.ne_of_lt (blk_lt (g := gb101) (o := .cells #[.int .u64 a0_0, .int .u64 a0_1, .bool a0_2] 24 (0, 0)) (by (with_reducible repeat (first | refine blk_drewN ?_ _ | refine blk_drew ?_ | refine blk_alloc ?_ _)); exact BK101.out)) : gb101 ≠ gb107)); have n6_ := Aside0.mk ((by rw [hg]; exact Nat.ne_of_gt (blk_lt (g := gb101) (o := .cells #[.int .u64 a0_0, .int .u64 a0_1, .bool a0_2] 24 (0, 0)) (by (with_reducible repeat (first | refine blk_drewN ?_ _ | refine blk_drew ?_ | refine blk_alloc ?_ _)); exact BK101.out)) : gb107 ≠ gb101)); clear BK101; clear HB; have BK101 := n0_; have HB := n1_; have BK107 := n2_; have GW107 := n3_; have GE107 := n4_; have NB101_107 := n5_; have NB107_101 := n6_; clear n0_ n1_ n2_ n3_ n4_ n5_ n6_; clear hb hbox hg; have hnb10 := NB107_101.out; have hnc10 := NB101_107.out; have hcz11_0 : w9.cell? ⟨gb107, 0, none⟩ = some (.int .u64 0) := (blk_cell BK107.out 0).trans rfl; have hcz11_1 : w9.cell? ⟨gb107, 1, none⟩ = some (.int .u64 0) := (blk_cell BK107.out 1).trans rfl; have hcz11_2 : w9.cell? ⟨gb107, 2, none⟩ = some (.bool false) := (blk_cell BK107.out 2).trans rfl; have hcz11_3 : w9.cell? ⟨gb107, 3, none⟩ = some (.int .i64 0) := (blk_cell BK107.out 3).trans rfl; have hfz11_0 := blk_frozen BK107.out 0; have hfz11_1 := blk_frozen BK107.out 1; have hfz11_2 := blk_frozen BK107.out 2; have hfz11_3 := blk_frozen BK107.out 3))
  (try simp only [Act.put, List.setIfInBounds_toArray, List.set_cons_zero, List.set_cons_succ])
  go_cut [5] (fun v5 wc => ∃ (kq : Nat) (x5_3 : Int) (x108000_3 : Int) (x108001_3 : Int) (x108002_3 : Bool) (x108003_3 : Int), v5 = .int .i64 x5_3 ∧ Aside0 (kedgelaw02_PrefixChain.j2 kq t102 x5_3 a0_0 a0_1 a0_2 x108000_3 x108001_3 x108002_3 x108003_3 = some r) ∧ Aside0 (kq ≤ k) ∧ Aside0 (wc.heap[gb101]? = some (.cells #[.int .u64 a0_0, .int .u64 a0_1, .bool a0_2] 24 (0, 0))) ∧ Aside0 (wc.heap[gb107]? = some (.cells #[.int .u64 x108000_3, .int .u64 x108001_3, .bool x108002_3, .int .i64 x108003_3] 34 (0, 0))) ∧ Aside0 (Below w.heap.size w wc))
  case first =>
    have H := HC4.out
    clear HC4
    have H' := Aside0.mk H
    clear H
    go_wp2
    go_loopg [5, 6] k (fun kq v5 v6 w' => ∃ (x5_1 : Int) (x6_1 : Int) (x108000_1 : Int) (x108001_1 : Int) (x108002_1 : Bool) (x108003_1 : Int), v5 = .int .i64 x5_1 ∧ v6 = .int .i64 x6_1 ∧ Aside0 (kedgelaw02_PrefixChain.l0 kq t102 x5_1 x6_1 a0_0 a0_1 a0_2 x108000_1 x108001_1 x108002_1 x108003_1 = some r) ∧ Aside0 (kq ≤ k) ∧ Aside0 (w'.heap[gb101]? = some (.cells #[.int .u64 a0_0, .int .u64 a0_1, .bool a0_2] 24 (0, 0))) ∧ Aside0 (w'.heap[gb107]? = some (.cells #[.int .u64 x108000_1, .int .u64 x108001_1, .bool x108002_1, .int .i64 x108003_1] 34 (0, 0))) ∧ Aside0 (Below w.heap.size w w'))
    case atStart => exact ⟨(0), (0), (t103), (t104), (t105), (t106), (by first | rfl | (simp; done) | (simp [*]; done)), (by first | rfl | (simp; done) | (simp [*]; done)), H', ⟨Nat.le_refl _⟩, ⟨by (with_reducible repeat (first | refine blk_drewN ?_ _ | refine blk_drew ?_ | refine blk_alloc ?_ _)); refine blk_far ?_ NB101_107.out _; (with_reducible repeat (first | refine blk_drewN ?_ _ | refine blk_drew ?_ | refine blk_alloc ?_ _)); refine blk_far ?_ NB101_107.out _; (with_reducible repeat (first | refine blk_drewN ?_ _ | refine blk_drew ?_ | refine blk_alloc ?_ _)); refine blk_far ?_ NB101_107.out _; (with_reducible repeat (first | refine blk_drewN ?_ _ | refine blk_drew ?_ | refine blk_alloc ?_ _)); refine blk_far ?_ NB101_107.out _; (with_reducible repeat (first | refine blk_drewN ?_ _ | refine blk_drew ?_ | refine blk_alloc ?_ _)); exact BK101.out⟩, ⟨by (with_reducible repeat (first | refine blk_drewN ?_ _ | refine blk_drew ?_ | refine blk_alloc ?_ _)); refine blk_put (cs := #[.int .u64 t103, .int .u64 t104, .bool t105, .int .i64 0]) ?_ 3 _ rfl; (with_reducible repeat (first | refine blk_drewN ?_ _ | refine blk_drew ?_ | refine blk_alloc ?_ _)); refine blk_put (cs := #[.int .u64 t103, .int .u64 t104, .bool false, .int .i64 0]) ?_ 2 _ rfl; (with_reducible repeat (first | refine blk_drewN ?_ _ | refine blk_drew ?_ | refine blk_alloc ?_ _)); refine blk_put (cs := #[.int .u64 t103, .int .u64 0, .bool false, .int .i64 0]) ?_ 1 _ rfl; (with_reducible repeat (first | refine blk_drewN ?_ _ | refine blk_drew ?_ | refine blk_alloc ?_ _)); refine blk_put (cs := #[.int .u64 0, .int .u64 0, .bool false, .int .i64 0]) ?_ 0 _ rfl; (with_reducible repeat (first | refine blk_drewN ?_ _ | refine blk_drew ?_ | refine blk_alloc ?_ _)); exact BK107.out⟩, ⟨by repeat (first | (with_reducible first | exact HB.out | apply below_alloc | apply pw_below_drewN | apply below_drew1 | refine below_set ?_ GE101.out | refine below_set ?_ GE107.out) | exact HB.out)⟩⟩
    case round =>
      clear H'
      try clear c1
      try clear c2
      try clear p2
      try clear c5
      try clear c10
      try clear hcz11_0
      try clear hcz11_1
      try clear hcz11_2
      try clear hcz11_3
      try clear hcz7_0
      try clear hcz7_1
      try clear hcz7_2
      try clear hfz11_0
      try clear hfz11_1
      try clear hfz11_2
      try clear hfz11_3
      try clear hfz7_0
      try clear hfz7_1
      try clear hfz7_2
      obtain ⟨x5_1, x6_1, x108000_1, x108001_1, x108002_1, x108003_1, rfl, rfl, HA, HK1, BK101, BK107, HB⟩ := hrel
      cases gk with
      | zero => exact absurd HA.out (by simp [kedgelaw02_PrefixChain.l0])
      | succ k1 =>
        have H := HA.out
        clear HA
        simp only [kedgelaw02_PrefixChain.l0] at H
        by_cases c12 : x6_1 < 130
        · rw [if_pos c12] at H
          have c12b0 : decide (x6_1 < 130) = true := decide_eq_true c12
          clear c12
          (first | rw [c12b0] | (simp only [i64_w, i32_w]; rw [c12b0]) | skip)
          replace H := Option.bind_eq_some_iff.mp H
          obtain ⟨⟨t108, t109, t110, t111, t112⟩, A130, H⟩ := H
          replace H : ((prefix_Contains.f x108000_1 x108001_1 x108002_1 x108003_1 a0_0 a0_1 a0_2).bind fun t114 => (if t114 = true then ((prefix_Of.f a0_0 a0_1 a0_2 x108003_1).bind fun bt115 => (kedgelaw02_PrefixChain.j1 k1 t102 x5_1 x6_1 t112 ((!(x108000_1 == bt115.1) || (!(x108001_1 == bt115.2.1) || (!(x108002_1 == bt115.2.2.1)))) || (!(x108003_1 == bt115.2.2.2))) a0_0 a0_1 a0_2 x108000_1 x108001_1 x108002_1 x108003_1 t108 t109 t110 t111)) else (kedgelaw02_PrefixChain.j1 k1 t102 x5_1 x6_1 t112 true a0_0 a0_1 a0_2 x108000_1 x108001_1 x108002_1 x108003_1 t108 t109 t110 t111))) = some r := H
          have A13 := Aside0.mk A130
          clear A130
          have HC14 := Aside0.mk H
          clear H
          have hnb15 := NB107_101.out
          have hnc15 := NB101_107.out
          have hcz16_0 : wr.cell? ⟨gb107, 0, none⟩ = some (.int .u64 x108000_1) := (blk_cell BK107.out 0).trans rfl
          have hcz16_1 : wr.cell? ⟨gb107, 1, none⟩ = some (.int .u64 x108001_1) := (blk_cell BK107.out 1).trans rfl
          have hcz16_2 : wr.cell? ⟨gb107, 2, none⟩ = some (.bool x108002_1) := (blk_cell BK107.out 2).trans rfl
          have hcz16_3 : wr.cell? ⟨gb107, 3, none⟩ = some (.int .i64 x108003_1) := (blk_cell BK107.out 3).trans rfl
          have hfz16_0 := blk_frozen BK107.out 0
          have hfz16_1 := blk_frozen BK107.out 1
          have hfz16_2 := blk_frozen BK107.out 2
          have hfz16_3 := blk_frozen BK107.out 3
          go_upto_region 8 with (first | ((with_reducible refine gate_callee (f := 24) rfl ?_); refine goesL_ (some 18) rfl rfl Try.func24 (by kernel_rfl) rfl #[.agg #[.int .u64 x108000_1, .int .u64 x108001_1, .bool x108002_1, .int .i64 x108003_1]] rfl (by (try simp only [List.map_toArray, List.map_cons, List.map_nil]); first | done | rfl | (simp only [List.length_drop, List.length_take]; rfl)) ?_; (with_reducible refine (prefix_Parent.calls x108000_1 x108001_1 x108002_1 x108003_1 t108 t109 t110 t111 t112 _ A13.out).mono ?_); rintro e w17 ⟨rfl, hb⟩; refine ⟨_, rfl, ?_⟩; have n0_ := Aside0.mk (blk_below (g := gb101) (o := .cells #[.int .u64 a0_0, .int .u64 a0_1, .bool a0_2] 24 (0, 0)) (by (with_reducible repeat (first | refine blk_drewN ?_ _ | refine blk_drew ?_ | refine blk_alloc ?_ _)); exact BK101.out) hb); have n1_ := Aside0.mk (blk_below (g := gb107) (o := .cells #[.int .u64 x108000_1, .int .u64 x108001_1, .bool x108002_1, .int .i64 x108003_1] 34 (0, 0)) (by (with_reducible repeat (first | refine blk_drewN ?_ _ | refine blk_drew ?_ | refine blk_alloc ?_ _)); exact BK107.out) hb); have n2_ := Aside0.mk (below_step (by repeat (first | (with_reducible first | exact HB.out | apply below_alloc | apply pw_below_drewN | apply below_drew1 | refine below_set ?_ GE101.out | refine below_set ?_ GE107.out) | exact HB.out)) hb); clear BK101; clear BK107; clear HB; have BK101 := n0_; have BK107 := n1_; have HB := n2_; clear n0_ n1_ n2_; (try clear hb); (try clear hb2); (try clear hk); (try clear hi)) | ((with_reducible refine gate_dst (N := 7) rfl ?_); refine box_event ?hg (N := 7) ?hd (cs := #[.int .u64 0, .int .u64 0, .bool false, .int .i64 0]) (t := 34) ?hr ?_; (case hd => rfl); (case hg => rfl); (case hr => first | (go_simp; done) | (go_simp; rfl)); intro gb113 hg w18 hbox hb; have n0_ := Aside0.mk (blk_below (g := gb101) (o := .cells #[.int .u64 a0_0, .int .u64 a0_1, .bool a0_2] 24 (0, 0)) (by (with_reducible repeat (first | refine blk_drewN ?_ _ | refine blk_drew ?_ | refine blk_alloc ?_ _)); exact BK101.out) hb); have n1_ := Aside0.mk (blk_below (g := gb107) (o := .cells #[.int .u64 x108000_1, .int .u64 x108001_1, .bool x108002_1, .int .i64 x108003_1] 34 (0, 0)) (by (with_reducible repeat (first | refine blk_drewN ?_ _ | refine blk_drew ?_ | refine blk_alloc ?_ _)); exact BK107.out) hb); have n2_ := Aside0.mk (below_step (by repeat (first | (with_reducible first | exact HB.out | apply below_alloc | apply pw_below_drewN | apply below_drew1 | refine below_set ?_ GE101.out | refine below_set ?_ GE107.out) | exact HB.out)) hb); have n3_ := Aside0.mk (hbox); have n4_ := Aside0.mk ((by rw [hg]; exact (below_size (by repeat (first | (with_reducible first | exact HB.out | apply below_alloc | apply pw_below_drewN | apply below_drew1 | refine below_set ?_ GE101.out | refine below_set ?_ GE107.out) | exact HB.out))) : w.heap.size ≤ gb113)); have n5_ := Aside0.mk ((by rw [hg]; exact (below_size (by repeat (first | (with_reducible first | exact HB.out | apply below_alloc | apply pw_below_drewN | apply below_drew1 | refine below_set ?_ GE101.out | refine below_set ?_ GE107.out) | exact HB.out))) : w.heap.size ≤ gb113)); have n6_ := Aside0.mk ((by rw [hg]; exact Nat.ne_of_lt (blk_lt (g := gb101) (o := .cells #[.int .u64 a0_0, .int .u64 a0_1, .bool a0_2] 24 (0, 0)) (by (with_reducible repeat (first | refine blk_drewN ?_ _ | refine blk_drew ?_ | refine blk_alloc ?_ _)); exact BK101.out)) : gb101 ≠ gb113)); have n7_ := Aside0.mk ((by rw [hg]; exact Nat.ne_of_gt (blk_lt (g := gb101) (o := .cells #[.int .u64 a0_0, .int .u64 a0_1, .bool a0_2] 24 (0, 0)) (by (with_reducible repeat (first | refine blk_drewN ?_ _ | refine blk_drew ?_ | refine blk_alloc ?_ _)); exact BK101.out)) : gb113 ≠ gb101)); have n8_ := Aside0.mk ((by rw [hg]; exact Nat.ne_of_lt (blk_lt (g := gb107) (o := .cells #[.int .u64 x108000_1, .int .u64 x108001_1, .bool x108002_1, .int .i64 x108003_1] 34 (0, 0)) (by (with_reducible repeat (first | refine blk_drewN ?_ _ | refine blk_drew ?_ | refine blk_alloc ?_ _)); exact BK107.out)) : gb107 ≠ gb113)); have n9_ := Aside0.mk ((by rw [hg]; exact Nat.ne_of_gt (blk_lt (g := gb107) (o := .cells #[.int .u64 x108000_1, .int .u64 x108001_1, .bool x108002_1, .int .i64 x108003_1] 34 (0, 0)) (by (with_reducible repeat (first | refine blk_drewN ?_ _ | refine blk_drew ?_ | refine blk_alloc ?_ _)); exact BK107.out)) : gb113 ≠ gb107)); clear BK101; clear BK107; clear HB; have BK101 := n0_; have BK107 := n1_; have HB := n2_; have BK113 := n3_; have GW113 := n4_; have GE113 := n5_; have NB101_113 := n6_; have NB113_101 := n7_; have NB107_113 := n8_; have NB113_107 := n9_; clear n0_ n1_ n2_ n3_ n4_ n5_ n6_ n7_ n8_ n9_; clear hb hbox hg; have hnb19 := NB113_101.out; have hnc19 := NB101_113.out; have hnb20 := NB113_107.out; have hnc20 := NB107_113.out; have hcz21_0 : w18.cell? ⟨gb113, 0, none⟩ = some (.int .u64 0) := (blk_cell BK113.out 0).trans rfl; have hcz21_1 : w18.cell? ⟨gb113, 1, none⟩ = some (.int .u64 0) := (blk_cell BK113.out 1).trans rfl; have hcz21_2 : w18.cell? ⟨gb113, 2, none⟩ = some (.bool false) := (blk_cell BK113.out 2).trans rfl; have hcz21_3 : w18.cell? ⟨gb113, 3, none⟩ = some (.int .i64 0) := (blk_cell BK113.out 3).trans rfl; have hfz21_0 := blk_frozen BK113.out 0; have hfz21_1 := blk_frozen BK113.out 1; have hfz21_2 := blk_frozen BK113.out 2; have hfz21_3 := blk_frozen BK113.out 3))
          (try simp only [Act.put, List.setIfInBounds_toArray, List.set_cons_zero, List.set_cons_succ])
          go_cut [32] (fun v32 wc => ∃ (kq : Nat) (x32_13 : Bool), v32 = .bool x32_13 ∧ Aside0 (kedgelaw02_PrefixChain.j1 kq t102 x5_1 x6_1 t112 x32_13 a0_0 a0_1 a0_2 x108000_1 x108001_1 x108002_1 x108003_1 t108 t109 t110 t111 = some r) ∧ Aside0 (kq ≤ k1) ∧ Aside0 (wc.heap[gb101]? = some (.cells #[.int .u64 a0_0, .int .u64 a0_1, .bool a0_2] 24 (0, 0))) ∧ Aside0 (wc.heap[gb107]? = some (.cells #[.int .u64 x108000_1, .int .u64 x108001_1, .bool x108002_1, .int .i64 x108003_1] 34 (0, 0))) ∧ Aside0 (wc.heap[gb113]? = some (.cells #[.int .u64 t108, .int .u64 t109, .bool t110, .int .i64 t111] 34 (0, 0))) ∧ Aside0 (Below w.heap.size w wc))
          case first =>
            have H := HC14.out
            clear HC14
            replace H := Option.bind_eq_some_iff.mp H
            obtain ⟨t114, A220, H⟩ := H
            replace H : (if t114 = true then ((prefix_Of.f a0_0 a0_1 a0_2 x108003_1).bind fun bt115 => (kedgelaw02_PrefixChain.j1 k1 t102 x5_1 x6_1 t112 ((!(x108000_1 == bt115.1) || (!(x108001_1 == bt115.2.1) || (!(x108002_1 == bt115.2.2.1)))) || (!(x108003_1 == bt115.2.2.2))) a0_0 a0_1 a0_2 x108000_1 x108001_1 x108002_1 x108003_1 t108 t109 t110 t111)) else (kedgelaw02_PrefixChain.j1 k1 t102 x5_1 x6_1 t112 true a0_0 a0_1 a0_2 x108000_1 x108001_1 x108002_1 x108003_1 t108 t109 t110 t111)) = some r := H
            have A22 := Aside0.mk A220
            clear A220
            by_cases c23 : t114 = true
            · subst c23
              have H1 : ((prefix_Of.f a0_0 a0_1 a0_2 x108003_1).bind fun bt115 => (kedgelaw02_PrefixChain.j1 k1 t102 x5_1 x6_1 t112 ((!(x108000_1 == bt115.1) || (!(x108001_1 == bt115.2.1) || (!(x108002_1 == bt115.2.2.1)))) || (!(x108003_1 == bt115.2.2.2))) a0_0 a0_1 a0_2 x108000_1 x108001_1 x108002_1 x108003_1 t108 t109 t110 t111)) = some r := by rw [if_pos rfl] at H; exact H
              clear H
              have H := H1
              clear H1
              replace H := Option.bind_eq_some_iff.mp H
              obtain ⟨⟨t115, t116, t117, t118⟩, A240, H⟩ := H
              replace H : (kedgelaw02_PrefixChain.j1 k1 t102 x5_1 x6_1 t112 ((!(x108000_1 == t115) || (!(x108001_1 == t116) || (!(x108002_1 == t117)))) || (!(x108003_1 == t118))) a0_0 a0_1 a0_2 x108000_1 x108001_1 x108002_1 x108003_1 t108 t109 t110 t111) = some r := H
              have A24 := Aside0.mk A240
              clear A240
              have H' := Aside0.mk H
              clear H
              try go_wp2
              have n0_ : Aside0 (((((w18.setCell ⟨gb113, 0, none⟩ (.int .u64 t108)).setCell ⟨gb113, 1, none⟩ (.int .u64 t109)).setCell ⟨gb113, 2, none⟩ (.bool t110)).setCell ⟨gb113, 3, none⟩ (.int .i64 t111)).heap[gb101]? = some (.cells #[.int .u64 a0_0, .int .u64 a0_1, .bool a0_2] 24 (0, 0))) := ⟨by (with_reducible repeat (first | refine blk_drewN ?_ _ | refine blk_drew ?_ | refine blk_alloc ?_ _)); refine blk_far ?_ NB101_113.out _; (with_reducible repeat (first | refine blk_drewN ?_ _ | refine blk_drew ?_ | refine blk_alloc ?_ _)); refine blk_far ?_ NB101_113.out _; (with_reducible repeat (first | refine blk_drewN ?_ _ | refine blk_drew ?_ | refine blk_alloc ?_ _)); refine blk_far ?_ NB101_113.out _; (with_reducible repeat (first | refine blk_drewN ?_ _ | refine blk_drew ?_ | refine blk_alloc ?_ _)); refine blk_far ?_ NB101_113.out _; (with_reducible repeat (first | refine blk_drewN ?_ _ | refine blk_drew ?_ | refine blk_alloc ?_ _)); exact BK101.out⟩
              have n1_ : Aside0 (((((w18.setCell ⟨gb113, 0, none⟩ (.int .u64 t108)).setCell ⟨gb113, 1, none⟩ (.int .u64 t109)).setCell ⟨gb113, 2, none⟩ (.bool t110)).setCell ⟨gb113, 3, none⟩ (.int .i64 t111)).heap[gb107]? = some (.cells #[.int .u64 x108000_1, .int .u64 x108001_1, .bool x108002_1, .int .i64 x108003_1] 34 (0, 0))) := ⟨by (with_reducible repeat (first | refine blk_drewN ?_ _ | refine blk_drew ?_ | refine blk_alloc ?_ _)); refine blk_far ?_ NB107_113.out _; (with_reducible repeat (first | refine blk_drewN ?_ _ | refine blk_drew ?_ | refine blk_alloc ?_ _)); refine blk_far ?_ NB107_113.out _; (with_reducible repeat (first | refine blk_drewN ?_ _ | refine blk_drew ?_ | refine blk_alloc ?_ _)); refine blk_far ?_ NB107_113.out _; (with_reducible repeat (first | refine blk_drewN ?_ _ | refine blk_drew ?_ | refine blk_alloc ?_ _)); refine blk_far ?_ NB107_113.out _; (with_reducible repeat (first | refine blk_drewN ?_ _ | refine blk_drew ?_ | refine blk_alloc ?_ _)); exact BK107.out⟩
              have n2_ : Aside0 (((((w18.setCell ⟨gb113, 0, none⟩ (.int .u64 t108)).setCell ⟨gb113, 1, none⟩ (.int .u64 t109)).setCell ⟨gb113, 2, none⟩ (.bool t110)).setCell ⟨gb113, 3, none⟩ (.int .i64 t111)).heap[gb113]? = some (.cells #[.int .u64 t108, .int .u64 t109, .bool t110, .int .i64 t111] 34 (0, 0))) := ⟨by (with_reducible repeat (first | refine blk_drewN ?_ _ | refine blk_drew ?_ | refine blk_alloc ?_ _)); refine blk_put (cs := #[.int .u64 t108, .int .u64 t109, .bool t110, .int .i64 0]) ?_ 3 _ rfl; (with_reducible repeat (first | refine blk_drewN ?_ _ | refine blk_drew ?_ | refine blk_alloc ?_ _)); refine blk_put (cs := #[.int .u64 t108, .int .u64 t109, .bool false, .int .i64 0]) ?_ 2 _ rfl; (with_reducible repeat (first | refine blk_drewN ?_ _ | refine blk_drew ?_ | refine blk_alloc ?_ _)); refine blk_put (cs := #[.int .u64 t108, .int .u64 0, .bool false, .int .i64 0]) ?_ 1 _ rfl; (with_reducible repeat (first | refine blk_drewN ?_ _ | refine blk_drew ?_ | refine blk_alloc ?_ _)); refine blk_put (cs := #[.int .u64 0, .int .u64 0, .bool false, .int .i64 0]) ?_ 0 _ rfl; (with_reducible repeat (first | refine blk_drewN ?_ _ | refine blk_drew ?_ | refine blk_alloc ?_ _)); exact BK113.out⟩
              have n3_ : Aside0 (Below w.heap.size w ((((w18.setCell ⟨gb113, 0, none⟩ (.int .u64 t108)).setCell ⟨gb113, 1, none⟩ (.int .u64 t109)).setCell ⟨gb113, 2, none⟩ (.bool t110)).setCell ⟨gb113, 3, none⟩ (.int .i64 t111))) := ⟨by repeat (first | (with_reducible first | exact HB.out | apply below_alloc | apply pw_below_drewN | apply below_drew1 | refine below_set ?_ GE101.out | refine below_set ?_ GE107.out | refine below_set ?_ GE113.out) | exact HB.out)⟩
              (try clear BK101)
              (try clear BK107)
              (try clear BK113)
              (try clear HB)
              generalize ((((w18.setCell ⟨gb113, 0, none⟩ (.int .u64 t108)).setCell ⟨gb113, 1, none⟩ (.int .u64 t109)).setCell ⟨gb113, 2, none⟩ (.bool t110)).setCell ⟨gb113, 3, none⟩ (.int .i64 t111)) = w25 at n0_ n1_ n2_ n3_ ⊢
              have BK101 := n0_
              have BK107 := n1_
              have BK113 := n2_
              have HB := n3_
              clear n0_ n1_ n2_ n3_
              have n0_ := Aside0.mk (blk_drew BK101.out)
              have n1_ := Aside0.mk (blk_drew BK107.out)
              have n2_ := Aside0.mk (blk_drew BK113.out)
              have n3_ := Aside0.mk (below_drew1 HB.out)
              clear BK101
              clear BK107
              clear BK113
              clear HB
              have BK101 := n0_
              have BK107 := n1_
              have BK113 := n2_
              have HB := n3_
              clear n0_ n1_ n2_ n3_
              refine start_ (n := 12) (S := fun w' => w'.cell? ⟨gb107, 0, none⟩ = some (.int .u64 x108000_1) ∧ w'.cell? ⟨gb107, 1, none⟩ = some (.int .u64 x108001_1) ∧ w'.cell? ⟨gb107, 2, none⟩ = some (.bool x108002_1) ∧ w'.cell? ⟨gb107, 3, none⟩ = some (.int .i64 x108003_1) ∧ w'.cell? ⟨gb101, 0, none⟩ = some (.int .u64 a0_0) ∧ w'.cell? ⟨gb101, 1, none⟩ = some (.int .u64 a0_1) ∧ w'.cell? ⟨gb101, 2, none⟩ = some (.bool a0_2)) (ds := []) #[false, false, false, false, false, false, false, false, false, false, false, false] (by kernel_rfl) rfl rfl ⟨(blk_cell BK107.out 0).trans rfl, (blk_cell BK107.out 1).trans rfl, (blk_cell BK107.out 2).trans rfl, (blk_cell BK107.out 3).trans rfl, (blk_cell BK101.out 0).trans rfl, (blk_cell BK101.out 1).trans rfl, (blk_cell BK101.out 2).trans rfl⟩ (fun hHeld => ?_); refine with_tabW kedgelaw02_PrefixChain.tab8 kedgelaw02_PrefixChain.bits8 (fun HT_ HW_ => ?_)
              generalize w25.drew = w26 at BK101 BK107 BK113 HB hHeld ⊢
              refine take_ (i := 0) (N := some 21) (v := ?_) (a' := ?_) #[true, false, false, false, false, false, false, false, false, false, false, false] rfl rfl (take_ofW HT_.out HW_.out (by kernel_rfl)) (fun _ _ _ h => h) (Or.inl ⟨by rfl, ?_⟩) hHeld ?_ ?_
              rotate_left
              · rintro w' ⟨s0, s1, s2, s3, s4, s5, s6⟩
                go_simp
                with_reducible rfl
              rotate_left
              · simp only [Act.put, List.setIfInBounds_toArray, List.set_cons_zero, List.set_cons_succ, i64_w, i32_w]
                rfl
              refine take_ (i := 1) (N := some 22) (v := ?_) (a' := ?_) #[true, true, false, false, false, false, false, false, false, false, false, false] rfl rfl (take_ofW HT_.out HW_.out (by kernel_rfl)) (fun _ _ _ h => h) (Or.inl ⟨by rfl, ?_⟩) hHeld ?_ ?_
              rotate_left
              · rintro w' ⟨s0, s1, s2, s3, s4, s5, s6⟩
                go_simp
                with_reducible rfl
              rotate_left
              · simp only [Act.put, List.setIfInBounds_toArray, List.set_cons_zero, List.set_cons_succ, i64_w, i32_w]
                rfl
              refine one_ (i := 2) (N := some 23) #[true, true, true, false, false, false, false, false, false, false, false, false] rfl rfl (one_of HT_.out (by kernel_rfl)) (by decide) (fun K hK => ?_)
              refine goes_ Try.func25 (by kernel_rfl) rfl #[.agg #[.int .u64 x108000_1, .int .u64 x108001_1, .bool x108002_1, .int .i64 x108003_1], .agg #[.int .u64 a0_0, .int .u64 a0_1, .bool a0_2]] (by rfl) rfl rfl (by (try simp only [List.map_toArray, List.map_cons, List.map_nil]); first | done | rfl | (simp only [List.length_drop, List.length_take]; rfl)) ?_
              with_reducible refine (prefix_Contains.calls x108000_1 x108001_1 x108002_1 x108003_1 a0_0 a0_1 a0_2 true _ A22.out).mono ?_
              rintro e w27 ⟨rfl, hb⟩
              refine ⟨_, rfl, ?_⟩
              have n0_ := Aside0.mk (blk_below (g := gb101) (o := .cells #[.int .u64 a0_0, .int .u64 a0_1, .bool a0_2] 24 (0, 0)) (by (with_reducible repeat (first | refine blk_drewN ?_ _ | refine blk_drew ?_ | refine blk_alloc ?_ _)); exact BK101.out) hb)
              have n1_ := Aside0.mk (blk_below (g := gb107) (o := .cells #[.int .u64 x108000_1, .int .u64 x108001_1, .bool x108002_1, .int .i64 x108003_1] 34 (0, 0)) (by (with_reducible repeat (first | refine blk_drewN ?_ _ | refine blk_drew ?_ | refine blk_alloc ?_ _)); exact BK107.out) hb)
              have n2_ := Aside0.mk (blk_below (g := gb113) (o := .cells #[.int .u64 t108, .int .u64 t109, .bool t110, .int .i64 t111] 34 (0, 0)) (by (with_reducible repeat (first | refine blk_drewN ?_ _ | refine blk_drew ?_ | refine blk_alloc ?_ _)); exact BK113.out) hb)
              have n3_ := Aside0.mk (below_step (by repeat (first | (with_reducible first | exact HB.out | apply below_alloc | apply pw_below_drewN | apply below_drew1 | refine below_set ?_ GE101.out | refine below_set ?_ GE107.out | refine below_set ?_ GE113.out) | exact HB.out)) hb)
              clear BK101
              clear BK107
              clear BK113
              clear HB
              have BK101 := n0_
              have BK107 := n1_
              have BK113 := n2_
              have HB := n3_
              clear n0_ n1_ n2_ n3_
              (try clear hb)
              (try clear hb2)
              (try clear hk)
              (try clear hi)
              refine hK.out _ _ ⟨(blk_cell BK107.out 0).trans rfl, (blk_cell BK107.out 1).trans rfl, (blk_cell BK107.out 2).trans rfl, (blk_cell BK107.out 3).trans rfl, (blk_cell BK101.out 0).trans rfl, (blk_cell BK101.out 1).trans rfl, (blk_cell BK101.out 2).trans rfl⟩ (fun hHeld => ?_)
              clear hK K
              refine norm_ (a' := ?_) ?_ ?_
              rotate_left
              · show Act.put _ (some 23) _ = _
                simp only [Act.put, List.setIfInBounds_toArray, List.set_cons_zero, List.set_cons_succ, i64_w, i32_w]
                rfl
              refine pure_ (i := 3) (N := some 24) (v := ?_) (a' := ?_) #[true, true, true, true, false, false, false, false, false, false, false, false] rfl rfl (any_of HT_.out (by kernel_rfl)) (fun _ _ _ h => h) (Or.inl ⟨by rfl, ?_⟩) ?_ ?_
              rotate_left
              · intro w'
                go_simp
                with_reducible rfl
              rotate_left
              · simp only [Act.put, List.setIfInBounds_toArray, List.set_cons_zero, List.set_cons_succ, i64_w, i32_w]
                rfl
              refine pure_ (i := 4) (N := some 25) (v := ?_) (a' := ?_) #[true, true, true, true, true, false, false, false, false, false, false, false] rfl rfl (any_of HT_.out (by kernel_rfl)) (fun _ _ _ h => h) (Or.inl ⟨by rfl, ?_⟩) ?_ ?_
              rotate_left
              · intro w'
                go_simp
                with_reducible rfl
              rotate_left
              · simp only [Act.put, List.setIfInBounds_toArray, List.set_cons_zero, List.set_cons_succ, i64_w, i32_w]
                rfl
              refine pure_ (i := 7) (N := some 28) (v := ?_) (a' := ?_) #[true, true, true, true, true, false, false, true, false, false, false, false] rfl rfl (any_of HT_.out (by kernel_rfl)) (fun _ _ _ h => h) (Or.inl ⟨by rfl, ?_⟩) ?_ ?_
              rotate_left
              · intro w'
                go_simp
                with_reducible rfl
              rotate_left
              · simp only [Act.put, List.setIfInBounds_toArray, List.set_cons_zero, List.set_cons_succ, i64_w, i32_w]
                rfl
              refine take_ (i := 5) (N := some 26) (v := ?_) (a' := ?_) #[true, true, true, true, true, true, false, true, false, false, false, false] rfl rfl (take_ofW HT_.out HW_.out (by kernel_rfl)) (fun _ _ _ h => h) (Or.inl ⟨by rfl, ?_⟩) hHeld ?_ ?_
              rotate_left
              · rintro w' ⟨s0, s1, s2, s3, s4, s5, s6⟩
                go_simp
                with_reducible rfl
              rotate_left
              · simp only [Act.put, List.setIfInBounds_toArray, List.set_cons_zero, List.set_cons_succ, i64_w, i32_w]
                rfl
              refine take_ (i := 6) (N := some 27) (v := ?_) (a' := ?_) #[true, true, true, true, true, true, true, true, false, false, false, false] rfl rfl (take_ofW HT_.out HW_.out (by kernel_rfl)) (fun _ _ _ h => h) (Or.inl ⟨by rfl, ?_⟩) hHeld ?_ ?_
              rotate_left
              · rintro w' ⟨s0, s1, s2, s3, s4, s5, s6⟩
                go_simp
                with_reducible rfl
              rotate_left
              · simp only [Act.put, List.setIfInBounds_toArray, List.set_cons_zero, List.set_cons_succ, i64_w, i32_w]
                rfl
              refine take_ (i := 8) (N := some 29) (v := ?_) (a' := ?_) #[true, true, true, true, true, true, true, true, true, false, false, false] rfl rfl (take_ofW HT_.out HW_.out (by kernel_rfl)) (fun _ _ _ h => h) (Or.inl ⟨by rfl, ?_⟩) hHeld ?_ ?_
              rotate_left
              · rintro w' ⟨s0, s1, s2, s3, s4, s5, s6⟩
                go_simp
                with_reducible rfl
              rotate_left
              · simp only [Act.put, List.setIfInBounds_toArray, List.set_cons_zero, List.set_cons_succ, i64_w, i32_w]
                rfl
              refine one_ (i := 9) (N := some 30) #[true, true, true, true, true, true, true, true, true, true, false, false] rfl rfl (one_of HT_.out (by kernel_rfl)) (by decide) (fun K hK => ?_)
              refine goes_ Try.func23 (by kernel_rfl) rfl #[.agg #[.int .u64 a0_0, .int .u64 a0_1, .bool a0_2], .int .i64 x108003_1] (by rfl) rfl rfl (by (try simp only [List.map_toArray, List.map_cons, List.map_nil]); first | done | rfl | (simp only [List.length_drop, List.length_take]; rfl)) ?_
              with_reducible refine (prefix_Of.calls a0_0 a0_1 a0_2 x108003_1 t115 t116 t117 t118 _ A24.out).mono ?_
              rintro e w28 ⟨rfl, hb⟩
              refine ⟨_, rfl, ?_⟩
              have n0_ := Aside0.mk (blk_below (g := gb101) (o := .cells #[.int .u64 a0_0, .int .u64 a0_1, .bool a0_2] 24 (0, 0)) (by (with_reducible repeat (first | refine blk_drewN ?_ _ | refine blk_drew ?_ | refine blk_alloc ?_ _)); exact BK101.out) hb)
              have n1_ := Aside0.mk (blk_below (g := gb107) (o := .cells #[.int .u64 x108000_1, .int .u64 x108001_1, .bool x108002_1, .int .i64 x108003_1] 34 (0, 0)) (by (with_reducible repeat (first | refine blk_drewN ?_ _ | refine blk_drew ?_ | refine blk_alloc ?_ _)); exact BK107.out) hb)
              have n2_ := Aside0.mk (blk_below (g := gb113) (o := .cells #[.int .u64 t108, .int .u64 t109, .bool t110, .int .i64 t111] 34 (0, 0)) (by (with_reducible repeat (first | refine blk_drewN ?_ _ | refine blk_drew ?_ | refine blk_alloc ?_ _)); exact BK113.out) hb)
              have n3_ := Aside0.mk (below_step (by repeat (first | (with_reducible first | exact HB.out | apply below_alloc | apply pw_below_drewN | apply below_drew1 | refine below_set ?_ GE101.out | refine below_set ?_ GE107.out | refine below_set ?_ GE113.out) | exact HB.out)) hb)
              clear BK101
              clear BK107
              clear BK113
              clear HB
              have BK101 := n0_
              have BK107 := n1_
              have BK113 := n2_
              have HB := n3_
              clear n0_ n1_ n2_ n3_
              (try clear hb)
              (try clear hb2)
              (try clear hk)
              (try clear hi)
              refine hK.out _ _ ⟨(blk_cell BK107.out 0).trans rfl, (blk_cell BK107.out 1).trans rfl, (blk_cell BK107.out 2).trans rfl, (blk_cell BK107.out 3).trans rfl, (blk_cell BK101.out 0).trans rfl, (blk_cell BK101.out 1).trans rfl, (blk_cell BK101.out 2).trans rfl⟩ (fun hHeld => ?_)
              clear hK K
              refine norm_ (a' := ?_) ?_ ?_
              rotate_left
              · show Act.put _ (some 30) _ = _
                simp only [Act.put, List.setIfInBounds_toArray, List.set_cons_zero, List.set_cons_succ, i64_w, i32_w]
                rfl
              refine pure_ (i := 10) (N := some 31) (v := ?_) (a' := ?_) #[true, true, true, true, true, true, true, true, true, true, true, false] rfl rfl (any_of HT_.out (by kernel_rfl)) (fun _ _ _ h => h) (Or.inl ⟨by rfl, ?_⟩) ?_ ?_
              rotate_left
              · intro w'
                go_simp
                with_reducible rfl
              rotate_left
              · simp only [Act.put, List.setIfInBounds_toArray, List.set_cons_zero, List.set_cons_succ, i64_w, i32_w]
                rfl
              refine pure_ (i := 11) (N := some 32) (v := ?_) (a' := ?_) #[true, true, true, true, true, true, true, true, true, true, true, true] rfl rfl (any_of HT_.out (by kernel_rfl)) (fun _ _ _ h => h) (Or.inl ⟨by rfl, ?_⟩) ?_ ?_
              rotate_left
              · intro w'
                go_simp
                with_reducible rfl
              rotate_left
              · simp only [Act.put, List.setIfInBounds_toArray, List.set_cons_zero, List.set_cons_succ, i64_w, i32_w]
                rfl
              refine done_ (done_of HT_.out (by kernel_rfl)) ?_
              try go_wp2
              go_meet
              case rel => exact ⟨_, (((!(x108000_1 == t115) || (!(x108001_1 == t116) || (!(x108002_1 == t117)))) || (!(x108003_1 == t118)))), (by first | rfl | (simp; done) | (simp [*]; done)), H', ⟨by have := HK1.out; first | omega | exact Nat.le_refl _⟩, ⟨by (with_reducible repeat (first | refine blk_drewN ?_ _ | refine blk_drew ?_ | refine blk_alloc ?_ _)); exact BK101.out⟩, ⟨by (with_reducible repeat (first | refine blk_drewN ?_ _ | refine blk_drew ?_ | refine blk_alloc ?_ _)); exact BK107.out⟩, ⟨by (with_reducible repeat (first | refine blk_drewN ?_ _ | refine blk_drew ?_ | refine blk_alloc ?_ _)); exact BK113.out⟩, ⟨by repeat (first | (with_reducible first | exact HB.out | apply below_alloc | apply pw_below_drewN | apply below_drew1 | refine below_set ?_ GE101.out | refine below_set ?_ GE107.out | refine below_set ?_ GE113.out) | exact HB.out)⟩⟩
            · replace c23 := Bool.eq_false_iff.mpr c23
              subst c23
              have H1 : (kedgelaw02_PrefixChain.j1 k1 t102 x5_1 x6_1 t112 true a0_0 a0_1 a0_2 x108000_1 x108001_1 x108002_1 x108003_1 t108 t109 t110 t111) = some r := by rw [if_neg (show ¬ (false = true) by decide)] at H; exact H
              clear H
              have H := H1
              clear H1
              have H' := Aside0.mk H
              clear H
              try go_wp2
              have n0_ : Aside0 (((((w18.setCell ⟨gb113, 0, none⟩ (.int .u64 t108)).setCell ⟨gb113, 1, none⟩ (.int .u64 t109)).setCell ⟨gb113, 2, none⟩ (.bool t110)).setCell ⟨gb113, 3, none⟩ (.int .i64 t111)).heap[gb101]? = some (.cells #[.int .u64 a0_0, .int .u64 a0_1, .bool a0_2] 24 (0, 0))) := ⟨by (with_reducible repeat (first | refine blk_drewN ?_ _ | refine blk_drew ?_ | refine blk_alloc ?_ _)); refine blk_far ?_ NB101_113.out _; (with_reducible repeat (first | refine blk_drewN ?_ _ | refine blk_drew ?_ | refine blk_alloc ?_ _)); refine blk_far ?_ NB101_113.out _; (with_reducible repeat (first | refine blk_drewN ?_ _ | refine blk_drew ?_ | refine blk_alloc ?_ _)); refine blk_far ?_ NB101_113.out _; (with_reducible repeat (first | refine blk_drewN ?_ _ | refine blk_drew ?_ | refine blk_alloc ?_ _)); refine blk_far ?_ NB101_113.out _; (with_reducible repeat (first | refine blk_drewN ?_ _ | refine blk_drew ?_ | refine blk_alloc ?_ _)); exact BK101.out⟩
              have n1_ : Aside0 (((((w18.setCell ⟨gb113, 0, none⟩ (.int .u64 t108)).setCell ⟨gb113, 1, none⟩ (.int .u64 t109)).setCell ⟨gb113, 2, none⟩ (.bool t110)).setCell ⟨gb113, 3, none⟩ (.int .i64 t111)).heap[gb107]? = some (.cells #[.int .u64 x108000_1, .int .u64 x108001_1, .bool x108002_1, .int .i64 x108003_1] 34 (0, 0))) := ⟨by (with_reducible repeat (first | refine blk_drewN ?_ _ | refine blk_drew ?_ | refine blk_alloc ?_ _)); refine blk_far ?_ NB107_113.out _; (with_reducible repeat (first | refine blk_drewN ?_ _ | refine blk_drew ?_ | refine blk_alloc ?_ _)); refine blk_far ?_ NB107_113.out _; (with_reducible repeat (first | refine blk_drewN ?_ _ | refine blk_drew ?_ | refine blk_alloc ?_ _)); refine blk_far ?_ NB107_113.out _; (with_reducible repeat (first | refine blk_drewN ?_ _ | refine blk_drew ?_ | refine blk_alloc ?_ _)); refine blk_far ?_ NB107_113.out _; (with_reducible repeat (first | refine blk_drewN ?_ _ | refine blk_drew ?_ | refine blk_alloc ?_ _)); exact BK107.out⟩
              have n2_ : Aside0 (((((w18.setCell ⟨gb113, 0, none⟩ (.int .u64 t108)).setCell ⟨gb113, 1, none⟩ (.int .u64 t109)).setCell ⟨gb113, 2, none⟩ (.bool t110)).setCell ⟨gb113, 3, none⟩ (.int .i64 t111)).heap[gb113]? = some (.cells #[.int .u64 t108, .int .u64 t109, .bool t110, .int .i64 t111] 34 (0, 0))) := ⟨by (with_reducible repeat (first | refine blk_drewN ?_ _ | refine blk_drew ?_ | refine blk_alloc ?_ _)); refine blk_put (cs := #[.int .u64 t108, .int .u64 t109, .bool t110, .int .i64 0]) ?_ 3 _ rfl; (with_reducible repeat (first | refine blk_drewN ?_ _ | refine blk_drew ?_ | refine blk_alloc ?_ _)); refine blk_put (cs := #[.int .u64 t108, .int .u64 t109, .bool false, .int .i64 0]) ?_ 2 _ rfl; (with_reducible repeat (first | refine blk_drewN ?_ _ | refine blk_drew ?_ | refine blk_alloc ?_ _)); refine blk_put (cs := #[.int .u64 t108, .int .u64 0, .bool false, .int .i64 0]) ?_ 1 _ rfl; (with_reducible repeat (first | refine blk_drewN ?_ _ | refine blk_drew ?_ | refine blk_alloc ?_ _)); refine blk_put (cs := #[.int .u64 0, .int .u64 0, .bool false, .int .i64 0]) ?_ 0 _ rfl; (with_reducible repeat (first | refine blk_drewN ?_ _ | refine blk_drew ?_ | refine blk_alloc ?_ _)); exact BK113.out⟩
              have n3_ : Aside0 (Below w.heap.size w ((((w18.setCell ⟨gb113, 0, none⟩ (.int .u64 t108)).setCell ⟨gb113, 1, none⟩ (.int .u64 t109)).setCell ⟨gb113, 2, none⟩ (.bool t110)).setCell ⟨gb113, 3, none⟩ (.int .i64 t111))) := ⟨by repeat (first | (with_reducible first | exact HB.out | apply below_alloc | apply pw_below_drewN | apply below_drew1 | refine below_set ?_ GE101.out | refine below_set ?_ GE107.out | refine below_set ?_ GE113.out) | exact HB.out)⟩
              (try clear BK101)
              (try clear BK107)
              (try clear BK113)
              (try clear HB)
              generalize ((((w18.setCell ⟨gb113, 0, none⟩ (.int .u64 t108)).setCell ⟨gb113, 1, none⟩ (.int .u64 t109)).setCell ⟨gb113, 2, none⟩ (.bool t110)).setCell ⟨gb113, 3, none⟩ (.int .i64 t111)) = w29 at n0_ n1_ n2_ n3_ ⊢
              have BK101 := n0_
              have BK107 := n1_
              have BK113 := n2_
              have HB := n3_
              clear n0_ n1_ n2_ n3_
              have n0_ := Aside0.mk (blk_drew BK101.out)
              have n1_ := Aside0.mk (blk_drew BK107.out)
              have n2_ := Aside0.mk (blk_drew BK113.out)
              have n3_ := Aside0.mk (below_drew1 HB.out)
              clear BK101
              clear BK107
              clear BK113
              clear HB
              have BK101 := n0_
              have BK107 := n1_
              have BK113 := n2_
              have HB := n3_
              clear n0_ n1_ n2_ n3_
              refine start_ (n := 12) (S := fun w' => w'.cell? ⟨gb107, 0, none⟩ = some (.int .u64 x108000_1) ∧ w'.cell? ⟨gb107, 1, none⟩ = some (.int .u64 x108001_1) ∧ w'.cell? ⟨gb107, 2, none⟩ = some (.bool x108002_1) ∧ w'.cell? ⟨gb107, 3, none⟩ = some (.int .i64 x108003_1) ∧ w'.cell? ⟨gb101, 0, none⟩ = some (.int .u64 a0_0) ∧ w'.cell? ⟨gb101, 1, none⟩ = some (.int .u64 a0_1) ∧ w'.cell? ⟨gb101, 2, none⟩ = some (.bool a0_2)) (ds := []) #[false, false, false, false, false, false, false, false, false, false, false, false] (by kernel_rfl) rfl rfl ⟨(blk_cell BK107.out 0).trans rfl, (blk_cell BK107.out 1).trans rfl, (blk_cell BK107.out 2).trans rfl, (blk_cell BK107.out 3).trans rfl, (blk_cell BK101.out 0).trans rfl, (blk_cell BK101.out 1).trans rfl, (blk_cell BK101.out 2).trans rfl⟩ (fun hHeld => ?_); refine with_tabW kedgelaw02_PrefixChain.tab8 kedgelaw02_PrefixChain.bits8 (fun HT_ HW_ => ?_)
              generalize w29.drew = w30 at BK101 BK107 BK113 HB hHeld ⊢
              refine take_ (i := 0) (N := some 21) (v := ?_) (a' := ?_) #[true, false, false, false, false, false, false, false, false, false, false, false] rfl rfl (take_ofW HT_.out HW_.out (by kernel_rfl)) (fun _ _ _ h => h) (Or.inl ⟨by rfl, ?_⟩) hHeld ?_ ?_
              rotate_left
              · rintro w' ⟨s0, s1, s2, s3, s4, s5, s6⟩
                go_simp
                with_reducible rfl
              rotate_left
              · simp only [Act.put, List.setIfInBounds_toArray, List.set_cons_zero, List.set_cons_succ, i64_w, i32_w]
                rfl
              refine take_ (i := 1) (N := some 22) (v := ?_) (a' := ?_) #[true, true, false, false, false, false, false, false, false, false, false, false] rfl rfl (take_ofW HT_.out HW_.out (by kernel_rfl)) (fun _ _ _ h => h) (Or.inl ⟨by rfl, ?_⟩) hHeld ?_ ?_
              rotate_left
              · rintro w' ⟨s0, s1, s2, s3, s4, s5, s6⟩
                go_simp
                with_reducible rfl
              rotate_left
              · simp only [Act.put, List.setIfInBounds_toArray, List.set_cons_zero, List.set_cons_succ, i64_w, i32_w]
                rfl
              refine one_ (i := 2) (N := some 23) #[true, true, true, false, false, false, false, false, false, false, false, false] rfl rfl (one_of HT_.out (by kernel_rfl)) (by decide) (fun K hK => ?_)
              refine goes_ Try.func25 (by kernel_rfl) rfl #[.agg #[.int .u64 x108000_1, .int .u64 x108001_1, .bool x108002_1, .int .i64 x108003_1], .agg #[.int .u64 a0_0, .int .u64 a0_1, .bool a0_2]] (by rfl) rfl rfl (by (try simp only [List.map_toArray, List.map_cons, List.map_nil]); first | done | rfl | (simp only [List.length_drop, List.length_take]; rfl)) ?_
              with_reducible refine (prefix_Contains.calls x108000_1 x108001_1 x108002_1 x108003_1 a0_0 a0_1 a0_2 false _ A22.out).mono ?_
              rintro e w31 ⟨rfl, hb⟩
              refine ⟨_, rfl, ?_⟩
              have n0_ := Aside0.mk (blk_below (g := gb101) (o := .cells #[.int .u64 a0_0, .int .u64 a0_1, .bool a0_2] 24 (0, 0)) (by (with_reducible repeat (first | refine blk_drewN ?_ _ | refine blk_drew ?_ | refine blk_alloc ?_ _)); exact BK101.out) hb)
              have n1_ := Aside0.mk (blk_below (g := gb107) (o := .cells #[.int .u64 x108000_1, .int .u64 x108001_1, .bool x108002_1, .int .i64 x108003_1] 34 (0, 0)) (by (with_reducible repeat (first | refine blk_drewN ?_ _ | refine blk_drew ?_ | refine blk_alloc ?_ _)); exact BK107.out) hb)
              have n2_ := Aside0.mk (blk_below (g := gb113) (o := .cells #[.int .u64 t108, .int .u64 t109, .bool t110, .int .i64 t111] 34 (0, 0)) (by (with_reducible repeat (first | refine blk_drewN ?_ _ | refine blk_drew ?_ | refine blk_alloc ?_ _)); exact BK113.out) hb)
              have n3_ := Aside0.mk (below_step (by repeat (first | (with_reducible first | exact HB.out | apply below_alloc | apply pw_below_drewN | apply below_drew1 | refine below_set ?_ GE101.out | refine below_set ?_ GE107.out | refine below_set ?_ GE113.out) | exact HB.out)) hb)
              clear BK101
              clear BK107
              clear BK113
              clear HB
              have BK101 := n0_
              have BK107 := n1_
              have BK113 := n2_
              have HB := n3_
              clear n0_ n1_ n2_ n3_
              (try clear hb)
              (try clear hb2)
              (try clear hk)
              (try clear hi)
              refine hK.out _ _ ⟨(blk_cell BK107.out 0).trans rfl, (blk_cell BK107.out 1).trans rfl, (blk_cell BK107.out 2).trans rfl, (blk_cell BK107.out 3).trans rfl, (blk_cell BK101.out 0).trans rfl, (blk_cell BK101.out 1).trans rfl, (blk_cell BK101.out 2).trans rfl⟩ (fun hHeld => ?_)
              clear hK K
              refine norm_ (a' := ?_) ?_ ?_
              rotate_left
              · show Act.put _ (some 23) _ = _
                simp only [Act.put, List.setIfInBounds_toArray, List.set_cons_zero, List.set_cons_succ, i64_w, i32_w]
                rfl
              refine pure_ (i := 3) (N := some 24) (v := ?_) (a' := ?_) #[true, true, true, true, false, false, false, false, false, false, false, false] rfl rfl (any_of HT_.out (by kernel_rfl)) (fun _ _ _ h => h) (Or.inl ⟨by rfl, ?_⟩) ?_ ?_
              rotate_left
              · intro w'
                go_simp
                with_reducible rfl
              rotate_left
              · simp only [Act.put, List.setIfInBounds_toArray, List.set_cons_zero, List.set_cons_succ, i64_w, i32_w]
                rfl
              refine pure_ (i := 4) (N := some 25) (v := ?_) (a' := ?_) #[true, true, true, true, true, false, false, false, false, false, false, false] rfl rfl (any_of HT_.out (by kernel_rfl)) (fun _ _ _ h => h) (Or.inl ⟨by rfl, ?_⟩) ?_ ?_
              rotate_left
              · intro w'
                go_simp
                with_reducible rfl
              rotate_left
              · simp only [Act.put, List.setIfInBounds_toArray, List.set_cons_zero, List.set_cons_succ, i64_w, i32_w]
                rfl
              refine pure_ (i := 5) (N := some 26) (v := undef) (a' := ?_) #[true, true, true, true, true, true, false, false, false, false, false, false] rfl rfl (any_of HT_.out (by kernel_rfl)) (fun _ _ _ h => h) (Or.inr ⟨by rfl, rfl⟩) ?_ ?_
              rotate_left
              · simp only [Act.put, List.setIfInBounds_toArray, List.set_cons_zero, List.set_cons_succ, i64_w, i32_w]
                rfl
              refine pure_ (i := 6) (N := some 27) (v := undef) (a' := ?_) #[true, true, true, true, true, true, true, false, false, false, false, false] rfl rfl (any_of HT_.out (by kernel_rfl)) (fun _ _ _ h => h) (Or.inr ⟨by rfl, rfl⟩) ?_ ?_
              rotate_left
              · simp only [Act.put, List.setIfInBounds_toArray, List.set_cons_zero, List.set_cons_succ, i64_w, i32_w]
                rfl
              refine pure_ (i := 7) (N := some 28) (v := undef) (a' := ?_) #[true, true, true, true, true, true, true, true, false, false, false, false] rfl rfl (any_of HT_.out (by kernel_rfl)) (fun _ _ _ h => h) (Or.inr ⟨by rfl, rfl⟩) ?_ ?_
              rotate_left
              · simp only [Act.put, List.setIfInBounds_toArray, List.set_cons_zero, List.set_cons_succ, i64_w, i32_w]
                rfl
              refine pure_ (i := 8) (N := some 29) (v := undef) (a' := ?_) #[true, true, true, true, true, true, true, true, true, false, false, false] rfl rfl (any_of HT_.out (by kernel_rfl)) (fun _ _ _ h => h) (Or.inr ⟨by rfl, rfl⟩) ?_ ?_
              rotate_left
              · simp only [Act.put, List.setIfInBounds_toArray, List.set_cons_zero, List.set_cons_succ, i64_w, i32_w]
                rfl
              refine pure_ (i := 9) (N := some 30) (v := undef) (a' := ?_) #[true, true, true, true, true, true, true, true, true, true, false, false] rfl rfl (any_of HT_.out (by kernel_rfl)) (fun _ _ _ h => h) (Or.inr ⟨by rfl, rfl⟩) ?_ ?_
              rotate_left
              · simp only [Act.put, List.setIfInBounds_toArray, List.set_cons_zero, List.set_cons_succ, i64_w, i32_w]
                rfl
              refine pure_ (i := 10) (N := some 31) (v := undef) (a' := ?_) #[true, true, true, true, true, true, true, true, true, true, true, false] rfl rfl (any_of HT_.out (by kernel_rfl)) (fun _ _ _ h => h) (Or.inr ⟨by rfl, rfl⟩) ?_ ?_
              rotate_left
              · simp only [Act.put, List.setIfInBounds_toArray, List.set_cons_zero, List.set_cons_succ, i64_w, i32_w]
                rfl
              refine pure_ (i := 11) (N := some 32) (v := ?_) (a' := ?_) #[true, true, true, true, true, true, true, true, true, true, true, true] rfl rfl (any_of HT_.out (by kernel_rfl)) (fun _ _ _ h => h) (Or.inl ⟨by rfl, ?_⟩) ?_ ?_
              rotate_left
              · intro w'
                go_simp
                with_reducible rfl
              rotate_left
              · simp only [Act.put, List.setIfInBounds_toArray, List.set_cons_zero, List.set_cons_succ, i64_w, i32_w]
                rfl
              refine done_ (done_of HT_.out (by kernel_rfl)) ?_
              try go_wp2
              go_meet
              case rel => exact ⟨_, (true), (by first | rfl | (simp; done) | (simp [*]; done)), H', ⟨by have := HK1.out; first | omega | exact Nat.le_refl _⟩, ⟨by (with_reducible repeat (first | refine blk_drewN ?_ _ | refine blk_drew ?_ | refine blk_alloc ?_ _)); exact BK101.out⟩, ⟨by (with_reducible repeat (first | refine blk_drewN ?_ _ | refine blk_drew ?_ | refine blk_alloc ?_ _)); exact BK107.out⟩, ⟨by (with_reducible repeat (first | refine blk_drewN ?_ _ | refine blk_drew ?_ | refine blk_alloc ?_ _)); exact BK113.out⟩, ⟨by repeat (first | (with_reducible first | exact HB.out | apply below_alloc | apply pw_below_drewN | apply below_drew1 | refine below_set ?_ GE101.out | refine below_set ?_ GE107.out | refine below_set ?_ GE113.out) | exact HB.out)⟩⟩
          case rest =>
            clear HC14
            try clear c1
            try clear c2
            try clear p2
            try clear c5
            try clear c10
            try clear c12
            try clear c12b0
            try clear c15
            try clear c19
            try clear c20
            try clear c22
            try clear c23
            try clear c24
            try clear c25
            try clear hcz11_0
            try clear hcz11_1
            try clear hcz11_2
            try clear hcz11_3
            try clear hcz16_0
            try clear hcz16_1
            try clear hcz16_2
            try clear hcz16_3
            try clear hcz21_0
            try clear hcz21_1
            try clear hcz21_2
            try clear hcz21_3
            try clear hcz7_0
            try clear hcz7_1
            try clear hcz7_2
            try clear hfz11_0
            try clear hfz11_1
            try clear hfz11_2
            try clear hfz11_3
            try clear hfz16_0
            try clear hfz16_1
            try clear hfz16_2
            try clear hfz16_3
            try clear hfz21_0
            try clear hfz21_1
            try clear hfz21_2
            try clear hfz21_3
            try clear hfz7_0
            try clear hfz7_1
            try clear hfz7_2
            try clear p2
            obtain ⟨kq, x32_13, rfl, HA, HJ13, BK101, BK107, BK113, HB⟩ := hcut
            cases kq with
            | zero => exact absurd HA.out (by simp [kedgelaw02_PrefixChain.j1])
            | succ kj13 =>
              have H := HA.out
              clear HA
              simp only [kedgelaw02_PrefixChain.j1] at H
              by_cases c32 : x32_13 = true
              · subst c32
                have H1 : (some false) = some r := by rw [if_pos rfl] at H; exact H
                clear H
                have H := H1
                clear H1
                obtain rfl := Option.some.inj H
                go_wp2
                go_ret
                exact ⟨by first | rfl | (simp [errW_none, errW_some] <;> rfl) | (simp [*, errW_none, errW_some] <;> rfl), by repeat (first | (with_reducible first | exact HB.out | apply below_alloc | apply pw_below_drewN | apply below_drew1 | refine below_set ?_ GE101.out | refine below_set ?_ GE107.out | refine below_set ?_ GE113.out) | exact HB.out)⟩
              · replace c32 := Bool.eq_false_iff.mpr c32
                subst c32
                have H1 : (if t112 = true then ((prefix_Inside.f kj13 t108 t109 t110 t111 x108000_1 x108001_1 x108002_1 x108003_1).bind fun t119 => (if t119 = true then (if t111 = (wrap64 (x108003_1 - 1)) then (kedgelaw02_PrefixChain.l0 kj13 t102 (wrap64 (x5_1 + 1)) (wrap64 (x6_1 + 1)) a0_0 a0_1 a0_2 t108 t109 t110 t111) else (some false)) else (some false))) else (kedgelaw02_PrefixChain.j2 kj13 t102 x5_1 a0_0 a0_1 a0_2 x108000_1 x108001_1 x108002_1 x108003_1)) = some r := by rw [if_neg (show ¬ (false = true) by decide)] at H; exact H
                clear H
                have H := H1
                clear H1
                by_cases c33 : t112 = true
                · subst c33
                  have H1 : ((prefix_Inside.f kj13 t108 t109 t110 t111 x108000_1 x108001_1 x108002_1 x108003_1).bind fun t119 => (if t119 = true then (if t111 = (wrap64 (x108003_1 - 1)) then (kedgelaw02_PrefixChain.l0 kj13 t102 (wrap64 (x5_1 + 1)) (wrap64 (x6_1 + 1)) a0_0 a0_1 a0_2 t108 t109 t110 t111) else (some false)) else (some false))) = some r := by rw [if_pos rfl] at H; exact H
                  clear H
                  have H := H1
                  clear H1
                  replace H := Option.bind_eq_some_iff.mp H
                  obtain ⟨t119, A340, H⟩ := H
                  replace H : (if t119 = true then (if t111 = (wrap64 (x108003_1 - 1)) then (kedgelaw02_PrefixChain.l0 kj13 t102 (wrap64 (x5_1 + 1)) (wrap64 (x6_1 + 1)) a0_0 a0_1 a0_2 t108 t109 t110 t111) else (some false)) else (some false)) = some r := H
                  have A34 := Aside0.mk A340
                  clear A340
                  by_cases c35 : t119 = true
                  · subst c35
                    have H1 : (if t111 = (wrap64 (x108003_1 - 1)) then (kedgelaw02_PrefixChain.l0 kj13 t102 (wrap64 (x5_1 + 1)) (wrap64 (x6_1 + 1)) a0_0 a0_1 a0_2 t108 t109 t110 t111) else (some false)) = some r := by rw [if_pos rfl] at H; exact H
                    clear H
                    have H := H1
                    clear H1
                    by_cases c36 : t111 = (wrap64 (x108003_1 - 1))
                    · rw [if_pos c36] at H
                      have c36b0 : (t111 == (wrap64 (x108003_1 - 1))) = true := beq_iff_eq.mpr c36
                      have c36b1 : (t111 != (wrap64 (x108003_1 - 1))) = false := bne_eq_false_iff_eq.mpr c36
                      clear c36
                      have H' := Aside0.mk H
                      clear H
                      have hnb37 := NB113_101.out
                      have hnc37 := NB101_113.out
                      have hnb38 := NB113_107.out
                      have hnc38 := NB107_113.out
                      have hcz39_0 : wc.cell? ⟨gb113, 0, none⟩ = some (.int .u64 t108) := (blk_cell BK113.out 0).trans rfl
                      have hcz39_1 : wc.cell? ⟨gb113, 1, none⟩ = some (.int .u64 t109) := (blk_cell BK113.out 1).trans rfl
                      have hcz39_2 : wc.cell? ⟨gb113, 2, none⟩ = some (.bool t110) := (blk_cell BK113.out 2).trans rfl
                      have hcz39_3 : wc.cell? ⟨gb113, 3, none⟩ = some (.int .i64 t111) := (blk_cell BK113.out 3).trans rfl
                      have hfz39_0 := blk_frozen BK113.out 0
                      have hfz39_1 := blk_frozen BK113.out 1
                      have hfz39_2 := blk_frozen BK113.out 2
                      have hfz39_3 := blk_frozen BK113.out 3
                      have hnb40 := NB107_101.out
                      have hnc40 := NB101_107.out
                      have hcz41_0 : wc.cell? ⟨gb107, 0, none⟩ = some (.int .u64 x108000_1) := (blk_cell BK107.out 0).trans rfl
                      have hcz41_1 : wc.cell? ⟨gb107, 1, none⟩ = some (.int .u64 x108001_1) := (blk_cell BK107.out 1).trans rfl
                      have hcz41_2 : wc.cell? ⟨gb107, 2, none⟩ = some (.bool x108002_1) := (blk_cell BK107.out 2).trans rfl
                      have hcz41_3 : wc.cell? ⟨gb107, 3, none⟩ = some (.int .i64 x108003_1) := (blk_cell BK107.out 3).trans rfl
                      have hfz41_0 := blk_frozen BK107.out 0
                      have hfz41_1 := blk_frozen BK107.out 1
                      have hfz41_2 := blk_frozen BK107.out 2
                      have hfz41_3 := blk_frozen BK107.out 3
                      go_wp2_with (first | ((with_reducible refine gate_callee (f := 26) rfl ?_); refine goesL_ (some 37) rfl rfl Try.func26 (by kernel_rfl) rfl #[.agg #[.int .u64 t108, .int .u64 t109, .bool t110, .int .i64 t111], .agg #[.int .u64 x108000_1, .int .u64 x108001_1, .bool x108002_1, .int .i64 x108003_1]] rfl (by (try simp only [List.map_toArray, List.map_cons, List.map_nil]); first | done | rfl | (simp only [List.length_drop, List.length_take]; rfl)) ?_; (with_reducible refine (prefix_Inside.calls kj13 t108 t109 t110 t111 x108000_1 x108001_1 x108002_1 x108003_1 true _ A34.out).mono ?_); rintro e w42 ⟨rfl, hb⟩; refine ⟨_, rfl, ?_⟩; have n0_ := Aside0.mk (blk_below (g := gb101) (o := .cells #[.int .u64 a0_0, .int .u64 a0_1, .bool a0_2] 24 (0, 0)) (by (with_reducible repeat (first | refine blk_drewN ?_ _ | refine blk_drew ?_ | refine blk_alloc ?_ _)); exact BK101.out) hb); have n1_ := Aside0.mk (blk_below (g := gb107) (o := .cells #[.int .u64 x108000_1, .int .u64 x108001_1, .bool x108002_1, .int .i64 x108003_1] 34 (0, 0)) (by (with_reducible repeat (first | refine blk_drewN ?_ _ | refine blk_drew ?_ | refine blk_alloc ?_ _)); exact BK107.out) hb); have n2_ := Aside0.mk (blk_below (g := gb113) (o := .cells #[.int .u64 t108, .int .u64 t109, .bool t110, .int .i64 t111] 34 (0, 0)) (by (with_reducible repeat (first | refine blk_drewN ?_ _ | refine blk_drew ?_ | refine blk_alloc ?_ _)); exact BK113.out) hb); have n3_ := Aside0.mk (below_step (by repeat (first | (with_reducible first | exact HB.out | apply below_alloc | apply pw_below_drewN | apply below_drew1 | refine below_set ?_ GE101.out | refine below_set ?_ GE107.out | refine below_set ?_ GE113.out) | exact HB.out)) hb); clear BK101; clear BK107; clear BK113; clear HB; have BK101 := n0_; have BK107 := n1_; have BK113 := n2_; have HB := n3_; clear n0_ n1_ n2_ n3_; (try clear hb); (try clear hb2); (try clear hk); (try clear hi); have hcz43_0 : w42.cell? ⟨gb113, 0, none⟩ = some (.int .u64 t108) := (blk_cell BK113.out 0).trans rfl; have hcz43_1 : w42.cell? ⟨gb113, 1, none⟩ = some (.int .u64 t109) := (blk_cell BK113.out 1).trans rfl; have hcz43_2 : w42.cell? ⟨gb113, 2, none⟩ = some (.bool t110) := (blk_cell BK113.out 2).trans rfl; have hcz43_3 : w42.cell? ⟨gb113, 3, none⟩ = some (.int .i64 t111) := (blk_cell BK113.out 3).trans rfl; have hfz43_0 := blk_frozen BK113.out 0; have hfz43_1 := blk_frozen BK113.out 1; have hfz43_2 := blk_frozen BK113.out 2; have hfz43_3 := blk_frozen BK113.out 3; have hcz44_0 : w42.cell? ⟨gb107, 0, none⟩ = some (.int .u64 x108000_1) := (blk_cell BK107.out 0).trans rfl; have hcz44_1 : w42.cell? ⟨gb107, 1, none⟩ = some (.int .u64 x108001_1) := (blk_cell BK107.out 1).trans rfl; have hcz44_2 : w42.cell? ⟨gb107, 2, none⟩ = some (.bool x108002_1) := (blk_cell BK107.out 2).trans rfl; have hcz44_3 : w42.cell? ⟨gb107, 3, none⟩ = some (.int .i64 x108003_1) := (blk_cell BK107.out 3).trans rfl; have hfz44_0 := blk_frozen BK107.out 0; have hfz44_1 := blk_frozen BK107.out 1; have hfz44_2 := blk_frozen BK107.out 2; have hfz44_3 := blk_frozen BK107.out 3))
                      go_roundg kj13
                      case measure => have := HK1.out; have := HJ13.out; omega
                      case rel => exact ⟨(wrap64 (x5_1 + 1)), (wrap64 (x6_1 + 1)), (t108), (t109), (t110), (t111), (by first | rfl | (simp; done) | (simp [*]; done)), (by first | rfl | (simp; done) | (simp [*]; done)), H', ⟨by have := HK1.out; have := HJ13.out; omega⟩, ⟨by (with_reducible repeat (first | refine blk_drewN ?_ _ | refine blk_drew ?_ | refine blk_alloc ?_ _)); refine blk_far ?_ NB101_107.out _; (with_reducible repeat (first | refine blk_drewN ?_ _ | refine blk_drew ?_ | refine blk_alloc ?_ _)); refine blk_far ?_ NB101_107.out _; (with_reducible repeat (first | refine blk_drewN ?_ _ | refine blk_drew ?_ | refine blk_alloc ?_ _)); refine blk_far ?_ NB101_107.out _; (with_reducible repeat (first | refine blk_drewN ?_ _ | refine blk_drew ?_ | refine blk_alloc ?_ _)); refine blk_far ?_ NB101_107.out _; (with_reducible repeat (first | refine blk_drewN ?_ _ | refine blk_drew ?_ | refine blk_alloc ?_ _)); exact BK101.out⟩, ⟨by (with_reducible repeat (first | refine blk_drewN ?_ _ | refine blk_drew ?_ | refine blk_alloc ?_ _)); refine blk_put (cs := #[.int .u64 t108, .int .u64 t109, .bool t110, .int .i64 x108003_1]) ?_ 3 _ rfl; (with_reducible repeat (first | refine blk_drewN ?_ _ | refine blk_drew ?_ | refine blk_alloc ?_ _)); refine blk_put (cs := #[.int .u64 t108, .int .u64 t109, .bool x108002_1, .int .i64 x108003_1]) ?_ 2 _ rfl; (with_reducible repeat (first | refine blk_drewN ?_ _ | refine blk_drew ?_ | refine blk_alloc ?_ _)); refine blk_put (cs := #[.int .u64 t108, .int .u64 x108001_1, .bool x108002_1, .int .i64 x108003_1]) ?_ 1 _ rfl; (with_reducible repeat (first | refine blk_drewN ?_ _ | refine blk_drew ?_ | refine blk_alloc ?_ _)); refine blk_put (cs := #[.int .u64 x108000_1, .int .u64 x108001_1, .bool x108002_1, .int .i64 x108003_1]) ?_ 0 _ rfl; (with_reducible repeat (first | refine blk_drewN ?_ _ | refine blk_drew ?_ | refine blk_alloc ?_ _)); exact BK107.out⟩, ⟨by repeat (first | (with_reducible first | exact HB.out | apply below_alloc | apply pw_below_drewN | apply below_drew1 | refine below_set ?_ GE101.out | refine below_set ?_ GE107.out | refine below_set ?_ GE113.out) | exact HB.out)⟩⟩
                    · rw [if_neg c36] at H
                      have c36b0 : (t111 == (wrap64 (x108003_1 - 1))) = false := beq_eq_false_iff_ne.mpr c36
                      have c36b1 : (t111 != (wrap64 (x108003_1 - 1))) = true := bne_iff_ne.mpr c36
                      obtain rfl := Option.some.inj H
                      have hnb45 := NB113_101.out
                      have hnc45 := NB101_113.out
                      have hnb46 := NB113_107.out
                      have hnc46 := NB107_113.out
                      have hcz47_0 : wc.cell? ⟨gb113, 0, none⟩ = some (.int .u64 t108) := (blk_cell BK113.out 0).trans rfl
                      have hcz47_1 : wc.cell? ⟨gb113, 1, none⟩ = some (.int .u64 t109) := (blk_cell BK113.out 1).trans rfl
                      have hcz47_2 : wc.cell? ⟨gb113, 2, none⟩ = some (.bool t110) := (blk_cell BK113.out 2).trans rfl
                      have hcz47_3 : wc.cell? ⟨gb113, 3, none⟩ = some (.int .i64 t111) := (blk_cell BK113.out 3).trans rfl
                      have hfz47_0 := blk_frozen BK113.out 0
                      have hfz47_1 := blk_frozen BK113.out 1
                      have hfz47_2 := blk_frozen BK113.out 2
                      have hfz47_3 := blk_frozen BK113.out 3
                      have hnb48 := NB107_101.out
                      have hnc48 := NB101_107.out
                      have hcz49_0 : wc.cell? ⟨gb107, 0, none⟩ = some (.int .u64 x108000_1) := (blk_cell BK107.out 0).trans rfl
                      have hcz49_1 : wc.cell? ⟨gb107, 1, none⟩ = some (.int .u64 x108001_1) := (blk_cell BK107.out 1).trans rfl
                      have hcz49_2 : wc.cell? ⟨gb107, 2, none⟩ = some (.bool x108002_1) := (blk_cell BK107.out 2).trans rfl
                      have hcz49_3 : wc.cell? ⟨gb107, 3, none⟩ = some (.int .i64 x108003_1) := (blk_cell BK107.out 3).trans rfl
                      have hfz49_0 := blk_frozen BK107.out 0
                      have hfz49_1 := blk_frozen BK107.out 1
                      have hfz49_2 := blk_frozen BK107.out 2
                      have hfz49_3 := blk_frozen BK107.out 3
                      go_wp2_with (first | ((with_reducible refine gate_callee (f := 26) rfl ?_); refine goesL_ (some 37) rfl rfl Try.func26 (by kernel_rfl) rfl #[.agg #[.int .u64 t108, .int .u64 t109, .bool t110, .int .i64 t111], .agg #[.int .u64 x108000_1, .int .u64 x108001_1, .bool x108002_1, .int .i64 x108003_1]] rfl (by (try simp only [List.map_toArray, List.map_cons, List.map_nil]); first | done | rfl | (simp only [List.length_drop, List.length_take]; rfl)) ?_; (with_reducible refine (prefix_Inside.calls kj13 t108 t109 t110 t111 x108000_1 x108001_1 x108002_1 x108003_1 true _ A34.out).mono ?_); rintro e w50 ⟨rfl, hb⟩; refine ⟨_, rfl, ?_⟩; have n0_ := Aside0.mk (blk_below (g := gb101) (o := .cells #[.int .u64 a0_0, .int .u64 a0_1, .bool a0_2] 24 (0, 0)) (by (with_reducible repeat (first | refine blk_drewN ?_ _ | refine blk_drew ?_ | refine blk_alloc ?_ _)); exact BK101.out) hb); have n1_ := Aside0.mk (blk_below (g := gb107) (o := .cells #[.int .u64 x108000_1, .int .u64 x108001_1, .bool x108002_1, .int .i64 x108003_1] 34 (0, 0)) (by (with_reducible repeat (first | refine blk_drewN ?_ _ | refine blk_drew ?_ | refine blk_alloc ?_ _)); exact BK107.out) hb); have n2_ := Aside0.mk (blk_below (g := gb113) (o := .cells #[.int .u64 t108, .int .u64 t109, .bool t110, .int .i64 t111] 34 (0, 0)) (by (with_reducible repeat (first | refine blk_drewN ?_ _ | refine blk_drew ?_ | refine blk_alloc ?_ _)); exact BK113.out) hb); have n3_ := Aside0.mk (below_step (by repeat (first | (with_reducible first | exact HB.out | apply below_alloc | apply pw_below_drewN | apply below_drew1 | refine below_set ?_ GE101.out | refine below_set ?_ GE107.out | refine below_set ?_ GE113.out) | exact HB.out)) hb); clear BK101; clear BK107; clear BK113; clear HB; have BK101 := n0_; have BK107 := n1_; have BK113 := n2_; have HB := n3_; clear n0_ n1_ n2_ n3_; (try clear hb); (try clear hb2); (try clear hk); (try clear hi); have hcz51_0 : w50.cell? ⟨gb113, 0, none⟩ = some (.int .u64 t108) := (blk_cell BK113.out 0).trans rfl; have hcz51_1 : w50.cell? ⟨gb113, 1, none⟩ = some (.int .u64 t109) := (blk_cell BK113.out 1).trans rfl; have hcz51_2 : w50.cell? ⟨gb113, 2, none⟩ = some (.bool t110) := (blk_cell BK113.out 2).trans rfl; have hcz51_3 : w50.cell? ⟨gb113, 3, none⟩ = some (.int .i64 t111) := (blk_cell BK113.out 3).trans rfl; have hfz51_0 := blk_frozen BK113.out 0; have hfz51_1 := blk_frozen BK113.out 1; have hfz51_2 := blk_frozen BK113.out 2; have hfz51_3 := blk_frozen BK113.out 3; have hcz52_0 : w50.cell? ⟨gb107, 0, none⟩ = some (.int .u64 x108000_1) := (blk_cell BK107.out 0).trans rfl; have hcz52_1 : w50.cell? ⟨gb107, 1, none⟩ = some (.int .u64 x108001_1) := (blk_cell BK107.out 1).trans rfl; have hcz52_2 : w50.cell? ⟨gb107, 2, none⟩ = some (.bool x108002_1) := (blk_cell BK107.out 2).trans rfl; have hcz52_3 : w50.cell? ⟨gb107, 3, none⟩ = some (.int .i64 x108003_1) := (blk_cell BK107.out 3).trans rfl; have hfz52_0 := blk_frozen BK107.out 0; have hfz52_1 := blk_frozen BK107.out 1; have hfz52_2 := blk_frozen BK107.out 2; have hfz52_3 := blk_frozen BK107.out 3))
                      go_ret
                      exact ⟨by first | rfl | (simp [errW_none, errW_some] <;> rfl) | (simp [*, errW_none, errW_some] <;> rfl), by repeat (first | (with_reducible first | exact HB.out | apply below_alloc | apply pw_below_drewN | apply below_drew1 | refine below_set ?_ GE101.out | refine below_set ?_ GE107.out | refine below_set ?_ GE113.out) | exact HB.out)⟩
                  · replace c35 := Bool.eq_false_iff.mpr c35
                    subst c35
                    have H1 : (some false) = some r := by rw [if_neg (show ¬ (false = true) by decide)] at H; exact H
                    clear H
                    have H := H1
                    clear H1
                    obtain rfl := Option.some.inj H
                    have hnb53 := NB113_101.out
                    have hnc53 := NB101_113.out
                    have hnb54 := NB113_107.out
                    have hnc54 := NB107_113.out
                    have hcz55_0 : wc.cell? ⟨gb113, 0, none⟩ = some (.int .u64 t108) := (blk_cell BK113.out 0).trans rfl
                    have hcz55_1 : wc.cell? ⟨gb113, 1, none⟩ = some (.int .u64 t109) := (blk_cell BK113.out 1).trans rfl
                    have hcz55_2 : wc.cell? ⟨gb113, 2, none⟩ = some (.bool t110) := (blk_cell BK113.out 2).trans rfl
                    have hcz55_3 : wc.cell? ⟨gb113, 3, none⟩ = some (.int .i64 t111) := (blk_cell BK113.out 3).trans rfl
                    have hfz55_0 := blk_frozen BK113.out 0
                    have hfz55_1 := blk_frozen BK113.out 1
                    have hfz55_2 := blk_frozen BK113.out 2
                    have hfz55_3 := blk_frozen BK113.out 3
                    have hnb56 := NB107_101.out
                    have hnc56 := NB101_107.out
                    have hcz57_0 : wc.cell? ⟨gb107, 0, none⟩ = some (.int .u64 x108000_1) := (blk_cell BK107.out 0).trans rfl
                    have hcz57_1 : wc.cell? ⟨gb107, 1, none⟩ = some (.int .u64 x108001_1) := (blk_cell BK107.out 1).trans rfl
                    have hcz57_2 : wc.cell? ⟨gb107, 2, none⟩ = some (.bool x108002_1) := (blk_cell BK107.out 2).trans rfl
                    have hcz57_3 : wc.cell? ⟨gb107, 3, none⟩ = some (.int .i64 x108003_1) := (blk_cell BK107.out 3).trans rfl
                    have hfz57_0 := blk_frozen BK107.out 0
                    have hfz57_1 := blk_frozen BK107.out 1
                    have hfz57_2 := blk_frozen BK107.out 2
                    have hfz57_3 := blk_frozen BK107.out 3
                    go_wp2_with (first | ((with_reducible refine gate_callee (f := 26) rfl ?_); refine goesL_ (some 37) rfl rfl Try.func26 (by kernel_rfl) rfl #[.agg #[.int .u64 t108, .int .u64 t109, .bool t110, .int .i64 t111], .agg #[.int .u64 x108000_1, .int .u64 x108001_1, .bool x108002_1, .int .i64 x108003_1]] rfl (by (try simp only [List.map_toArray, List.map_cons, List.map_nil]); first | done | rfl | (simp only [List.length_drop, List.length_take]; rfl)) ?_; (with_reducible refine (prefix_Inside.calls kj13 t108 t109 t110 t111 x108000_1 x108001_1 x108002_1 x108003_1 false _ A34.out).mono ?_); rintro e w58 ⟨rfl, hb⟩; refine ⟨_, rfl, ?_⟩; have n0_ := Aside0.mk (blk_below (g := gb101) (o := .cells #[.int .u64 a0_0, .int .u64 a0_1, .bool a0_2] 24 (0, 0)) (by (with_reducible repeat (first | refine blk_drewN ?_ _ | refine blk_drew ?_ | refine blk_alloc ?_ _)); exact BK101.out) hb); have n1_ := Aside0.mk (blk_below (g := gb107) (o := .cells #[.int .u64 x108000_1, .int .u64 x108001_1, .bool x108002_1, .int .i64 x108003_1] 34 (0, 0)) (by (with_reducible repeat (first | refine blk_drewN ?_ _ | refine blk_drew ?_ | refine blk_alloc ?_ _)); exact BK107.out) hb); have n2_ := Aside0.mk (blk_below (g := gb113) (o := .cells #[.int .u64 t108, .int .u64 t109, .bool t110, .int .i64 t111] 34 (0, 0)) (by (with_reducible repeat (first | refine blk_drewN ?_ _ | refine blk_drew ?_ | refine blk_alloc ?_ _)); exact BK113.out) hb); have n3_ := Aside0.mk (below_step (by repeat (first | (with_reducible first | exact HB.out | apply below_alloc | apply pw_below_drewN | apply below_drew1 | refine below_set ?_ GE101.out | refine below_set ?_ GE107.out | refine below_set ?_ GE113.out) | exact HB.out)) hb); clear BK101; clear BK107; clear BK113; clear HB; have BK101 := n0_; have BK107 := n1_; have BK113 := n2_; have HB := n3_; clear n0_ n1_ n2_ n3_; (try clear hb); (try clear hb2); (try clear hk); (try clear hi)))
                    go_ret
                    exact ⟨by first | rfl | (simp [errW_none, errW_some] <;> rfl) | (simp [*, errW_none, errW_some] <;> rfl), by repeat (first | (with_reducible first | exact HB.out | apply below_alloc | apply pw_below_drewN | apply below_drew1 | refine below_set ?_ GE101.out | refine below_set ?_ GE107.out | refine below_set ?_ GE113.out) | exact HB.out)⟩
                · replace c33 := Bool.eq_false_iff.mpr c33
                  subst c33
                  have H1 : (kedgelaw02_PrefixChain.j2 kj13 t102 x5_1 a0_0 a0_1 a0_2 x108000_1 x108001_1 x108002_1 x108003_1) = some r := by rw [if_neg (show ¬ (false = true) by decide)] at H; exact H
                  clear H
                  have H := H1
                  clear H1
                  have H' := Aside0.mk H
                  clear H
                  go_wp2
                  go_meet
                  case rel => exact ⟨_, (x5_1), (x108000_1), (x108001_1), (x108002_1), (x108003_1), (by first | rfl | (simp; done) | (simp [*]; done)), H', ⟨by have := HK1.out; have := HJ13.out; first | omega | exact Nat.le_refl _⟩, ⟨by (with_reducible repeat (first | refine blk_drewN ?_ _ | refine blk_drew ?_ | refine blk_alloc ?_ _)); exact BK101.out⟩, ⟨by (with_reducible repeat (first | refine blk_drewN ?_ _ | refine blk_drew ?_ | refine blk_alloc ?_ _)); exact BK107.out⟩, ⟨by repeat (first | (with_reducible first | exact HB.out | apply below_alloc | apply pw_below_drewN | apply below_drew1 | refine below_set ?_ GE101.out | refine below_set ?_ GE107.out | refine below_set ?_ GE113.out) | exact HB.out)⟩⟩
        · rw [if_neg c12] at H
          have c12b0 : decide (x6_1 < 130) = false := decide_eq_false c12
          clear c12
          (first | rw [c12b0] | (simp only [i64_w, i32_w]; rw [c12b0]) | skip)
          have H' := Aside0.mk H
          clear H
          go_wp2
          go_meet
          case rel => exact ⟨_, (x5_1), (x108000_1), (x108001_1), (x108002_1), (x108003_1), (by first | rfl | (simp; done) | (simp [*]; done)), H', ⟨by have := HK1.out; first | omega | exact Nat.le_refl _⟩, ⟨by (with_reducible repeat (first | refine blk_drewN ?_ _ | refine blk_drew ?_ | refine blk_alloc ?_ _)); exact BK101.out⟩, ⟨by (with_reducible repeat (first | refine blk_drewN ?_ _ | refine blk_drew ?_ | refine blk_alloc ?_ _)); exact BK107.out⟩, ⟨by repeat (first | (with_reducible first | exact HB.out | apply below_alloc | apply pw_below_drewN | apply below_drew1 | refine below_set ?_ GE101.out | refine below_set ?_ GE107.out) | exact HB.out)⟩⟩
  case rest =>
    clear HC4
    try clear c1
    try clear c2
    try clear p2
    try clear c3
    try clear c4
    try clear c5
    try clear p6
    try clear c10
    try clear c12
    try clear c12b0
    try clear c15
    try clear c19
    try clear c20
    try clear c22
    try clear c23
    try clear c24
    try clear c25
    try clear c26
    try clear c32
    try clear c33
    try clear c35
    try clear c36
    try clear c36b0
    try clear c36b1
    try clear c37
    try clear c38
    try clear c40
    try clear c45
    try clear c46
    try clear c48
    try clear c53
    try clear c54
    try clear c56
    try clear hcz11_0
    try clear hcz11_1
    try clear hcz11_2
    try clear hcz11_3
    try clear hcz16_0
    try clear hcz16_1
    try clear hcz16_2
    try clear hcz16_3
    try clear hcz21_0
    try clear hcz21_1
    try clear hcz21_2
    try clear hcz21_3
    try clear hcz39_0
    try clear hcz39_1
    try clear hcz39_2
    try clear hcz39_3
    try clear hcz41_0
    try clear hcz41_1
    try clear hcz41_2
    try clear hcz41_3
    try clear hcz43_0
    try clear hcz43_1
    try clear hcz43_2
    try clear hcz43_3
    try clear hcz44_0
    try clear hcz44_1
    try clear hcz44_2
    try clear hcz44_3
    try clear hcz47_0
    try clear hcz47_1
    try clear hcz47_2
    try clear hcz47_3
    try clear hcz49_0
    try clear hcz49_1
    try clear hcz49_2
    try clear hcz49_3
    try clear hcz51_0
    try clear hcz51_1
    try clear hcz51_2
    try clear hcz51_3
    try clear hcz52_0
    try clear hcz52_1
    try clear hcz52_2
    try clear hcz52_3
    try clear hcz55_0
    try clear hcz55_1
    try clear hcz55_2
    try clear hcz55_3
    try clear hcz57_0
    try clear hcz57_1
    try clear hcz57_2
    try clear hcz57_3
    try clear hcz7_0
    try clear hcz7_1
    try clear hcz7_2
    try clear hfz11_0
    try clear hfz11_1
    try clear hfz11_2
    try clear hfz11_3
    try clear hfz16_0
    try clear hfz16_1
    try clear hfz16_2
    try clear hfz16_3
    try clear hfz21_0
    try clear hfz21_1
    try clear hfz21_2
    try clear hfz21_3
    try clear hfz39_0
    try clear hfz39_1
    try clear hfz39_2
    try clear hfz39_3
    try clear hfz41_0
    try clear hfz41_1
    try clear hfz41_2
    try clear hfz41_3
    try clear hfz43_0
    try clear hfz43_1
    try clear hfz43_2
    try clear hfz43_3
    try clear hfz44_0
    try clear hfz44_1
    try clear hfz44_2
    try clear hfz44_3
    try clear hfz47_0
    try clear hfz47_1
    try clear hfz47_2
    try clear hfz47_3
    try clear hfz49_0
    try clear hfz49_1
    try clear hfz49_2
    try clear hfz49_3
    try clear hfz51_0
    try clear hfz51_1
    try clear hfz51_2
    try clear hfz51_3
    try clear hfz52_0
    try clear hfz52_1
    try clear hfz52_2
    try clear hfz52_3
    try clear hfz55_0
    try clear hfz55_1
    try clear hfz55_2
    try clear hfz55_3
    try clear hfz57_0
    try clear hfz57_1
    try clear hfz57_2
    try clear hfz57_3
    try clear hfz7_0
    try clear hfz7_1
    try clear hfz7_2
    try clear p2
    obtain ⟨kq, x5_3, x108000_3, x108001_3, x108002_3, x108003_3, rfl, HA, HJ3, BK101, BK107, HB⟩ := hcut
    cases kq with
    | zero => exact absurd HA.out (by simp [kedgelaw02_PrefixChain.j2])
    | succ kj3 =>
      have H := HA.out
      clear HA
      simp only [kedgelaw02_PrefixChain.j2] at H
      have HC59 := Aside0.mk H
      clear H
      go_upto_region 15 with (fail)
      go_cut [2] (fun v2 wc => ∃ (kq : Nat) (x2_58 : Bool), v2 = .bool x2_58 ∧ Aside0 (kedgelaw02_PrefixChain.j3 kq x2_58 = some r) ∧ Aside0 (kq ≤ kj3) ∧ Aside0 (wc.heap[gb101]? = some (.cells #[.int .u64 a0_0, .int .u64 a0_1, .bool a0_2] 24 (0, 0))) ∧ Aside0 (wc.heap[gb107]? = some (.cells #[.int .u64 x108000_3, .int .u64 x108001_3, .bool x108002_3, .int .i64 x108003_3] 34 (0, 0))) ∧ Aside0 (Below w.heap.size w wc))
      case first =>
        have H := HC59.out
        clear HC59
        by_cases c60 : t102 = true
        · subst c60
          have H1 : (if x108003_3 = 0 then ((addr_Width.f a0_2).bind fun t120 => (kedgelaw02_PrefixChain.j3 kj3 (x5_3 == t120))) else (kedgelaw02_PrefixChain.j3 kj3 false)) = some r := by rw [if_pos rfl] at H; exact H
          clear H
          have H := H1
          clear H1
          by_cases c61 : x108003_3 = 0
          · rw [if_pos c61] at H
            have c61b0 : (x108003_3 == 0) = true := beq_iff_eq.mpr c61
            have c61b1 : (x108003_3 != 0) = false := bne_eq_false_iff_eq.mpr c61
            clear c61
            (first | rw [c61b0] | (simp only [i64_w, i32_w]; rw [c61b0]) | skip)
            replace H := Option.bind_eq_some_iff.mp H
            obtain ⟨t120, A620, H⟩ := H
            replace H : (kedgelaw02_PrefixChain.j3 kj3 (x5_3 == t120)) = some r := H
            have A62 := Aside0.mk A620
            clear A620
            have H' := Aside0.mk H
            clear H
            have hnb63 := NB107_101.out
            have hnc63 := NB101_107.out
            have hcz64_0 : wc.cell? ⟨gb107, 0, none⟩ = some (.int .u64 x108000_3) := (blk_cell BK107.out 0).trans rfl
            have hcz64_1 : wc.cell? ⟨gb107, 1, none⟩ = some (.int .u64 x108001_3) := (blk_cell BK107.out 1).trans rfl
            have hcz64_2 : wc.cell? ⟨gb107, 2, none⟩ = some (.bool x108002_3) := (blk_cell BK107.out 2).trans rfl
            have hcz64_3 : wc.cell? ⟨gb107, 3, none⟩ = some (.int .i64 x108003_3) := (blk_cell BK107.out 3).trans rfl
            have hfz64_0 := blk_frozen BK107.out 0
            have hfz64_1 := blk_frozen BK107.out 1
            have hfz64_2 := blk_frozen BK107.out 2
            have hfz64_3 := blk_frozen BK107.out 3
            have hcz65_0 : wc.cell? ⟨gb101, 0, none⟩ = some (.int .u64 a0_0) := (blk_cell BK101.out 0).trans rfl
            have hcz65_1 : wc.cell? ⟨gb101, 1, none⟩ = some (.int .u64 a0_1) := (blk_cell BK101.out 1).trans rfl
            have hcz65_2 : wc.cell? ⟨gb101, 2, none⟩ = some (.bool a0_2) := (blk_cell BK101.out 2).trans rfl
            have hfz65_0 := blk_frozen BK101.out 0
            have hfz65_1 := blk_frozen BK101.out 1
            have hfz65_2 := blk_frozen BK101.out 2
            go_wp2_with (first | (go_at_call 21; (with_reducible refine (addr_Width.calls a0_2 t120 _ A62.out).mono ?_); rintro e w' ⟨rfl, ⟨nd, rfl⟩⟩))
            go_meet
            case rel => exact ⟨_, ((x5_3 == t120)), (by first | rfl | (simp; done) | (simp [*]; done)), H', ⟨by have := HJ3.out; first | omega | exact Nat.le_refl _⟩, ⟨by (with_reducible repeat (first | refine blk_drewN ?_ _ | refine blk_drew ?_ | refine blk_alloc ?_ _)); exact BK101.out⟩, ⟨by (with_reducible repeat (first | refine blk_drewN ?_ _ | refine blk_drew ?_ | refine blk_alloc ?_ _)); exact BK107.out⟩, ⟨by repeat (first | (with_reducible first | exact HB.out | apply below_alloc | apply pw_below_drewN | apply below_drew1 | refine below_set ?_ GE101.out | refine below_set ?_ GE107.out) | exact HB.out)⟩⟩
          · rw [if_neg c61] at H
            have c61b0 : (x108003_3 == 0) = false := beq_eq_false_iff_ne.mpr c61
            have c61b1 : (x108003_3 != 0) = true := bne_iff_ne.mpr c61
            (first | rw [c61b0] | (simp only [i64_w, i32_w]; rw [c61b0]) | skip)
            have H' := Aside0.mk H
            clear H
            have hnb66 := NB107_101.out
            have hnc66 := NB101_107.out
            have hcz67_0 : wc.cell? ⟨gb107, 0, none⟩ = some (.int .u64 x108000_3) := (blk_cell BK107.out 0).trans rfl
            have hcz67_1 : wc.cell? ⟨gb107, 1, none⟩ = some (.int .u64 x108001_3) := (blk_cell BK107.out 1).trans rfl
            have hcz67_2 : wc.cell? ⟨gb107, 2, none⟩ = some (.bool x108002_3) := (blk_cell BK107.out 2).trans rfl
            have hcz67_3 : wc.cell? ⟨gb107, 3, none⟩ = some (.int .i64 x108003_3) := (blk_cell BK107.out 3).trans rfl
            have hfz67_0 := blk_frozen BK107.out 0
            have hfz67_1 := blk_frozen BK107.out 1
            have hfz67_2 := blk_frozen BK107.out 2
            have hfz67_3 := blk_frozen BK107.out 3
            go_wp2
            go_meet
            case rel => exact ⟨_, (false), (by first | rfl | (simp; done) | (simp [*]; done)), H', ⟨by have := HJ3.out; first | omega | exact Nat.le_refl _⟩, ⟨by (with_reducible repeat (first | refine blk_drewN ?_ _ | refine blk_drew ?_ | refine blk_alloc ?_ _)); exact BK101.out⟩, ⟨by (with_reducible repeat (first | refine blk_drewN ?_ _ | refine blk_drew ?_ | refine blk_alloc ?_ _)); exact BK107.out⟩, ⟨by repeat (first | (with_reducible first | exact HB.out | apply below_alloc | apply pw_below_drewN | apply below_drew1 | refine below_set ?_ GE101.out | refine below_set ?_ GE107.out) | exact HB.out)⟩⟩
        · replace c60 := Bool.eq_false_iff.mpr c60
          subst c60
          have H1 : (kedgelaw02_PrefixChain.j3 kj3 false) = some r := by rw [if_neg (show ¬ (false = true) by decide)] at H; exact H
          clear H
          have H := H1
          clear H1
          have H' := Aside0.mk H
          clear H
          go_wp2
          go_meet
          case rel => exact ⟨_, (false), (by first | rfl | (simp; done) | (simp [*]; done)), H', ⟨by have := HJ3.out; first | omega | exact Nat.le_refl _⟩, ⟨by (with_reducible repeat (first | refine blk_drewN ?_ _ | refine blk_drew ?_ | refine blk_alloc ?_ _)); exact BK101.out⟩, ⟨by (with_reducible repeat (first | refine blk_drewN ?_ _ | refine blk_drew ?_ | refine blk_alloc ?_ _)); exact BK107.out⟩, ⟨by repeat (first | (with_reducible first | exact HB.out | apply below_alloc | apply pw_below_drewN | apply below_drew1 | refine below_set ?_ GE101.out | refine below_set ?_ GE107.out) | exact HB.out)⟩⟩
      case rest =>
        clear HC59
        try clear c1
        try clear c2
        try clear p2
        try clear c3
        try clear c4
        try clear c5
        try clear c6
        try clear p6
        try clear c10
        try clear c12
        try clear c12b0
        try clear c15
        try clear c19
        try clear c20
        try clear c22
        try clear c23
        try clear c24
        try clear c25
        try clear c26
        try clear c32
        try clear c33
        try clear c35
        try clear c36
        try clear c36b0
        try clear c36b1
        try clear c37
        try clear c38
        try clear c40
        try clear c45
        try clear c46
        try clear c48
        try clear c53
        try clear c54
        try clear c56
        try clear c60
        try clear c61
        try clear c61b0
        try clear c61b1
        try clear c63
        try clear p64
        try clear c66
        try clear hcz11_0
        try clear hcz11_1
        try clear hcz11_2
        try clear hcz11_3
        try clear hcz16_0
        try clear hcz16_1
        try clear hcz16_2
        try clear hcz16_3
        try clear hcz21_0
        try clear hcz21_1
        try clear hcz21_2
        try clear hcz21_3
        try clear hcz39_0
        try clear hcz39_1
        try clear hcz39_2
        try clear hcz39_3
        try clear hcz41_0
        try clear hcz41_1
        try clear hcz41_2
        try clear hcz41_3
        try clear hcz43_0
        try clear hcz43_1
        try clear hcz43_2
        try clear hcz43_3
        try clear hcz44_0
        try clear hcz44_1
        try clear hcz44_2
        try clear hcz44_3
        try clear hcz47_0
        try clear hcz47_1
        try clear hcz47_2
        try clear hcz47_3
        try clear hcz49_0
        try clear hcz49_1
        try clear hcz49_2
        try clear hcz49_3
        try clear hcz51_0
        try clear hcz51_1
        try clear hcz51_2
        try clear hcz51_3
        try clear hcz52_0
        try clear hcz52_1
        try clear hcz52_2
        try clear hcz52_3
        try clear hcz55_0
        try clear hcz55_1
        try clear hcz55_2
        try clear hcz55_3
        try clear hcz57_0
        try clear hcz57_1
        try clear hcz57_2
        try clear hcz57_3
        try clear hcz64_0
        try clear hcz64_1
        try clear hcz64_2
        try clear hcz64_3
        try clear hcz65_0
        try clear hcz65_1
        try clear hcz65_2
        try clear hcz67_0
        try clear hcz67_1
        try clear hcz67_2
        try clear hcz67_3
        try clear hcz7_0
        try clear hcz7_1
        try clear hcz7_2
        try clear hfz11_0
        try clear hfz11_1
        try clear hfz11_2
        try clear hfz11_3
        try clear hfz16_0
        try clear hfz16_1
        try clear hfz16_2
        try clear hfz16_3
        try clear hfz21_0
        try clear hfz21_1
        try clear hfz21_2
        try clear hfz21_3
        try clear hfz39_0
        try clear hfz39_1
        try clear hfz39_2
        try clear hfz39_3
        try clear hfz41_0
        try clear hfz41_1
        try clear hfz41_2
        try clear hfz41_3
        try clear hfz43_0
        try clear hfz43_1
        try clear hfz43_2
        try clear hfz43_3
        try clear hfz44_0
        try clear hfz44_1
        try clear hfz44_2
        try clear hfz44_3
        try clear hfz47_0
        try clear hfz47_1
        try clear hfz47_2
        try clear hfz47_3
        try clear hfz49_0
        try clear hfz49_1
        try clear hfz49_2
        try clear hfz49_3
        try clear hfz51_0
        try clear hfz51_1
        try clear hfz51_2
        try clear hfz51_3
        try clear hfz52_0
        try clear hfz52_1
        try clear hfz52_2
        try clear hfz52_3
        try clear hfz55_0
        try clear hfz55_1
        try clear hfz55_2
        try clear hfz55_3
        try clear hfz57_0
        try clear hfz57_1
        try clear hfz57_2
        try clear hfz57_3
        try clear hfz64_0
        try clear hfz64_1
        try clear hfz64_2
        try clear hfz64_3
        try clear hfz65_0
        try clear hfz65_1
        try clear hfz65_2
        try clear hfz67_0
        try clear hfz67_1
        try clear hfz67_2
        try clear hfz67_3
        try clear hfz7_0
        try clear hfz7_1
        try clear hfz7_2
        try clear p2
        try clear p6
        obtain ⟨kq, x2_58, rfl, HA, HJ58, BK101, BK107, HB⟩ := hcut
        cases kq with
        | zero => exact absurd HA.out (by simp [kedgelaw02_PrefixChain.j3])
        | succ kj58 =>
          have H := HA.out
          clear HA
          simp only [kedgelaw02_PrefixChain.j3] at H
          obtain rfl := Option.some.inj H
          go_wp2
          go_ret
          exact ⟨by first | rfl | (simp [errW_none, errW_some] <;> rfl) | (simp [*, errW_none, errW_some] <;> rfl), by repeat (first | (with_reducible first | exact HB.out | apply below_alloc | apply pw_below_drewN | apply below_drew1 | refine below_set ?_ GE101.out | refine below_set ?_ GE107.out) | exact HB.out)⟩

end
end Go.Proofs.Ytbaeaiiohkfieaa.PI
