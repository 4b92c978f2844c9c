-- Written by a program of this session (wip/tools/pp.py drives the kit's print with hand-proved contracts); Lean checks it.
import Derived.Test.YtbaeaiiohkfieaaPW1x0
namespace Go.Proofs.Ytbaeaiiohkfieaa.PW1
open Go.RowKit Go.Proofs.Ytbaeaiiohkfieaa.Hand Go.Proofs.YtbaeaiiohkfieaaW.PrintWords Go.Proofs.YtbaeaiiohkfieaaW.PrintLast Go.Proofs.YtbaeaiiohkfieaaW.PrintMore
attribute [local go_sem] max2_int min2_int max_two min_two max_three min_three max_four min_four   -- for this text's walks alone
set_option linter.unusedVariables false
set_option linter.unusedSimpArgs false

noncomputable section
-- GIVEN: function 17 (addr_Bit)

-- GIVEN: function 19 (addr_Sane)

-- GIVEN: function 21 (addr_Width)

-- GIVEN: function 27 (addr_From)

/-! ### kedgelaw01_awake: function 14 -/
def kedgelaw01_awake.j0 : Nat → Bool → Option (Bool)
  | 0, _ => none
  | k + 1, x0 => some x0
def kedgelaw01_awake.f (k : Nat)  : Option (Bool) := (addr_From.f (([192, 168, 0, 1] : List Int))).bind fun bt104 => (if bt104.2.2.2 = 0 then ((addr_Bit.f bt104.1 bt104.2.1 bt104.2.2.1 0).bind fun t109 => (if t109 = 1 then ((addr_Bit.f bt104.1 bt104.2.1 bt104.2.2.1 1).bind fun t110 => (if t110 = 1 then ((addr_Bit.f bt104.1 bt104.2.1 bt104.2.2.1 2).bind fun t111 => (if t111 = 0 then ((addr_Bit.f bt104.1 bt104.2.1 bt104.2.2.1 31).bind fun t112 => (if t112 = 1 then ((addr_Width.f false).bind fun t113 => (if t113 = 32 then ((addr_Sane.f bt104.1 bt104.2.1 bt104.2.2.1).bind fun t114 => (kedgelaw01_awake.j0 k t114)) else (kedgelaw01_awake.j0 k false))) else (kedgelaw01_awake.j0 k false))) else (kedgelaw01_awake.j0 k false))) else (kedgelaw01_awake.j0 k false))) else (kedgelaw01_awake.j0 k false))) else (kedgelaw01_awake.j0 k false))
theorem kedgelaw01_awake.mono_l : ∀ k, (∀ y0, LeO (kedgelaw01_awake.j0 k y0) (kedgelaw01_awake.j0 (k + 1) y0))
  | 0 => fun _ r h => by simp [kedgelaw01_awake.j0] at h
  | k + 1 => by
    have ih0 := kedgelaw01_awake.mono_l k
    · intro y0
      unfold kedgelaw01_awake.j0
      repeat' first
      | (with_reducible exact ih0 _)
      | (with_reducible exact LeO.refl _)
      | (with_reducible exact LeO.none _)
      | (with_reducible refine LeO.ite ?_ ?_)
      | (with_reducible refine LeO.bind ?_ (fun _ => ?_))
      | exact ih0 _
      | exact LeO.none _
      | refine LeO.ite ?_ ?_
      | refine LeO.bind ?_ (fun _ => ?_)
theorem kedgelaw01_awake.mono : ∀ k, LeO (kedgelaw01_awake.f k ) (kedgelaw01_awake.f (k + 1) ) := by
  intro  k
  have ih0 := kedgelaw01_awake.mono_l k
  unfold kedgelaw01_awake.f
  repeat' first
      | (with_reducible exact ih0 _)
      | (with_reducible exact LeO.refl _)
      | (with_reducible exact LeO.none _)
      | (with_reducible refine LeO.ite ?_ ?_)
      | (with_reducible refine LeO.bind ?_ (fun _ => ?_))
      | exact ih0 _
      | exact LeO.none _
      | refine LeO.ite ?_ ?_
      | refine LeO.bind ?_ (fun _ => ?_)
set_option maxHeartbeats 8000000 in
set_option maxRecDepth 100000 in
theorem kedgelaw01_awake.calls (k : Nat)  (r : Bool) (w : World) (h : kedgelaw01_awake.f k  = some r) :
    Calls Try.prog 14 #[] w fun e w' => e = .returned (.bool r) ∧ Below w.heap.size w w' := by
  have hu24 := Try.underlying24
  have HB := Aside0.mk (Below.refl w.heap.size w)
  have H : ((addr_From.f (([192, 168, 0, 1] : List Int))).bind fun bt104 => (if bt104.2.2.2 = 0 then ((addr_Bit.f bt104.1 bt104.2.1 bt104.2.2.1 0).bind fun t109 => (if t109 = 1 then ((addr_Bit.f bt104.1 bt104.2.1 bt104.2.2.1 1).bind fun t110 => (if t110 = 1 then ((addr_Bit.f bt104.1 bt104.2.1 bt104.2.2.1 2).bind fun t111 => (if t111 = 0 then ((addr_Bit.f bt104.1 bt104.2.1 bt104.2.2.1 31).bind fun t112 => (if t112 = 1 then ((addr_Width.f false).bind fun t113 => (if t113 = 32 then ((addr_Sane.f bt104.1 bt104.2.1 bt104.2.2.1).bind fun t114 => (kedgelaw01_awake.j0 k t114)) else (kedgelaw01_awake.j0 k false))) else (kedgelaw01_awake.j0 k false))) else (kedgelaw01_awake.j0 k false))) else (kedgelaw01_awake.j0 k false))) else (kedgelaw01_awake.j0 k false))) else (kedgelaw01_awake.j0 k false))) = some r := h
  clear h
  obtain ⟨y101, hy101⟩ : ∃ y_ : List Int, y_ = (([192, 168, 0, 1] : List Int)) := ⟨_, rfl⟩
  replace H : ((addr_From.f y101).bind fun bt104 => (if bt104.2.2.2 = 0 then ((addr_Bit.f bt104.1 bt104.2.1 bt104.2.2.1 0).bind fun t109 => (if t109 = 1 then ((addr_Bit.f bt104.1 bt104.2.1 bt104.2.2.1 1).bind fun t110 => (if t110 = 1 then ((addr_Bit.f bt104.1 bt104.2.1 bt104.2.2.1 2).bind fun t111 => (if t111 = 0 then ((addr_Bit.f bt104.1 bt104.2.1 bt104.2.2.1 31).bind fun t112 => (if t112 = 1 then ((addr_Width.f false).bind fun t113 => (if t113 = 32 then ((addr_Sane.f bt104.1 bt104.2.1 bt104.2.2.1).bind fun t114 => (kedgelaw01_awake.j0 k t114)) else (kedgelaw01_awake.j0 k false))) else (kedgelaw01_awake.j0 k false))) else (kedgelaw01_awake.j0 k false))) else (kedgelaw01_awake.j0 k false))) else (kedgelaw01_awake.j0 k false))) else (kedgelaw01_awake.j0 k false))) = some r := by first | (rw [hy101]; with_reducible exact H) | (have H2_ := (Option.bind_some _ _).symm.trans H; rw [hy101]; with_reducible exact H2_) | (have H2_ := (Option.bind_some _ _).symm.trans H; with_reducible exact H2_) | with_reducible exact H | (rw [hy101]; exact H) | exact H
  have Ny101 := Aside0.mk hy101
  clear hy101
  replace H := Option.bind_eq_some_iff.mp H
  obtain ⟨⟨t104, t105, t106, t107⟩, A10, H⟩ := H
  replace H : (if t107 = 0 then ((addr_Bit.f t104 t105 t106 0).bind fun t109 => (if t109 = 1 then ((addr_Bit.f t104 t105 t106 1).bind fun t110 => (if t110 = 1 then ((addr_Bit.f t104 t105 t106 2).bind fun t111 => (if t111 = 0 then ((addr_Bit.f t104 t105 t106 31).bind fun t112 => (if t112 = 1 then ((addr_Width.f false).bind fun t113 => (if t113 = 32 then ((addr_Sane.f t104 t105 t106).bind fun t114 => (kedgelaw01_awake.j0 k t114)) else (kedgelaw01_awake.j0 k false))) else (kedgelaw01_awake.j0 k false))) else (kedgelaw01_awake.j0 k false))) else (kedgelaw01_awake.j0 k false))) else (kedgelaw01_awake.j0 k false))) else (kedgelaw01_awake.j0 k false)) = some r := H
  have A1 := Aside0.mk A10
  clear A10
  have HC2 := Aside0.mk H
  clear H
  go_enter Try.func14, Try.ntmps14
  go_upto_region 2 with (first | ((with_reducible refine gate_dst (N := 4) rfl ?_); refine Kd.R_lit (Kd.int .u8) _ 5 ?hg (N := 4) ?hd (xs := ([192, 168, 0, 1] : List Int)) (inner := [.int .u8 192, .int .u8 168, .int .u8 0, .int .u8 1]) (ok := fun _ => True) (okp := fun _ => True) ?hr ?hp (fun _ hk => hk) trivial (Below.refl _ _) (Nat.le_refl _) (by simp) ?_; (case hd => rfl); (case hg => rfl); (case hr => first | (go_simp; done) | (go_simp; rfl)); (case hp => exact (Reps.one (show Kd.M (Kd.int .u8) _ _ _ 192 [.int .u8 192] from rfl) (Reps.one (show Kd.M (Kd.int .u8) _ _ _ 168 [.int .u8 168] from rfl) (Reps.one (show Kd.M (Kd.int .u8) _ _ _ 0 [.int .u8 0] from rfl) (Reps.one (show Kd.M (Kd.int .u8) _ _ _ 1 [.int .u8 1] from rfl) (Reps.none _ _)))))); intro v102 w3 ho4 hb hg_ hnew_; clear hg_ hnew_; (first | rw [← Ny101.out] at ho4 | (simp only [Int.reduceToNat] at ho4; rw [← Ny101.out] at ho4)); have n0_ := Aside0.mk (Kd.R_lower ho4 (below_size (by repeat (first | (with_reducible first | exact HB.out | apply below_alloc | apply pw_below_drewN | apply below_drew1) | exact HB.out)))); have n1_ := Aside0.mk (below_step (by repeat (first | (with_reducible first | exact HB.out | apply below_alloc | apply pw_below_drewN | apply below_drew1) | exact HB.out)) hb); clear HB; have HO103 := n0_; have HB := n1_; clear n0_ n1_; clear hb ho4; obtain ⟨Ao5, co5, eo5⟩ := Kd.R_slice HO103.out; subst eo5) | ((with_reducible refine gate_callee (f := 27) rfl ?_); refine goesL_ (some 5) rfl rfl Try.func27 (by kernel_rfl) rfl #[.slice Ao5 y101.length co5] rfl (by (try simp only [List.map_toArray, List.map_cons, List.map_nil]); first | done | rfl | (simp only [List.length_drop, List.length_take]; rfl)) ?_; (with_reducible refine (addr_From.calls _ _ y101 t104 t105 t106 t107 _ ?side1 ?side2 A1.out).mono ?_); (case side1 => repeat (first | exact (Kd.R_reads' HO103.out).2.2 | (with_reducible refine Kd.C_alloc ?_ _) | (with_reducible refine Kd.C_drewN ?_ _) | (with_reducible refine Kd.C_drew ?_))); (case side2 => exact (Kd.R_reads' HO103.out).2.1); rintro e w6 ⟨rfl, hb⟩; refine ⟨_, rfl, ?_⟩; have n0_ := Aside0.mk (Kd.R_below (by (with_reducible repeat (first | apply Kd.R_alloc | apply Kd.R_drewN | apply Kd.R_drew)); exact HO103.out) hb); have n1_ := Aside0.mk (below_step (by repeat (first | (with_reducible first | exact HB.out | apply below_alloc | apply pw_below_drewN | apply below_drew1) | exact HB.out)) hb); clear HO103; clear HB; have HO103 := n0_; have HB := n1_; clear n0_ n1_; (try clear hb); (try clear hb2); (try clear hk); (try clear hi)) | ((with_reducible refine gate_dst (N := 1) rfl ?_); refine box_event ?hg (N := 1) ?hd (cs := #[.int .u64 0, .int .u64 0, .bool false]) (t := 24) ?hr ?_; (case hd => rfl); (case hg => rfl); (case hr => first | (go_simp; done) | (go_simp; rfl)); intro gb108 hg w7 hbox hb; have n0_ := Aside0.mk (Kd.R_below (by (with_reducible repeat (first | apply Kd.R_alloc | apply Kd.R_drewN | apply Kd.R_drew)); exact HO103.out) hb); have n1_ := Aside0.mk (below_step (by repeat (first | (with_reducible first | exact HB.out | apply below_alloc | apply pw_below_drewN | apply below_drew1) | exact HB.out)) hb); have n2_ := Aside0.mk (hbox); have n3_ := Aside0.mk ((by rw [hg]; exact (below_size (by repeat (first | (with_reducible first | exact HB.out | apply below_alloc | apply pw_below_drewN | apply below_drew1) | exact HB.out))) : w.heap.size ≤ gb108)); have n4_ := Aside0.mk ((by rw [hg]; exact (below_size (by repeat (first | (with_reducible first | exact HB.out | apply below_alloc | apply pw_below_drewN | apply below_drew1) | exact HB.out))) : w.heap.size ≤ gb108)); clear HO103; clear HB; have HO103 := n0_; have HB := n1_; have BK108 := n2_; have GW108 := n3_; have GE108 := n4_; clear n0_ n1_ n2_ n3_ n4_; clear hb hbox hg; have hcz8_0 : w7.cell? ⟨gb108, 0, none⟩ = some (.int .u64 0) := (blk_cell BK108.out 0).trans rfl; have hcz8_1 : w7.cell? ⟨gb108, 1, none⟩ = some (.int .u64 0) := (blk_cell BK108.out 1).trans rfl; have hcz8_2 : w7.cell? ⟨gb108, 2, none⟩ = some (.bool false) := (blk_cell BK108.out 2).trans rfl; have hfz8_0 := blk_frozen BK108.out 0; have hfz8_1 := blk_frozen BK108.out 1; have hfz8_2 := blk_frozen BK108.out 2))
  (try simp only [Act.put, List.setIfInBounds_toArray, List.set_cons_zero, List.set_cons_succ])
  go_cut [0] (fun v0 wc => ∃ (kq : Nat) (x0_1 : Bool), v0 = .bool x0_1 ∧ Aside0 (kedgelaw01_awake.j0 kq x0_1 = some r) ∧ Aside0 (kq ≤ k) ∧ Aside0 (wc.heap[gb108]? = some (.cells #[.int .u64 t104, .int .u64 t105, .bool t106] 24 (0, 0))) ∧ Aside0 (Below w.heap.size w wc))
  case first =>
    have H := HC2.out
    clear HC2
    by_cases c9 : t107 = 0
    · rw [if_pos c9] at H
      have c9b0 : (t107 == 0) = true := beq_iff_eq.mpr c9
      have c9b1 : (t107 != 0) = false := bne_eq_false_iff_eq.mpr c9
      clear c9
      (first | rw [c9b0] | (simp only [i64_w, i32_w]; rw [c9b0]) | skip)
      replace H := Option.bind_eq_some_iff.mp H
      obtain ⟨t109, A100, H⟩ := H
      replace H : (if t109 = 1 then ((addr_Bit.f t104 t105 t106 1).bind fun t110 => (if t110 = 1 then ((addr_Bit.f t104 t105 t106 2).bind fun t111 => (if t111 = 0 then ((addr_Bit.f t104 t105 t106 31).bind fun t112 => (if t112 = 1 then ((addr_Width.f false).bind fun t113 => (if t113 = 32 then ((addr_Sane.f t104 t105 t106).bind fun t114 => (kedgelaw01_awake.j0 k t114)) else (kedgelaw01_awake.j0 k false))) else (kedgelaw01_awake.j0 k false))) else (kedgelaw01_awake.j0 k false))) else (kedgelaw01_awake.j0 k false))) else (kedgelaw01_awake.j0 k false)) = some r := H
      have A10 := Aside0.mk A100
      clear A100
      by_cases c11 : t109 = 1
      · rw [if_pos c11] at H
        have c11b0 : (t109 == 1) = true := beq_iff_eq.mpr c11
        have c11b1 : (t109 != 1) = false := bne_eq_false_iff_eq.mpr c11
        clear c11
        replace H := Option.bind_eq_some_iff.mp H
        obtain ⟨t110, A120, H⟩ := H
        replace H : (if t110 = 1 then ((addr_Bit.f t104 t105 t106 2).bind fun t111 => (if t111 = 0 then ((addr_Bit.f t104 t105 t106 31).bind fun t112 => (if t112 = 1 then ((addr_Width.f false).bind fun t113 => (if t113 = 32 then ((addr_Sane.f t104 t105 t106).bind fun t114 => (kedgelaw01_awake.j0 k t114)) else (kedgelaw01_awake.j0 k false))) else (kedgelaw01_awake.j0 k false))) else (kedgelaw01_awake.j0 k false))) else (kedgelaw01_awake.j0 k false)) = some r := H
        have A12 := Aside0.mk A120
        clear A120
        by_cases c13 : t110 = 1
        · rw [if_pos c13] at H
          have c13b0 : (t110 == 1) = true := beq_iff_eq.mpr c13
          have c13b1 : (t110 != 1) = false := bne_eq_false_iff_eq.mpr c13
          clear c13
          replace H := Option.bind_eq_some_iff.mp H
          obtain ⟨t111, A140, H⟩ := H
          replace H : (if t111 = 0 then ((addr_Bit.f t104 t105 t106 31).bind fun t112 => (if t112 = 1 then ((addr_Width.f false).bind fun t113 => (if t113 = 32 then ((addr_Sane.f t104 t105 t106).bind fun t114 => (kedgelaw01_awake.j0 k t114)) else (kedgelaw01_awake.j0 k false))) else (kedgelaw01_awake.j0 k false))) else (kedgelaw01_awake.j0 k false)) = some r := H
          have A14 := Aside0.mk A140
          clear A140
          by_cases c15 : t111 = 0
          · rw [if_pos c15] at H
            have c15b0 : (t111 == 0) = true := beq_iff_eq.mpr c15
            have c15b1 : (t111 != 0) = false := bne_eq_false_iff_eq.mpr c15
            clear c15
            replace H := Option.bind_eq_some_iff.mp H
            obtain ⟨t112, A160, H⟩ := H
            replace H : (if t112 = 1 then ((addr_Width.f false).bind fun t113 => (if t113 = 32 then ((addr_Sane.f t104 t105 t106).bind fun t114 => (kedgelaw01_awake.j0 k t114)) else (kedgelaw01_awake.j0 k false))) else (kedgelaw01_awake.j0 k false)) = some r := H
            have A16 := Aside0.mk A160
            clear A160
            by_cases c17 : t112 = 1
            · rw [if_pos c17] at H
              have c17b0 : (t112 == 1) = true := beq_iff_eq.mpr c17
              have c17b1 : (t112 != 1) = false := bne_eq_false_iff_eq.mpr c17
              clear c17
              replace H := Option.bind_eq_some_iff.mp H
              obtain ⟨t113, A180, H⟩ := H
              replace H : (if t113 = 32 then ((addr_Sane.f t104 t105 t106).bind fun t114 => (kedgelaw01_awake.j0 k t114)) else (kedgelaw01_awake.j0 k false)) = some r := H
              have A18 := Aside0.mk A180
              clear A180
              by_cases c19 : t113 = 32
              · rw [if_pos c19] at H
                have c19b0 : (t113 == 32) = true := beq_iff_eq.mpr c19
                have c19b1 : (t113 != 32) = false := bne_eq_false_iff_eq.mpr c19
                clear c19
                replace H := Option.bind_eq_some_iff.mp H
                obtain ⟨t114, A200, H⟩ := H
                replace H : (kedgelaw01_awake.j0 k t114) = some r := H
                have A20 := Aside0.mk A200
                clear A200
                have H' := Aside0.mk H
                clear H
                have hcz21_0 : w7.cell? ⟨gb108, 0, none⟩ = some (.int .u64 0) := (blk_cell BK108.out 0).trans rfl
                have hcz21_1 : w7.cell? ⟨gb108, 1, none⟩ = some (.int .u64 0) := (blk_cell BK108.out 1).trans rfl
                have hcz21_2 : w7.cell? ⟨gb108, 2, none⟩ = some (.bool false) := (blk_cell BK108.out 2).trans rfl
                have hfz21_0 := blk_frozen BK108.out 0
                have hfz21_1 := blk_frozen BK108.out 1
                have hfz21_2 := blk_frozen BK108.out 2
                go_wp2_with (first | (go_at_call 17; (with_reducible refine (addr_Bit.calls t104 t105 t106 0 t109 _ A10.out).mono ?_); rintro e w22 ⟨rfl, hb⟩; have n0_ := Aside0.mk (Kd.R_below (by (with_reducible repeat (first | apply Kd.R_alloc | apply Kd.R_drewN | apply Kd.R_drew)); exact (Kd.R_mono (Kd.R_far (p := ⟨gb108, 2, none⟩) (Kd.R_far (p := ⟨gb108, 1, none⟩) (Kd.R_far (p := ⟨gb108, 0, none⟩) (Kd.R_types HO103.out BK108.out (by decide)) (fun _ hk => hk.2) (.int .u64 t104)) (fun _ hk => hk.2) (.int .u64 t105)) (fun _ hk => hk.2) (.bool t106)) (fun _ h_ => h_.1))) hb); have n1_ := Aside0.mk (blk_below (g := gb108) (o := .cells #[.int .u64 t104, .int .u64 t105, .bool t106] 24 (0, 0)) (by (with_reducible repeat (first | refine blk_drewN ?_ _ | refine blk_drew ?_ | refine blk_alloc ?_ _)); refine blk_put (cs := #[.int .u64 t104, .int .u64 t105, .bool false]) ?_ 2 _ rfl; (with_reducible repeat (first | refine blk_drewN ?_ _ | refine blk_drew ?_ | refine blk_alloc ?_ _)); refine blk_put (cs := #[.int .u64 t104, .int .u64 0, .bool false]) ?_ 1 _ rfl; (with_reducible repeat (first | refine blk_drewN ?_ _ | refine blk_drew ?_ | refine blk_alloc ?_ _)); refine blk_put (cs := #[.int .u64 0, .int .u64 0, .bool false]) ?_ 0 _ rfl; (with_reducible repeat (first | refine blk_drewN ?_ _ | refine blk_drew ?_ | refine blk_alloc ?_ _)); exact BK108.out) hb); have n2_ := Aside0.mk (below_step (by repeat (first | (with_reducible first | exact HB.out | apply below_alloc | apply pw_below_drewN | apply below_drew1 | refine below_set ?_ GE108.out) | exact HB.out)) hb); clear HO103; clear BK108; clear HB; have HO103 := n0_; have BK108 := n1_; have HB := n2_; clear n0_ n1_ n2_; (try clear hb); (try clear hb2); (try clear hk); (try clear hi); have hcz23_0 : w22.cell? ⟨gb108, 0, none⟩ = some (.int .u64 t104) := (blk_cell BK108.out 0).trans rfl; have hcz23_1 : w22.cell? ⟨gb108, 1, none⟩ = some (.int .u64 t105) := (blk_cell BK108.out 1).trans rfl; have hcz23_2 : w22.cell? ⟨gb108, 2, none⟩ = some (.bool t106) := (blk_cell BK108.out 2).trans rfl; have hfz23_0 := blk_frozen BK108.out 0; have hfz23_1 := blk_frozen BK108.out 1; have hfz23_2 := blk_frozen BK108.out 2) | (go_at_call 17; (with_reducible refine (addr_Bit.calls t104 t105 t106 1 t110 _ A12.out).mono ?_); rintro e w24 ⟨rfl, hb⟩; have n0_ := Aside0.mk (Kd.R_below (by (with_reducible repeat (first | apply Kd.R_alloc | apply Kd.R_drewN | apply Kd.R_drew)); exact HO103.out) hb); have n1_ := Aside0.mk (blk_below (g := gb108) (o := .cells #[.int .u64 t104, .int .u64 t105, .bool t106] 24 (0, 0)) (by (with_reducible repeat (first | refine blk_drewN ?_ _ | refine blk_drew ?_ | refine blk_alloc ?_ _)); exact BK108.out) hb); have n2_ := Aside0.mk (below_step (by repeat (first | (with_reducible first | exact HB.out | apply below_alloc | apply pw_below_drewN | apply below_drew1 | refine below_set ?_ GE108.out) | exact HB.out)) hb); clear HO103; clear BK108; clear HB; have HO103 := n0_; have BK108 := n1_; have HB := n2_; clear n0_ n1_ n2_; (try clear hb); (try clear hb2); (try clear hk); (try clear hi); have hcz25_0 : w24.cell? ⟨gb108, 0, none⟩ = some (.int .u64 t104) := (blk_cell BK108.out 0).trans rfl; have hcz25_1 : w24.cell? ⟨gb108, 1, none⟩ = some (.int .u64 t105) := (blk_cell BK108.out 1).trans rfl; have hcz25_2 : w24.cell? ⟨gb108, 2, none⟩ = some (.bool t106) := (blk_cell BK108.out 2).trans rfl; have hfz25_0 := blk_frozen BK108.out 0; have hfz25_1 := blk_frozen BK108.out 1; have hfz25_2 := blk_frozen BK108.out 2) | (go_at_call 17; (with_reducible refine (addr_Bit.calls t104 t105 t106 2 t111 _ A14.out).mono ?_); rintro e w26 ⟨rfl, hb⟩; have n0_ := Aside0.mk (Kd.R_below (by (with_reducible repeat (first | apply Kd.R_alloc | apply Kd.R_drewN | apply Kd.R_drew)); exact HO103.out) hb); have n1_ := Aside0.mk (blk_below (g := gb108) (o := .cells #[.int .u64 t104, .int .u64 t105, .bool t106] 24 (0, 0)) (by (with_reducible repeat (first | refine blk_drewN ?_ _ | refine blk_drew ?_ | refine blk_alloc ?_ _)); exact BK108.out) hb); have n2_ := Aside0.mk (below_step (by repeat (first | (with_reducible first | exact HB.out | apply below_alloc | apply pw_below_drewN | apply below_drew1 | refine below_set ?_ GE108.out) | exact HB.out)) hb); clear HO103; clear BK108; clear HB; have HO103 := n0_; have BK108 := n1_; have HB := n2_; clear n0_ n1_ n2_; (try clear hb); (try clear hb2); (try clear hk); (try clear hi); have hcz27_0 : w26.cell? ⟨gb108, 0, none⟩ = some (.int .u64 t104) := (blk_cell BK108.out 0).trans rfl; have hcz27_1 : w26.cell? ⟨gb108, 1, none⟩ = some (.int .u64 t105) := (blk_cell BK108.out 1).trans rfl; have hcz27_2 : w26.cell? ⟨gb108, 2, none⟩ = some (.bool t106) := (blk_cell BK108.out 2).trans rfl; have hfz27_0 := blk_frozen BK108.out 0; have hfz27_1 := blk_frozen BK108.out 1; have hfz27_2 := blk_frozen BK108.out 2) | (go_at_call 17; (with_reducible refine (addr_Bit.calls t104 t105 t106 31 t112 _ A16.out).mono ?_); rintro e w28 ⟨rfl, hb⟩; have n0_ := Aside0.mk (Kd.R_below (by (with_reducible repeat (first | apply Kd.R_alloc | apply Kd.R_drewN | apply Kd.R_drew)); exact HO103.out) hb); have n1_ := Aside0.mk (blk_below (g := gb108) (o := .cells #[.int .u64 t104, .int .u64 t105, .bool t106] 24 (0, 0)) (by (with_reducible repeat (first | refine blk_drewN ?_ _ | refine blk_drew ?_ | refine blk_alloc ?_ _)); exact BK108.out) hb); have n2_ := Aside0.mk (below_step (by repeat (first | (with_reducible first | exact HB.out | apply below_alloc | apply pw_below_drewN | apply below_drew1 | refine below_set ?_ GE108.out) | exact HB.out)) hb); clear HO103; clear BK108; clear HB; have HO103 := n0_; have BK108 := n1_; have HB := n2_; clear n0_ n1_ n2_; (try clear hb); (try clear hb2); (try clear hk); (try clear hi)) | (go_at_call 21; (with_reducible refine (addr_Width.calls false t113 _ A18.out).mono ?_); rintro e w' ⟨rfl, ⟨nd, rfl⟩⟩; have hcz29_0 : w28.cell? ⟨gb108, 0, none⟩ = some (.int .u64 t104) := (blk_cell BK108.out 0).trans rfl; have hcz29_1 : w28.cell? ⟨gb108, 1, none⟩ = some (.int .u64 t105) := (blk_cell BK108.out 1).trans rfl; have hcz29_2 : w28.cell? ⟨gb108, 2, none⟩ = some (.bool t106) := (blk_cell BK108.out 2).trans rfl; have hfz29_0 := blk_frozen BK108.out 0; have hfz29_1 := blk_frozen BK108.out 1; have hfz29_2 := blk_frozen BK108.out 2) | (go_at_call 19; (with_reducible refine (addr_Sane.calls t104 t105 t106 t114 _ A20.out).mono ?_); rintro e w30 ⟨rfl, hb⟩; have n0_ := Aside0.mk (Kd.R_below (by (with_reducible repeat (first | apply Kd.R_alloc | apply Kd.R_drewN | apply Kd.R_drew)); exact HO103.out) hb); have n1_ := Aside0.mk (blk_below (g := gb108) (o := .cells #[.int .u64 t104, .int .u64 t105, .bool t106] 24 (0, 0)) (by (with_reducible repeat (first | refine blk_drewN ?_ _ | refine blk_drew ?_ | refine blk_alloc ?_ _)); exact BK108.out) hb); have n2_ := Aside0.mk (below_step (by repeat (first | (with_reducible first | exact HB.out | apply below_alloc | apply pw_below_drewN | apply below_drew1 | refine below_set ?_ GE108.out) | exact HB.out)) hb); clear HO103; clear BK108; clear HB; have HO103 := n0_; have BK108 := n1_; have HB := n2_; clear n0_ n1_ n2_; (try clear hb); (try clear hb2); (try clear hk); (try clear hi)))
                go_meet
                case rel => exact ⟨_, (t114), (by first | rfl | (simp; done) | (simp [*]; done)), H', ⟨by first | omega | exact Nat.le_refl _⟩, ⟨by (with_reducible repeat (first | refine blk_drewN ?_ _ | refine blk_drew ?_ | refine blk_alloc ?_ _)); exact BK108.out⟩, ⟨by repeat (first | (with_reducible first | exact HB.out | apply below_alloc | apply pw_below_drewN | apply below_drew1 | refine below_set ?_ GE108.out) | exact HB.out)⟩⟩
              · rw [if_neg c19] at H
                have c19b0 : (t113 == 32) = false := beq_eq_false_iff_ne.mpr c19
                have c19b1 : (t113 != 32) = true := bne_iff_ne.mpr c19
                have H' := Aside0.mk H
                clear H
                have hcz31_0 : w7.cell? ⟨gb108, 0, none⟩ = some (.int .u64 0) := (blk_cell BK108.out 0).trans rfl
                have hcz31_1 : w7.cell? ⟨gb108, 1, none⟩ = some (.int .u64 0) := (blk_cell BK108.out 1).trans rfl
                have hcz31_2 : w7.cell? ⟨gb108, 2, none⟩ = some (.bool false) := (blk_cell BK108.out 2).trans rfl
                have hfz31_0 := blk_frozen BK108.out 0
                have hfz31_1 := blk_frozen BK108.out 1
                have hfz31_2 := blk_frozen BK108.out 2
                go_wp2_with (first | (go_at_call 17; (with_reducible refine (addr_Bit.calls t104 t105 t106 0 t109 _ A10.out).mono ?_); rintro e w32 ⟨rfl, hb⟩; have n0_ := Aside0.mk (Kd.R_below (by (with_reducible repeat (first | apply Kd.R_alloc | apply Kd.R_drewN | apply Kd.R_drew)); exact (Kd.R_mono (Kd.R_far (p := ⟨gb108, 2, none⟩) (Kd.R_far (p := ⟨gb108, 1, none⟩) (Kd.R_far (p := ⟨gb108, 0, none⟩) (Kd.R_types HO103.out BK108.out (by decide)) (fun _ hk => hk.2) (.int .u64 t104)) (fun _ hk => hk.2) (.int .u64 t105)) (fun _ hk => hk.2) (.bool t106)) (fun _ h_ => h_.1))) hb); have n1_ := Aside0.mk (blk_below (g := gb108) (o := .cells #[.int .u64 t104, .int .u64 t105, .bool t106] 24 (0, 0)) (by (with_reducible repeat (first | refine blk_drewN ?_ _ | refine blk_drew ?_ | refine blk_alloc ?_ _)); refine blk_put (cs := #[.int .u64 t104, .int .u64 t105, .bool false]) ?_ 2 _ rfl; (with_reducible repeat (first | refine blk_drewN ?_ _ | refine blk_drew ?_ | refine blk_alloc ?_ _)); refine blk_put (cs := #[.int .u64 t104, .int .u64 0, .bool false]) ?_ 1 _ rfl; (with_reducible repeat (first | refine blk_drewN ?_ _ | refine blk_drew ?_ | refine blk_alloc ?_ _)); refine blk_put (cs := #[.int .u64 0, .int .u64 0, .bool false]) ?_ 0 _ rfl; (with_reducible repeat (first | refine blk_drewN ?_ _ | refine blk_drew ?_ | refine blk_alloc ?_ _)); exact BK108.out) hb); have n2_ := Aside0.mk (below_step (by repeat (first | (with_reducible first | exact HB.out | apply below_alloc | apply pw_below_drewN | apply below_drew1 | refine below_set ?_ GE108.out) | exact HB.out)) hb); clear HO103; clear BK108; clear HB; have HO103 := n0_; have BK108 := n1_; have HB := n2_; clear n0_ n1_ n2_; (try clear hb); (try clear hb2); (try clear hk); (try clear hi); have hcz33_0 : w32.cell? ⟨gb108, 0, none⟩ = some (.int .u64 t104) := (blk_cell BK108.out 0).trans rfl; have hcz33_1 : w32.cell? ⟨gb108, 1, none⟩ = some (.int .u64 t105) := (blk_cell BK108.out 1).trans rfl; have hcz33_2 : w32.cell? ⟨gb108, 2, none⟩ = some (.bool t106) := (blk_cell BK108.out 2).trans rfl; have hfz33_0 := blk_frozen BK108.out 0; have hfz33_1 := blk_frozen BK108.out 1; have hfz33_2 := blk_frozen BK108.out 2) | (go_at_call 17; (with_reducible refine (addr_Bit.calls t104 t105 t106 1 t110 _ A12.out).mono ?_); rintro e w34 ⟨rfl, hb⟩; have n0_ := Aside0.mk (Kd.R_below (by (with_reducible repeat (first | apply Kd.R_alloc | apply Kd.R_drewN | apply Kd.R_drew)); exact HO103.out) hb); have n1_ := Aside0.mk (blk_below (g := gb108) (o := .cells #[.int .u64 t104, .int .u64 t105, .bool t106] 24 (0, 0)) (by (with_reducible repeat (first | refine blk_drewN ?_ _ | refine blk_drew ?_ | refine blk_alloc ?_ _)); exact BK108.out) hb); have n2_ := Aside0.mk (below_step (by repeat (first | (with_reducible first | exact HB.out | apply below_alloc | apply pw_below_drewN | apply below_drew1 | refine below_set ?_ GE108.out) | exact HB.out)) hb); clear HO103; clear BK108; clear HB; have HO103 := n0_; have BK108 := n1_; have HB := n2_; clear n0_ n1_ n2_; (try clear hb); (try clear hb2); (try clear hk); (try clear hi); have hcz35_0 : w34.cell? ⟨gb108, 0, none⟩ = some (.int .u64 t104) := (blk_cell BK108.out 0).trans rfl; have hcz35_1 : w34.cell? ⟨gb108, 1, none⟩ = some (.int .u64 t105) := (blk_cell BK108.out 1).trans rfl; have hcz35_2 : w34.cell? ⟨gb108, 2, none⟩ = some (.bool t106) := (blk_cell BK108.out 2).trans rfl; have hfz35_0 := blk_frozen BK108.out 0; have hfz35_1 := blk_frozen BK108.out 1; have hfz35_2 := blk_frozen BK108.out 2) | (go_at_call 17; (with_reducible refine (addr_Bit.calls t104 t105 t106 2 t111 _ A14.out).mono ?_); rintro e w36 ⟨rfl, hb⟩; have n0_ := Aside0.mk (Kd.R_below (by (with_reducible repeat (first | apply Kd.R_alloc | apply Kd.R_drewN | apply Kd.R_drew)); exact HO103.out) hb); have n1_ := Aside0.mk (blk_below (g := gb108) (o := .cells #[.int .u64 t104, .int .u64 t105, .bool t106] 24 (0, 0)) (by (with_reducible repeat (first | refine blk_drewN ?_ _ | refine blk_drew ?_ | refine blk_alloc ?_ _)); exact BK108.out) hb); have n2_ := Aside0.mk (below_step (by repeat (first | (with_reducible first | exact HB.out | apply below_alloc | apply pw_below_drewN | apply below_drew1 | refine below_set ?_ GE108.out) | exact HB.out)) hb); clear HO103; clear BK108; clear HB; have HO103 := n0_; have BK108 := n1_; have HB := n2_; clear n0_ n1_ n2_; (try clear hb); (try clear hb2); (try clear hk); (try clear hi); have hcz37_0 : w36.cell? ⟨gb108, 0, none⟩ = some (.int .u64 t104) := (blk_cell BK108.out 0).trans rfl; have hcz37_1 : w36.cell? ⟨gb108, 1, none⟩ = some (.int .u64 t105) := (blk_cell BK108.out 1).trans rfl; have hcz37_2 : w36.cell? ⟨gb108, 2, none⟩ = some (.bool t106) := (blk_cell BK108.out 2).trans rfl; have hfz37_0 := blk_frozen BK108.out 0; have hfz37_1 := blk_frozen BK108.out 1; have hfz37_2 := blk_frozen BK108.out 2) | (go_at_call 17; (with_reducible refine (addr_Bit.calls t104 t105 t106 31 t112 _ A16.out).mono ?_); rintro e w38 ⟨rfl, hb⟩; have n0_ := Aside0.mk (Kd.R_below (by (with_reducible repeat (first | apply Kd.R_alloc | apply Kd.R_drewN | apply Kd.R_drew)); exact HO103.out) hb); have n1_ := Aside0.mk (blk_below (g := gb108) (o := .cells #[.int .u64 t104, .int .u64 t105, .bool t106] 24 (0, 0)) (by (with_reducible repeat (first | refine blk_drewN ?_ _ | refine blk_drew ?_ | refine blk_alloc ?_ _)); exact BK108.out) hb); have n2_ := Aside0.mk (below_step (by repeat (first | (with_reducible first | exact HB.out | apply below_alloc | apply pw_below_drewN | apply below_drew1 | refine below_set ?_ GE108.out) | exact HB.out)) hb); clear HO103; clear BK108; clear HB; have HO103 := n0_; have BK108 := n1_; have HB := n2_; clear n0_ n1_ n2_; (try clear hb); (try clear hb2); (try clear hk); (try clear hi)) | (go_at_call 21; (with_reducible refine (addr_Width.calls false t113 _ A18.out).mono ?_); rintro e w' ⟨rfl, ⟨nd, rfl⟩⟩))
                go_meet
                case rel => exact ⟨_, (false), (by first | rfl | (simp; done) | (simp [*]; done)), H', ⟨by first | omega | exact Nat.le_refl _⟩, ⟨by (with_reducible repeat (first | refine blk_drewN ?_ _ | refine blk_drew ?_ | refine blk_alloc ?_ _)); exact BK108.out⟩, ⟨by repeat (first | (with_reducible first | exact HB.out | apply below_alloc | apply pw_below_drewN | apply below_drew1 | refine below_set ?_ GE108.out) | exact HB.out)⟩⟩
            · rw [if_neg c17] at H
              have c17b0 : (t112 == 1) = false := beq_eq_false_iff_ne.mpr c17
              have c17b1 : (t112 != 1) = true := bne_iff_ne.mpr c17
              have H' := Aside0.mk H
              clear H
              have hcz39_0 : w7.cell? ⟨gb108, 0, none⟩ = some (.int .u64 0) := (blk_cell BK108.out 0).trans rfl
              have hcz39_1 : w7.cell? ⟨gb108, 1, none⟩ = some (.int .u64 0) := (blk_cell BK108.out 1).trans rfl
              have hcz39_2 : w7.cell? ⟨gb108, 2, none⟩ = some (.bool false) := (blk_cell BK108.out 2).trans rfl
              have hfz39_0 := blk_frozen BK108.out 0
              have hfz39_1 := blk_frozen BK108.out 1
              have hfz39_2 := blk_frozen BK108.out 2
              go_wp2_with (first | (go_at_call 17; (with_reducible refine (addr_Bit.calls t104 t105 t106 0 t109 _ A10.out).mono ?_); rintro e w40 ⟨rfl, hb⟩; have n0_ := Aside0.mk (Kd.R_below (by (with_reducible repeat (first | apply Kd.R_alloc | apply Kd.R_drewN | apply Kd.R_drew)); exact (Kd.R_mono (Kd.R_far (p := ⟨gb108, 2, none⟩) (Kd.R_far (p := ⟨gb108, 1, none⟩) (Kd.R_far (p := ⟨gb108, 0, none⟩) (Kd.R_types HO103.out BK108.out (by decide)) (fun _ hk => hk.2) (.int .u64 t104)) (fun _ hk => hk.2) (.int .u64 t105)) (fun _ hk => hk.2) (.bool t106)) (fun _ h_ => h_.1))) hb); have n1_ := Aside0.mk (blk_below (g := gb108) (o := .cells #[.int .u64 t104, .int .u64 t105, .bool t106] 24 (0, 0)) (by (with_reducible repeat (first | refine blk_drewN ?_ _ | refine blk_drew ?_ | refine blk_alloc ?_ _)); refine blk_put (cs := #[.int .u64 t104, .int .u64 t105, .bool false]) ?_ 2 _ rfl; (with_reducible repeat (first | refine blk_drewN ?_ _ | refine blk_drew ?_ | refine blk_alloc ?_ _)); refine blk_put (cs := #[.int .u64 t104, .int .u64 0, .bool false]) ?_ 1 _ rfl; (with_reducible repeat (first | refine blk_drewN ?_ _ | refine blk_drew ?_ | refine blk_alloc ?_ _)); refine blk_put (cs := #[.int .u64 0, .int .u64 0, .bool false]) ?_ 0 _ rfl; (with_reducible repeat (first | refine blk_drewN ?_ _ | refine blk_drew ?_ | refine blk_alloc ?_ _)); exact BK108.out) hb); have n2_ := Aside0.mk (below_step (by repeat (first | (with_reducible first | exact HB.out | apply below_alloc | apply pw_below_drewN | apply below_drew1 | refine below_set ?_ GE108.out) | exact HB.out)) hb); clear HO103; clear BK108; clear HB; have HO103 := n0_; have BK108 := n1_; have HB := n2_; clear n0_ n1_ n2_; (try clear hb); (try clear hb2); (try clear hk); (try clear hi); have hcz41_0 : w40.cell? ⟨gb108, 0, none⟩ = some (.int .u64 t104) := (blk_cell BK108.out 0).trans rfl; have hcz41_1 : w40.cell? ⟨gb108, 1, none⟩ = some (.int .u64 t105) := (blk_cell BK108.out 1).trans rfl; have hcz41_2 : w40.cell? ⟨gb108, 2, none⟩ = some (.bool t106) := (blk_cell BK108.out 2).trans rfl; have hfz41_0 := blk_frozen BK108.out 0; have hfz41_1 := blk_frozen BK108.out 1; have hfz41_2 := blk_frozen BK108.out 2) | (go_at_call 17; (with_reducible refine (addr_Bit.calls t104 t105 t106 1 t110 _ A12.out).mono ?_); rintro e w42 ⟨rfl, hb⟩; have n0_ := Aside0.mk (Kd.R_below (by (with_reducible repeat (first | apply Kd.R_alloc | apply Kd.R_drewN | apply Kd.R_drew)); exact HO103.out) hb); have n1_ := Aside0.mk (blk_below (g := gb108) (o := .cells #[.int .u64 t104, .int .u64 t105, .bool t106] 24 (0, 0)) (by (with_reducible repeat (first | refine blk_drewN ?_ _ | refine blk_drew ?_ | refine blk_alloc ?_ _)); exact BK108.out) hb); have n2_ := Aside0.mk (below_step (by repeat (first | (with_reducible first | exact HB.out | apply below_alloc | apply pw_below_drewN | apply below_drew1 | refine below_set ?_ GE108.out) | exact HB.out)) hb); clear HO103; clear BK108; clear HB; have HO103 := n0_; have BK108 := n1_; have HB := n2_; clear n0_ n1_ n2_; (try clear hb); (try clear hb2); (try clear hk); (try clear hi); have hcz43_0 : w42.cell? ⟨gb108, 0, none⟩ = some (.int .u64 t104) := (blk_cell BK108.out 0).trans rfl; have hcz43_1 : w42.cell? ⟨gb108, 1, none⟩ = some (.int .u64 t105) := (blk_cell BK108.out 1).trans rfl; have hcz43_2 : w42.cell? ⟨gb108, 2, none⟩ = some (.bool t106) := (blk_cell BK108.out 2).trans rfl; have hfz43_0 := blk_frozen BK108.out 0; have hfz43_1 := blk_frozen BK108.out 1; have hfz43_2 := blk_frozen BK108.out 2) | (go_at_call 17; (with_reducible refine (addr_Bit.calls t104 t105 t106 2 t111 _ A14.out).mono ?_); rintro e w44 ⟨rfl, hb⟩; have n0_ := Aside0.mk (Kd.R_below (by (with_reducible repeat (first | apply Kd.R_alloc | apply Kd.R_drewN | apply Kd.R_drew)); exact HO103.out) hb); have n1_ := Aside0.mk (blk_below (g := gb108) (o := .cells #[.int .u64 t104, .int .u64 t105, .bool t106] 24 (0, 0)) (by (with_reducible repeat (first | refine blk_drewN ?_ _ | refine blk_drew ?_ | refine blk_alloc ?_ _)); exact BK108.out) hb); have n2_ := Aside0.mk (below_step (by repeat (first | (with_reducible first | exact HB.out | apply below_alloc | apply pw_below_drewN | apply below_drew1 | refine below_set ?_ GE108.out) | exact HB.out)) hb); clear HO103; clear BK108; clear HB; have HO103 := n0_; have BK108 := n1_; have HB := n2_; clear n0_ n1_ n2_; (try clear hb); (try clear hb2); (try clear hk); (try clear hi); have hcz45_0 : w44.cell? ⟨gb108, 0, none⟩ = some (.int .u64 t104) := (blk_cell BK108.out 0).trans rfl; have hcz45_1 : w44.cell? ⟨gb108, 1, none⟩ = some (.int .u64 t105) := (blk_cell BK108.out 1).trans rfl; have hcz45_2 : w44.cell? ⟨gb108, 2, none⟩ = some (.bool t106) := (blk_cell BK108.out 2).trans rfl; have hfz45_0 := blk_frozen BK108.out 0; have hfz45_1 := blk_frozen BK108.out 1; have hfz45_2 := blk_frozen BK108.out 2) | (go_at_call 17; (with_reducible refine (addr_Bit.calls t104 t105 t106 31 t112 _ A16.out).mono ?_); rintro e w46 ⟨rfl, hb⟩; have n0_ := Aside0.mk (Kd.R_below (by (with_reducible repeat (first | apply Kd.R_alloc | apply Kd.R_drewN | apply Kd.R_drew)); exact HO103.out) hb); have n1_ := Aside0.mk (blk_below (g := gb108) (o := .cells #[.int .u64 t104, .int .u64 t105, .bool t106] 24 (0, 0)) (by (with_reducible repeat (first | refine blk_drewN ?_ _ | refine blk_drew ?_ | refine blk_alloc ?_ _)); exact BK108.out) hb); have n2_ := Aside0.mk (below_step (by repeat (first | (with_reducible first | exact HB.out | apply below_alloc | apply pw_below_drewN | apply below_drew1 | refine below_set ?_ GE108.out) | exact HB.out)) hb); clear HO103; clear BK108; clear HB; have HO103 := n0_; have BK108 := n1_; have HB := n2_; clear n0_ n1_ n2_; (try clear hb); (try clear hb2); (try clear hk); (try clear hi)))
              go_meet
              case rel => exact ⟨_, (false), (by first | rfl | (simp; done) | (simp [*]; done)), H', ⟨by first | omega | exact Nat.le_refl _⟩, ⟨by (with_reducible repeat (first | refine blk_drewN ?_ _ | refine blk_drew ?_ | refine blk_alloc ?_ _)); exact BK108.out⟩, ⟨by repeat (first | (with_reducible first | exact HB.out | apply below_alloc | apply pw_below_drewN | apply below_drew1 | refine below_set ?_ GE108.out) | exact HB.out)⟩⟩
          · rw [if_neg c15] at H
            have c15b0 : (t111 == 0) = false := beq_eq_false_iff_ne.mpr c15
            have c15b1 : (t111 != 0) = true := bne_iff_ne.mpr c15
            have H' := Aside0.mk H
            clear H
            have hcz47_0 : w7.cell? ⟨gb108, 0, none⟩ = some (.int .u64 0) := (blk_cell BK108.out 0).trans rfl
            have hcz47_1 : w7.cell? ⟨gb108, 1, none⟩ = some (.int .u64 0) := (blk_cell BK108.out 1).trans rfl
            have hcz47_2 : w7.cell? ⟨gb108, 2, none⟩ = some (.bool false) := (blk_cell BK108.out 2).trans rfl
            have hfz47_0 := blk_frozen BK108.out 0
            have hfz47_1 := blk_frozen BK108.out 1
            have hfz47_2 := blk_frozen BK108.out 2
            go_wp2_with (first | (go_at_call 17; (with_reducible refine (addr_Bit.calls t104 t105 t106 0 t109 _ A10.out).mono ?_); rintro e w48 ⟨rfl, hb⟩; have n0_ := Aside0.mk (Kd.R_below (by (with_reducible repeat (first | apply Kd.R_alloc | apply Kd.R_drewN | apply Kd.R_drew)); exact (Kd.R_mono (Kd.R_far (p := ⟨gb108, 2, none⟩) (Kd.R_far (p := ⟨gb108, 1, none⟩) (Kd.R_far (p := ⟨gb108, 0, none⟩) (Kd.R_types HO103.out BK108.out (by decide)) (fun _ hk => hk.2) (.int .u64 t104)) (fun _ hk => hk.2) (.int .u64 t105)) (fun _ hk => hk.2) (.bool t106)) (fun _ h_ => h_.1))) hb); have n1_ := Aside0.mk (blk_below (g := gb108) (o := .cells #[.int .u64 t104, .int .u64 t105, .bool t106] 24 (0, 0)) (by (with_reducible repeat (first | refine blk_drewN ?_ _ | refine blk_drew ?_ | refine blk_alloc ?_ _)); refine blk_put (cs := #[.int .u64 t104, .int .u64 t105, .bool false]) ?_ 2 _ rfl; (with_reducible repeat (first | refine blk_drewN ?_ _ | refine blk_drew ?_ | refine blk_alloc ?_ _)); refine blk_put (cs := #[.int .u64 t104, .int .u64 0, .bool false]) ?_ 1 _ rfl; (with_reducible repeat (first | refine blk_drewN ?_ _ | refine blk_drew ?_ | refine blk_alloc ?_ _)); refine blk_put (cs := #[.int .u64 0, .int .u64 0, .bool false]) ?_ 0 _ rfl; (with_reducible repeat (first | refine blk_drewN ?_ _ | refine blk_drew ?_ | refine blk_alloc ?_ _)); exact BK108.out) hb); have n2_ := Aside0.mk (below_step (by repeat (first | (with_reducible first | exact HB.out | apply below_alloc | apply pw_below_drewN | apply below_drew1 | refine below_set ?_ GE108.out) | exact HB.out)) hb); clear HO103; clear BK108; clear HB; have HO103 := n0_; have BK108 := n1_; have HB := n2_; clear n0_ n1_ n2_; (try clear hb); (try clear hb2); (try clear hk); (try clear hi); have hcz49_0 : w48.cell? ⟨gb108, 0, none⟩ = some (.int .u64 t104) := (blk_cell BK108.out 0).trans rfl; have hcz49_1 : w48.cell? ⟨gb108, 1, none⟩ = some (.int .u64 t105) := (blk_cell BK108.out 1).trans rfl; have hcz49_2 : w48.cell? ⟨gb108, 2, none⟩ = some (.bool t106) := (blk_cell BK108.out 2).trans rfl; have hfz49_0 := blk_frozen BK108.out 0; have hfz49_1 := blk_frozen BK108.out 1; have hfz49_2 := blk_frozen BK108.out 2) | (go_at_call 17; (with_reducible refine (addr_Bit.calls t104 t105 t106 1 t110 _ A12.out).mono ?_); rintro e w50 ⟨rfl, hb⟩; have n0_ := Aside0.mk (Kd.R_below (by (with_reducible repeat (first | apply Kd.R_alloc | apply Kd.R_drewN | apply Kd.R_drew)); exact HO103.out) hb); have n1_ := Aside0.mk (blk_below (g := gb108) (o := .cells #[.int .u64 t104, .int .u64 t105, .bool t106] 24 (0, 0)) (by (with_reducible repeat (first | refine blk_drewN ?_ _ | refine blk_drew ?_ | refine blk_alloc ?_ _)); exact BK108.out) hb); have n2_ := Aside0.mk (below_step (by repeat (first | (with_reducible first | exact HB.out | apply below_alloc | apply pw_below_drewN | apply below_drew1 | refine below_set ?_ GE108.out) | exact HB.out)) hb); clear HO103; clear BK108; clear HB; have HO103 := n0_; have BK108 := n1_; have HB := n2_; clear n0_ n1_ n2_; (try clear hb); (try clear hb2); (try clear hk); (try clear hi); have hcz51_0 : w50.cell? ⟨gb108, 0, none⟩ = some (.int .u64 t104) := (blk_cell BK108.out 0).trans rfl; have hcz51_1 : w50.cell? ⟨gb108, 1, none⟩ = some (.int .u64 t105) := (blk_cell BK108.out 1).trans rfl; have hcz51_2 : w50.cell? ⟨gb108, 2, none⟩ = some (.bool t106) := (blk_cell BK108.out 2).trans rfl; have hfz51_0 := blk_frozen BK108.out 0; have hfz51_1 := blk_frozen BK108.out 1; have hfz51_2 := blk_frozen BK108.out 2) | (go_at_call 17; (with_reducible refine (addr_Bit.calls t104 t105 t106 2 t111 _ A14.out).mono ?_); rintro e w52 ⟨rfl, hb⟩; have n0_ := Aside0.mk (Kd.R_below (by (with_reducible repeat (first | apply Kd.R_alloc | apply Kd.R_drewN | apply Kd.R_drew)); exact HO103.out) hb); have n1_ := Aside0.mk (blk_below (g := gb108) (o := .cells #[.int .u64 t104, .int .u64 t105, .bool t106] 24 (0, 0)) (by (with_reducible repeat (first | refine blk_drewN ?_ _ | refine blk_drew ?_ | refine blk_alloc ?_ _)); exact BK108.out) hb); have n2_ := Aside0.mk (below_step (by repeat (first | (with_reducible first | exact HB.out | apply below_alloc | apply pw_below_drewN | apply below_drew1 | refine below_set ?_ GE108.out) | exact HB.out)) hb); clear HO103; clear BK108; clear HB; have HO103 := n0_; have BK108 := n1_; have HB := n2_; clear n0_ n1_ n2_; (try clear hb); (try clear hb2); (try clear hk); (try clear hi)))
            go_meet
            case rel => exact ⟨_, (false), (by first | rfl | (simp; done) | (simp [*]; done)), H', ⟨by first | omega | exact Nat.le_refl _⟩, ⟨by (with_reducible repeat (first | refine blk_drewN ?_ _ | refine blk_drew ?_ | refine blk_alloc ?_ _)); exact BK108.out⟩, ⟨by repeat (first | (with_reducible first | exact HB.out | apply below_alloc | apply pw_below_drewN | apply below_drew1 | refine below_set ?_ GE108.out) | exact HB.out)⟩⟩
        · rw [if_neg c13] at H
          have c13b0 : (t110 == 1) = false := beq_eq_false_iff_ne.mpr c13
          have c13b1 : (t110 != 1) = true := bne_iff_ne.mpr c13
          have H' := Aside0.mk H
          clear H
          have hcz53_0 : w7.cell? ⟨gb108, 0, none⟩ = some (.int .u64 0) := (blk_cell BK108.out 0).trans rfl
          have hcz53_1 : w7.cell? ⟨gb108, 1, none⟩ = some (.int .u64 0) := (blk_cell BK108.out 1).trans rfl
          have hcz53_2 : w7.cell? ⟨gb108, 2, none⟩ = some (.bool false) := (blk_cell BK108.out 2).trans rfl
          have hfz53_0 := blk_frozen BK108.out 0
          have hfz53_1 := blk_frozen BK108.out 1
          have hfz53_2 := blk_frozen BK108.out 2
          go_wp2_with (first | (go_at_call 17; (with_reducible refine (addr_Bit.calls t104 t105 t106 0 t109 _ A10.out).mono ?_); rintro e w54 ⟨rfl, hb⟩; have n0_ := Aside0.mk (Kd.R_below (by (with_reducible repeat (first | apply Kd.R_alloc | apply Kd.R_drewN | apply Kd.R_drew)); exact (Kd.R_mono (Kd.R_far (p := ⟨gb108, 2, none⟩) (Kd.R_far (p := ⟨gb108, 1, none⟩) (Kd.R_far (p := ⟨gb108, 0, none⟩) (Kd.R_types HO103.out BK108.out (by decide)) (fun _ hk => hk.2) (.int .u64 t104)) (fun _ hk => hk.2) (.int .u64 t105)) (fun _ hk => hk.2) (.bool t106)) (fun _ h_ => h_.1))) hb); have n1_ := Aside0.mk (blk_below (g := gb108) (o := .cells #[.int .u64 t104, .int .u64 t105, .bool t106] 24 (0, 0)) (by (with_reducible repeat (first | refine blk_drewN ?_ _ | refine blk_drew ?_ | refine blk_alloc ?_ _)); refine blk_put (cs := #[.int .u64 t104, .int .u64 t105, .bool false]) ?_ 2 _ rfl; (with_reducible repeat (first | refine blk_drewN ?_ _ | refine blk_drew ?_ | refine blk_alloc ?_ _)); refine blk_put (cs := #[.int .u64 t104, .int .u64 0, .bool false]) ?_ 1 _ rfl; (with_reducible repeat (first | refine blk_drewN ?_ _ | refine blk_drew ?_ | refine blk_alloc ?_ _)); refine blk_put (cs := #[.int .u64 0, .int .u64 0, .bool false]) ?_ 0 _ rfl; (with_reducible repeat (first | refine blk_drewN ?_ _ | refine blk_drew ?_ | refine blk_alloc ?_ _)); exact BK108.out) hb); have n2_ := Aside0.mk (below_step (by repeat (first | (with_reducible first | exact HB.out | apply below_alloc | apply pw_below_drewN | apply below_drew1 | refine below_set ?_ GE108.out) | exact HB.out)) hb); clear HO103; clear BK108; clear HB; have HO103 := n0_; have BK108 := n1_; have HB := n2_; clear n0_ n1_ n2_; (try clear hb); (try clear hb2); (try clear hk); (try clear hi); have hcz55_0 : w54.cell? ⟨gb108, 0, none⟩ = some (.int .u64 t104) := (blk_cell BK108.out 0).trans rfl; have hcz55_1 : w54.cell? ⟨gb108, 1, none⟩ = some (.int .u64 t105) := (blk_cell BK108.out 1).trans rfl; have hcz55_2 : w54.cell? ⟨gb108, 2, none⟩ = some (.bool t106) := (blk_cell BK108.out 2).trans rfl; have hfz55_0 := blk_frozen BK108.out 0; have hfz55_1 := blk_frozen BK108.out 1; have hfz55_2 := blk_frozen BK108.out 2) | (go_at_call 17; (with_reducible refine (addr_Bit.calls t104 t105 t106 1 t110 _ A12.out).mono ?_); rintro e w56 ⟨rfl, hb⟩; have n0_ := Aside0.mk (Kd.R_below (by (with_reducible repeat (first | apply Kd.R_alloc | apply Kd.R_drewN | apply Kd.R_drew)); exact HO103.out) hb); have n1_ := Aside0.mk (blk_below (g := gb108) (o := .cells #[.int .u64 t104, .int .u64 t105, .bool t106] 24 (0, 0)) (by (with_reducible repeat (first | refine blk_drewN ?_ _ | refine blk_drew ?_ | refine blk_alloc ?_ _)); exact BK108.out) hb); have n2_ := Aside0.mk (below_step (by repeat (first | (with_reducible first | exact HB.out | apply below_alloc | apply pw_below_drewN | apply below_drew1 | refine below_set ?_ GE108.out) | exact HB.out)) hb); clear HO103; clear BK108; clear HB; have HO103 := n0_; have BK108 := n1_; have HB := n2_; clear n0_ n1_ n2_; (try clear hb); (try clear hb2); (try clear hk); (try clear hi)))
          go_meet
          case rel => exact ⟨_, (false), (by first | rfl | (simp; done) | (simp [*]; done)), H', ⟨by first | omega | exact Nat.le_refl _⟩, ⟨by (with_reducible repeat (first | refine blk_drewN ?_ _ | refine blk_drew ?_ | refine blk_alloc ?_ _)); exact BK108.out⟩, ⟨by repeat (first | (with_reducible first | exact HB.out | apply below_alloc | apply pw_below_drewN | apply below_drew1 | refine below_set ?_ GE108.out) | exact HB.out)⟩⟩
      · rw [if_neg c11] at H
        have c11b0 : (t109 == 1) = false := beq_eq_false_iff_ne.mpr c11
        have c11b1 : (t109 != 1) = true := bne_iff_ne.mpr c11
        have H' := Aside0.mk H
        clear H
        have hcz57_0 : w7.cell? ⟨gb108, 0, none⟩ = some (.int .u64 0) := (blk_cell BK108.out 0).trans rfl
        have hcz57_1 : w7.cell? ⟨gb108, 1, none⟩ = some (.int .u64 0) := (blk_cell BK108.out 1).trans rfl
        have hcz57_2 : w7.cell? ⟨gb108, 2, none⟩ = some (.bool false) := (blk_cell BK108.out 2).trans rfl
        have hfz57_0 := blk_frozen BK108.out 0
        have hfz57_1 := blk_frozen BK108.out 1
        have hfz57_2 := blk_frozen BK108.out 2
        go_wp2_with (first | (go_at_call 17; (with_reducible refine (addr_Bit.calls t104 t105 t106 0 t109 _ A10.out).mono ?_); rintro e w58 ⟨rfl, hb⟩; have n0_ := Aside0.mk (Kd.R_below (by (with_reducible repeat (first | apply Kd.R_alloc | apply Kd.R_drewN | apply Kd.R_drew)); exact (Kd.R_mono (Kd.R_far (p := ⟨gb108, 2, none⟩) (Kd.R_far (p := ⟨gb108, 1, none⟩) (Kd.R_far (p := ⟨gb108, 0, none⟩) (Kd.R_types HO103.out BK108.out (by decide)) (fun _ hk => hk.2) (.int .u64 t104)) (fun _ hk => hk.2) (.int .u64 t105)) (fun _ hk => hk.2) (.bool t106)) (fun _ h_ => h_.1))) hb); have n1_ := Aside0.mk (blk_below (g := gb108) (o := .cells #[.int .u64 t104, .int .u64 t105, .bool t106] 24 (0, 0)) (by (with_reducible repeat (first | refine blk_drewN ?_ _ | refine blk_drew ?_ | refine blk_alloc ?_ _)); refine blk_put (cs := #[.int .u64 t104, .int .u64 t105, .bool false]) ?_ 2 _ rfl; (with_reducible repeat (first | refine blk_drewN ?_ _ | refine blk_drew ?_ | refine blk_alloc ?_ _)); refine blk_put (cs := #[.int .u64 t104, .int .u64 0, .bool false]) ?_ 1 _ rfl; (with_reducible repeat (first | refine blk_drewN ?_ _ | refine blk_drew ?_ | refine blk_alloc ?_ _)); refine blk_put (cs := #[.int .u64 0, .int .u64 0, .bool false]) ?_ 0 _ rfl; (with_reducible repeat (first | refine blk_drewN ?_ _ | refine blk_drew ?_ | refine blk_alloc ?_ _)); exact BK108.out) hb); have n2_ := Aside0.mk (below_step (by repeat (first | (with_reducible first | exact HB.out | apply below_alloc | apply pw_below_drewN | apply below_drew1 | refine below_set ?_ GE108.out) | exact HB.out)) hb); clear HO103; clear BK108; clear HB; have HO103 := n0_; have BK108 := n1_; have HB := n2_; clear n0_ n1_ n2_; (try clear hb); (try clear hb2); (try clear hk); (try clear hi)))
        go_meet
        case rel => exact ⟨_, (false), (by first | rfl | (simp; done) | (simp [*]; done)), H', ⟨by first | omega | exact Nat.le_refl _⟩, ⟨by (with_reducible repeat (first | refine blk_drewN ?_ _ | refine blk_drew ?_ | refine blk_alloc ?_ _)); exact BK108.out⟩, ⟨by repeat (first | (with_reducible first | exact HB.out | apply below_alloc | apply pw_below_drewN | apply below_drew1 | refine below_set ?_ GE108.out) | exact HB.out)⟩⟩
    · rw [if_neg c9] at H
      have c9b0 : (t107 == 0) = false := beq_eq_false_iff_ne.mpr c9
      have c9b1 : (t107 != 0) = true := bne_iff_ne.mpr c9
      (first | rw [c9b0] | (simp only [i64_w, i32_w]; rw [c9b0]) | skip)
      have H' := Aside0.mk H
      clear H
      go_wp2
      go_meet
      case rel => exact ⟨_, (false), (by first | rfl | (simp; done) | (simp [*]; done)), H', ⟨by first | omega | exact Nat.le_refl _⟩, ⟨by (with_reducible repeat (first | refine blk_drewN ?_ _ | refine blk_drew ?_ | refine blk_alloc ?_ _)); refine blk_put (cs := #[.int .u64 t104, .int .u64 t105, .bool false]) ?_ 2 _ rfl; (with_reducible repeat (first | refine blk_drewN ?_ _ | refine blk_drew ?_ | refine blk_alloc ?_ _)); refine blk_put (cs := #[.int .u64 t104, .int .u64 0, .bool false]) ?_ 1 _ rfl; (with_reducible repeat (first | refine blk_drewN ?_ _ | refine blk_drew ?_ | refine blk_alloc ?_ _)); refine blk_put (cs := #[.int .u64 0, .int .u64 0, .bool false]) ?_ 0 _ rfl; (with_reducible repeat (first | refine blk_drewN ?_ _ | refine blk_drew ?_ | refine blk_alloc ?_ _)); exact BK108.out⟩, ⟨by repeat (first | (with_reducible first | exact HB.out | apply below_alloc | apply pw_below_drewN | apply below_drew1 | refine below_set ?_ GE108.out) | exact HB.out)⟩⟩
  case rest =>
    clear HC2
    try clear c1
    try clear c2
    try clear p2
    try clear c9
    try clear c9b0
    try clear c9b1
    try clear c11
    try clear c11b0
    try clear c11b1
    try clear c13
    try clear c13b0
    try clear c13b1
    try clear c14
    try clear c15
    try clear c15b0
    try clear c15b1
    try clear c17
    try clear c17b0
    try clear c17b1
    try clear c19
    try clear c19b0
    try clear c19b1
    try clear c27
    try clear hcz21_0
    try clear hcz21_1
    try clear hcz21_2
    try clear hcz23_0
    try clear hcz23_1
    try clear hcz23_2
    try clear hcz25_0
    try clear hcz25_1
    try clear hcz25_2
    try clear hcz27_0
    try clear hcz27_1
    try clear hcz27_2
    try clear hcz29_0
    try clear hcz29_1
    try clear hcz29_2
    try clear hcz31_0
    try clear hcz31_1
    try clear hcz31_2
    try clear hcz33_0
    try clear hcz33_1
    try clear hcz33_2
    try clear hcz35_0
    try clear hcz35_1
    try clear hcz35_2
    try clear hcz37_0
    try clear hcz37_1
    try clear hcz37_2
    try clear hcz39_0
    try clear hcz39_1
    try clear hcz39_2
    try clear hcz41_0
    try clear hcz41_1
    try clear hcz41_2
    try clear hcz43_0
    try clear hcz43_1
    try clear hcz43_2
    try clear hcz45_0
    try clear hcz45_1
    try clear hcz45_2
    try clear hcz47_0
    try clear hcz47_1
    try clear hcz47_2
    try clear hcz49_0
    try clear hcz49_1
    try clear hcz49_2
    try clear hcz51_0
    try clear hcz51_1
    try clear hcz51_2
    try clear hcz53_0
    try clear hcz53_1
    try clear hcz53_2
    try clear hcz55_0
    try clear hcz55_1
    try clear hcz55_2
    try clear hcz57_0
    try clear hcz57_1
    try clear hcz57_2
    try clear hcz8_0
    try clear hcz8_1
    try clear hcz8_2
    try clear hfz21_0
    try clear hfz21_1
    try clear hfz21_2
    try clear hfz23_0
    try clear hfz23_1
    try clear hfz23_2
    try clear hfz25_0
    try clear hfz25_1
    try clear hfz25_2
    try clear hfz27_0
    try clear hfz27_1
    try clear hfz27_2
    try clear hfz29_0
    try clear hfz29_1
    try clear hfz29_2
    try clear hfz31_0
    try clear hfz31_1
    try clear hfz31_2
    try clear hfz33_0
    try clear hfz33_1
    try clear hfz33_2
    try clear hfz35_0
    try clear hfz35_1
    try clear hfz35_2
    try clear hfz37_0
    try clear hfz37_1
    try clear hfz37_2
    try clear hfz39_0
    try clear hfz39_1
    try clear hfz39_2
    try clear hfz41_0
    try clear hfz41_1
    try clear hfz41_2
    try clear hfz43_0
    try clear hfz43_1
    try clear hfz43_2
    try clear hfz45_0
    try clear hfz45_1
    try clear hfz45_2
    try clear hfz47_0
    try clear hfz47_1
    try clear hfz47_2
    try clear hfz49_0
    try clear hfz49_1
    try clear hfz49_2
    try clear hfz51_0
    try clear hfz51_1
    try clear hfz51_2
    try clear hfz53_0
    try clear hfz53_1
    try clear hfz53_2
    try clear hfz55_0
    try clear hfz55_1
    try clear hfz55_2
    try clear hfz57_0
    try clear hfz57_1
    try clear hfz57_2
    try clear hfz8_0
    try clear hfz8_1
    try clear hfz8_2
    obtain ⟨kq, x0_1, rfl, HA, HJ1, BK108, HB⟩ := hcut
    cases kq with
    | zero => exact absurd HA.out (by simp [kedgelaw01_awake.j0])
    | succ kj1 =>
      have H := HA.out
      clear HA
      simp only [kedgelaw01_awake.j0] at H
      obtain rfl := Option.some.inj H
      go_wp2
      go_ret
      exact ⟨by first | rfl | (simp [errW_none, errW_some] <;> rfl) | (simp [*, errW_none, errW_some] <;> rfl), by repeat (first | (with_reducible first | exact HB.out | apply below_alloc | apply pw_below_drewN | apply below_drew1 | refine below_set ?_ GE108.out) | exact HB.out)⟩

/-- THE ONE PURE STATEMENT of kedgelaw01_awake: yours. -/
def kedgelaw01_awake.Pure : Prop := ∃ k, kedgelaw01_awake.f k  = some true
theorem kedgelaw01_awake.walk (P : kedgelaw01_awake.Pure)  (w : World)  :
    Calls Try.prog 14 #[] w fun e w' => e = .returned (.bool true) ∧ Below w.heap.size w w' := by
  obtain ⟨k, h⟩ := P  
  refine (kedgelaw01_awake.calls k  true w h).mono ?_
  rintro e w' ⟨rfl, hd⟩
  exact ⟨rfl, hd⟩

end
end Go.Proofs.Ytbaeaiiohkfieaa.PW1
