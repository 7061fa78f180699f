-- Written by a program of this session for this claim (wip/print2.sh). Lean checks it.
import Derived.Test.YtapimggcnneabaaPDGx0
import Derived.Test.YtapimggcnneabaaPDGx1
namespace Go.Proofs.Ytapimggcnneabaa.PDG
open Go.Proofs.YtapimggcnneabaaW.PrintWords
attribute [local go_sem high] fx_eql fx_neq fx_lss fx_leq fx_gtr fx_geq fx_add fx_sub fx_mul fx_neg fx_toint cxx_add cxx_sub cxx_mul cxx_eql cxx_neq cxx_pick st_float st_complex
open Go.RowKit Go.Proofs.YtapimggcnneabaaW.PrintWords Go.Proofs.YtapimggcnneabaaW.PrintLast Go.Proofs.YtapimggcnneabaaW.PrintMore
attribute [local go_sem] max2_int min2_int max_two min_two max_three min_three max_four min_four   -- for this text's walks alone
set_option linter.unusedVariables false
set_option linter.unusedSimpArgs false

/-! ### pylonlaw16_good: function 51 -/
def pylonlaw16_good.f (a0_0 : Int) (a0_1 : Int) (a0_2 : Int) (a0_3 : Int) (a0_4 : Int) (a1 : Int) : Option (Int × Int × Int × Int × Int) := (some (([15, 30, 60] : List Int) : List Int)).bind fun y131 => (if 0 ≤ (wrap64 (Int.tmod (IntKind.u64.wrap (a0_1)) 3)) then (if (wrap64 (Int.tmod (IntKind.u64.wrap (a0_1)) 3)) < (y131.length : Int) then (if 0 ≤ (wrap64 (Int.tmod (IntKind.u64.wrap (a0_2)) 3)) then (if (wrap64 (Int.tmod (IntKind.u64.wrap (a0_2)) 3)) < (y131.length : Int) then (if (IntKind.u64.wrap (wrap64 (a1 + 1))) = 0 then (none) else (if (IntKind.u64.wrap (wrap64 ((wrap64 (a1 + 1)) - (wrap64 (Int.tmod (IntKind.u64.wrap (a0_3)) (IntKind.u64.wrap (wrap64 (a1 + 1)))))))) = 0 then (none) else (some (wrap64 ((wrap64 (Int.tmod (IntKind.u64.wrap (a0_0)) 1000000)) * (wrap64 (60 * (rd y131 (wrap64 (Int.tmod (IntKind.u64.wrap (a0_1)) 3)))))), rd y131 (wrap64 (Int.tmod (IntKind.u64.wrap (a0_1)) 3)), rd y131 (wrap64 (Int.tmod (IntKind.u64.wrap (a0_2)) 3)), wrap64 (Int.tmod (IntKind.u64.wrap (a0_3)) (IntKind.u64.wrap (wrap64 (a1 + 1)))), wrap64 ((wrap64 (Int.tmod (IntKind.u64.wrap (a0_3)) (IntKind.u64.wrap (wrap64 (a1 + 1))))) + (wrap64 (Int.tmod (IntKind.u64.wrap (a0_4)) (IntKind.u64.wrap (wrap64 ((wrap64 (a1 + 1)) - (wrap64 (Int.tmod (IntKind.u64.wrap (a0_3)) (IntKind.u64.wrap (wrap64 (a1 + 1))))))))))))))) else (none)) else (none)) else (none)) else (none))
def pylonlaw16_good.T6 : Bool × List (List Nat × List Nat) := (true, [([], []), ([0], [0]), ([], []), ([2], [2]), ([3], [3]), ([], []), ([5], [5]), ([], []), ([7], [7]), ([6, 8], [6, 8]), ([9], [9]), ([4, 10], [4, 10]), ([11], [11]), ([1, 12], [1, 12]), ([0, 1, 2, 3, 4, 5, 6, 7, 8, 9, 10, 11, 12, 13], []), ([14, 13, 0, 1, 2, 3, 4, 5, 6, 7, 8, 9, 10, 11, 12, 13], [13, 14])])
def pylonlaw16_good.B6 : List Nat := [0, 1, 0, 4, 12, 0, 32, 0, 128, 480, 992, 2044, 4092, 8191, 16383, 32767]
theorem pylonlaw16_good.tab6 : rtab .any (opsOf Try.f51 6) = pylonlaw16_good.T6 := by kernel_rfl
theorem pylonlaw16_good.bits6 : waitsOk pylonlaw16_good.T6.2 pylonlaw16_good.B6 = true := by kernel_rfl
set_option maxHeartbeats 8000000 in
set_option maxRecDepth 100000 in
theorem pylonlaw16_good.calls (a0_0 : Int) (a0_1 : Int) (a0_2 : Int) (a0_3 : Int) (a0_4 : Int) (a1 : Int) (r1 : Int) (r2 : Int) (r3 : Int) (r4 : Int) (r5 : Int) (w : World) (h : pylonlaw16_good.f a0_0 a0_1 a0_2 a0_3 a0_4 a1 = some (r1, r2, r3, r4, r5)) :
    Calls Try.prog 51 #[.agg #[.int .i64 a0_0, .int .i64 a0_1, .int .i64 a0_2, .int .i64 a0_3, .int .i64 a0_4], .int .i64 a1] w fun e w' => e = .returned (.agg #[.int .i64 r1, .int .i64 r2, .int .i64 r3, .int .i64 r4, .int .i64 r5]) ∧ Below w.heap.size w w' := by
  have hu82 := Try.underlying82
  have HB := Aside0.mk (Below.refl w.heap.size w)
  have H : ((some (([15, 30, 60] : List Int) : List Int)).bind fun y131 => (if 0 ≤ (wrap64 (Int.tmod (IntKind.u64.wrap (a0_1)) 3)) then (if (wrap64 (Int.tmod (IntKind.u64.wrap (a0_1)) 3)) < (y131.length : Int) then (if 0 ≤ (wrap64 (Int.tmod (IntKind.u64.wrap (a0_2)) 3)) then (if (wrap64 (Int.tmod (IntKind.u64.wrap (a0_2)) 3)) < (y131.length : Int) then (if (IntKind.u64.wrap (wrap64 (a1 + 1))) = 0 then (none) else (if (IntKind.u64.wrap (wrap64 ((wrap64 (a1 + 1)) - (wrap64 (Int.tmod (IntKind.u64.wrap (a0_3)) (IntKind.u64.wrap (wrap64 (a1 + 1)))))))) = 0 then (none) else (some (wrap64 ((wrap64 (Int.tmod (IntKind.u64.wrap (a0_0)) 1000000)) * (wrap64 (60 * (rd y131 (wrap64 (Int.tmod (IntKind.u64.wrap (a0_1)) 3)))))), rd y131 (wrap64 (Int.tmod (IntKind.u64.wrap (a0_1)) 3)), rd y131 (wrap64 (Int.tmod (IntKind.u64.wrap (a0_2)) 3)), wrap64 (Int.tmod (IntKind.u64.wrap (a0_3)) (IntKind.u64.wrap (wrap64 (a1 + 1)))), wrap64 ((wrap64 (Int.tmod (IntKind.u64.wrap (a0_3)) (IntKind.u64.wrap (wrap64 (a1 + 1))))) + (wrap64 (Int.tmod (IntKind.u64.wrap (a0_4)) (IntKind.u64.wrap (wrap64 ((wrap64 (a1 + 1)) - (wrap64 (Int.tmod (IntKind.u64.wrap (a0_3)) (IntKind.u64.wrap (wrap64 (a1 + 1))))))))))))))) else (none)) else (none)) else (none)) else (none))) = some (r1, r2, r3, r4, r5) := h
  clear h
  obtain ⟨y131, hy131⟩ : ∃ y_ : List Int, y_ = (([15, 30, 60] : List Int)) := ⟨_, rfl⟩
  replace H : (if 0 ≤ (wrap64 (Int.tmod (IntKind.u64.wrap (a0_1)) 3)) then (if (wrap64 (Int.tmod (IntKind.u64.wrap (a0_1)) 3)) < (y131.length : Int) then (if 0 ≤ (wrap64 (Int.tmod (IntKind.u64.wrap (a0_2)) 3)) then (if (wrap64 (Int.tmod (IntKind.u64.wrap (a0_2)) 3)) < (y131.length : Int) then (if (IntKind.u64.wrap (wrap64 (a1 + 1))) = 0 then (none) else (if (IntKind.u64.wrap (wrap64 ((wrap64 (a1 + 1)) - (wrap64 (Int.tmod (IntKind.u64.wrap (a0_3)) (IntKind.u64.wrap (wrap64 (a1 + 1)))))))) = 0 then (none) else (some (wrap64 ((wrap64 (Int.tmod (IntKind.u64.wrap (a0_0)) 1000000)) * (wrap64 (60 * (rd y131 (wrap64 (Int.tmod (IntKind.u64.wrap (a0_1)) 3)))))), rd y131 (wrap64 (Int.tmod (IntKind.u64.wrap (a0_1)) 3)), rd y131 (wrap64 (Int.tmod (IntKind.u64.wrap (a0_2)) 3)), wrap64 (Int.tmod (IntKind.u64.wrap (a0_3)) (IntKind.u64.wrap (wrap64 (a1 + 1)))), wrap64 ((wrap64 (Int.tmod (IntKind.u64.wrap (a0_3)) (IntKind.u64.wrap (wrap64 (a1 + 1))))) + (wrap64 (Int.tmod (IntKind.u64.wrap (a0_4)) (IntKind.u64.wrap (wrap64 ((wrap64 (a1 + 1)) - (wrap64 (Int.tmod (IntKind.u64.wrap (a0_3)) (IntKind.u64.wrap (wrap64 (a1 + 1))))))))))))))) else (none)) else (none)) else (none)) else (none)) = some (r1, r2, r3, r4, r5) := by first | (rw [hy131]; with_reducible exact H) | (have H2_ := (Option.bind_some _ _).symm.trans H; rw [hy131]; with_reducible exact H2_) | (have H2_ := (Option.bind_some _ _).symm.trans H; with_reducible exact H2_) | with_reducible exact H | (rw [hy131]; exact H) | exact H
  have Ny131 := Aside0.mk hy131
  clear hy131
  obtain ⟨ji3, hji3⟩ : ∃ j_ : Int, (wrap64 (Int.tmod (IntKind.u64.wrap (a0_1)) 3)) = j_ := ⟨_, rfl⟩
  replace H : (if 0 ≤ (ji3) then (if (ji3) < (y131.length : Int) then (if 0 ≤ (wrap64 (Int.tmod (IntKind.u64.wrap (a0_2)) 3)) then (if (wrap64 (Int.tmod (IntKind.u64.wrap (a0_2)) 3)) < (y131.length : Int) then (if (IntKind.u64.wrap (wrap64 (a1 + 1))) = 0 then (none) else (if (IntKind.u64.wrap (wrap64 ((wrap64 (a1 + 1)) - (wrap64 (Int.tmod (IntKind.u64.wrap (a0_3)) (IntKind.u64.wrap (wrap64 (a1 + 1)))))))) = 0 then (none) else (some (wrap64 ((wrap64 (Int.tmod (IntKind.u64.wrap (a0_0)) 1000000)) * (wrap64 (60 * (rd y131 (ji3))))), rd y131 (ji3), rd y131 (wrap64 (Int.tmod (IntKind.u64.wrap (a0_2)) 3)), wrap64 (Int.tmod (IntKind.u64.wrap (a0_3)) (IntKind.u64.wrap (wrap64 (a1 + 1)))), wrap64 ((wrap64 (Int.tmod (IntKind.u64.wrap (a0_3)) (IntKind.u64.wrap (wrap64 (a1 + 1))))) + (wrap64 (Int.tmod (IntKind.u64.wrap (a0_4)) (IntKind.u64.wrap (wrap64 ((wrap64 (a1 + 1)) - (wrap64 (Int.tmod (IntKind.u64.wrap (a0_3)) (IntKind.u64.wrap (wrap64 (a1 + 1))))))))))))))) else (none)) else (none)) else (none)) else (none)) = some (r1, r2, r3, r4, r5) := by first | (rw [hji3] at H; exact H) | (simp only [hji3] at H ⊢; exact H)
  have hji3w : (IntKind.i64.wrap (Int.tmod (IntKind.u64.wrap (a0_1)) 3)) = ji3 := (i64_w _).trans hji3
  by_cases c4 : 0 ≤ (ji3)
  · rw [if_pos c4] at H
    have c4b0 : decide (0 ≤ (ji3)) = true := decide_eq_true c4
    clear c4
    by_cases c5 : (ji3) < (y131.length : Int)
    · rw [if_pos c5] at H
      have c5b0 : decide ((ji3) < (y131.length : Int)) = true := decide_eq_true c5
      clear c5
      obtain ⟨ji6, hji6⟩ : ∃ j_ : Int, (wrap64 (Int.tmod (IntKind.u64.wrap (a0_2)) 3)) = j_ := ⟨_, rfl⟩
      replace H : (if 0 ≤ (ji6) then (if (ji6) < (y131.length : Int) then (if (IntKind.u64.wrap (wrap64 (a1 + 1))) = 0 then (none) else (if (IntKind.u64.wrap (wrap64 ((wrap64 (a1 + 1)) - (wrap64 (Int.tmod (IntKind.u64.wrap (a0_3)) (IntKind.u64.wrap (wrap64 (a1 + 1)))))))) = 0 then (none) else (some (wrap64 ((wrap64 (Int.tmod (IntKind.u64.wrap (a0_0)) 1000000)) * (wrap64 (60 * (rd y131 (ji3))))), rd y131 (ji3), rd y131 (ji6), wrap64 (Int.tmod (IntKind.u64.wrap (a0_3)) (IntKind.u64.wrap (wrap64 (a1 + 1)))), wrap64 ((wrap64 (Int.tmod (IntKind.u64.wrap (a0_3)) (IntKind.u64.wrap (wrap64 (a1 + 1))))) + (wrap64 (Int.tmod (IntKind.u64.wrap (a0_4)) (IntKind.u64.wrap (wrap64 ((wrap64 (a1 + 1)) - (wrap64 (Int.tmod (IntKind.u64.wrap (a0_3)) (IntKind.u64.wrap (wrap64 (a1 + 1))))))))))))))) else (none)) else (none)) = some (r1, r2, r3, r4, r5) := by first | (rw [hji6] at H; exact H) | (simp only [hji6] at H ⊢; exact H)
      have hji6w : (IntKind.i64.wrap (Int.tmod (IntKind.u64.wrap (a0_2)) 3)) = ji6 := (i64_w _).trans hji6
      by_cases c7 : 0 ≤ (ji6)
      · rw [if_pos c7] at H
        have c7b0 : decide (0 ≤ (ji6)) = true := decide_eq_true c7
        clear c7
        by_cases c8 : (ji6) < (y131.length : Int)
        · rw [if_pos c8] at H
          have c8b0 : decide ((ji6) < (y131.length : Int)) = true := decide_eq_true c8
          clear c8
          by_cases c9 : (IntKind.u64.wrap (wrap64 (a1 + 1))) = 0
          · rw [if_pos c9] at H
            exact absurd H (by simp)
          · rw [if_neg c9] at H
            have c9b0 : ((IntKind.u64.wrap (wrap64 (a1 + 1))) == 0) = false := beq_eq_false_iff_ne.mpr c9
            have c9b1 : ((IntKind.u64.wrap (wrap64 (a1 + 1))) != 0) = true := bne_iff_ne.mpr c9
            by_cases c10 : (IntKind.u64.wrap (wrap64 ((wrap64 (a1 + 1)) - (wrap64 (Int.tmod (IntKind.u64.wrap (a0_3)) (IntKind.u64.wrap (wrap64 (a1 + 1)))))))) = 0
            · rw [if_pos c10] at H
              exact absurd H (by simp)
            · rw [if_neg c10] at H
              have c10b0 : ((IntKind.u64.wrap (wrap64 ((wrap64 (a1 + 1)) - (wrap64 (Int.tmod (IntKind.u64.wrap (a0_3)) (IntKind.u64.wrap (wrap64 (a1 + 1)))))))) == 0) = false := beq_eq_false_iff_ne.mpr c10
              have c10b1 : ((IntKind.u64.wrap (wrap64 ((wrap64 (a1 + 1)) - (wrap64 (Int.tmod (IntKind.u64.wrap (a0_3)) (IntKind.u64.wrap (wrap64 (a1 + 1)))))))) != 0) = true := bne_iff_ne.mpr c10
              simp only [Option.some.injEq, Prod.mk.injEq] at H
              obtain ⟨rfl, rfl, rfl, rfl, rfl⟩ := H
              go_enter Try.func51, Try.ntmps51
              try go_wp2_with (first | ((with_reducible refine gate_dst (N := 2) rfl ?_); refine box_event ?hg (N := 2) ?hd (cs := #[.int .i64 a0_0, .int .i64 a0_1, .int .i64 a0_2, .int .i64 a0_3, .int .i64 a0_4]) (t := 82) ?hr ?_; (case hd => rfl); (case hg => rfl); (case hr => first | (go_simp; done) | (go_simp; rfl)); intro gb129 hg w11 hbox hb; have n0_ := Aside0.mk (below_step (by repeat (first | (with_reducible first | exact HB.out | apply below_alloc | apply pw_below_drewN | apply below_drew1) | exact HB.out)) hb); have n1_ := Aside0.mk (hbox); have n2_ := Aside0.mk ((by rw [hg]; exact (below_size (by repeat (first | (with_reducible first | exact HB.out | apply below_alloc | apply pw_below_drewN | apply below_drew1) | exact HB.out))) : w.heap.size ≤ gb129)); have n3_ := Aside0.mk ((by rw [hg]; exact (below_size (by repeat (first | (with_reducible first | exact HB.out | apply below_alloc | apply pw_below_drewN | apply below_drew1) | exact HB.out))) : w.heap.size ≤ gb129)); clear HB; have HB := n0_; have BK129 := n1_; have GW129 := n2_; have GE129 := n3_; clear n0_ n1_ n2_ n3_; clear hb hbox hg) | ((with_reducible refine gate_dst (N := 4) rfl ?_); refine box_event ?hg (N := 4) ?hd (cs := #[.int .i64 0, .int .i64 0, .int .i64 0, .int .i64 0, .int .i64 0]) (t := 82) ?hr ?_; (case hd => rfl); (case hg => rfl); (case hr => first | (go_simp; done) | (go_simp; rfl)); intro gb130 hg w12 hbox hb; have n0_ := Aside0.mk (blk_below (g := gb129) (o := .cells #[.int .i64 a0_0, .int .i64 a0_1, .int .i64 a0_2, .int .i64 a0_3, .int .i64 a0_4] 82 (0, 0)) (by (with_reducible repeat (first | refine blk_drewN ?_ _ | refine blk_drew ?_ | refine blk_alloc ?_ _)); exact BK129.out) hb); have n1_ := Aside0.mk (below_step (by repeat (first | (with_reducible first | exact HB.out | apply below_alloc | apply pw_below_drewN | apply below_drew1 | refine below_set ?_ GE129.out) | exact HB.out)) hb); have n2_ := Aside0.mk (hbox); have n3_ := Aside0.mk ((by rw [hg]; exact (below_size (by repeat (first | (with_reducible first | exact HB.out | apply below_alloc | apply pw_below_drewN | apply below_drew1 | refine below_set ?_ GE129.out) | exact HB.out))) : w.heap.size ≤ gb130)); have n4_ := Aside0.mk ((by rw [hg]; exact (below_size (by repeat (first | (with_reducible first | exact HB.out | apply below_alloc | apply pw_below_drewN | apply below_drew1 | refine below_set ?_ GE129.out) | exact HB.out))) : w.heap.size ≤ gb130)); have n5_ := Aside0.mk ((by rw [hg]; exact Nat.ne_of_lt (blk_lt (g := gb129) (o := .cells #[.int .i64 a0_0, .int .i64 a0_1, .int .i64 a0_2, .int .i64 a0_3, .int .i64 a0_4] 82 (0, 0)) (by (with_reducible repeat (first | refine blk_drewN ?_ _ | refine blk_drew ?_ | refine blk_alloc ?_ _)); exact BK129.out)) : gb129 ≠ gb130)); have n6_ := Aside0.mk ((by rw [hg]; exact Nat.ne_of_gt (blk_lt (g := gb129) (o := .cells #[.int .i64 a0_0, .int .i64 a0_1, .int .i64 a0_2, .int .i64 a0_3, .int .i64 a0_4] 82 (0, 0)) (by (with_reducible repeat (first | refine blk_drewN ?_ _ | refine blk_drew ?_ | refine blk_alloc ?_ _)); exact BK129.out)) : gb130 ≠ gb129)); clear BK129; clear HB; have BK129 := n0_; have HB := n1_; have BK130 := n2_; have GW130 := n3_; have GE130 := n4_; have NB129_130 := n5_; have NB130_129 := n6_; clear n0_ n1_ n2_ n3_ n4_ n5_ n6_; clear hb hbox hg) | ((with_reducible refine gate_dst (N := 6) rfl ?_); refine Kd.R_lit (Kd.int .i64) _ 3 ?hg (N := 6) ?hd (xs := ([15, 30, 60] : List Int)) (inner := [.int .i64 15, .int .i64 30, .int .i64 60]) (ok := fun _ => True) (okp := fun _ => True) ?hr ?hp (fun _ hk => hk) trivial (Below.refl _ _) (Nat.le_refl _) (by simp) ?_; (case hd => rfl); (case hg => rfl); (case hr => first | (go_simp; done) | (go_simp; rfl)); (case hp => exact (Reps.one (show Kd.M (Kd.int .i64) _ _ _ 15 [.int .i64 15] from rfl) (Reps.one (show Kd.M (Kd.int .i64) _ _ _ 30 [.int .i64 30] from rfl) (Reps.one (show Kd.M (Kd.int .i64) _ _ _ 60 [.int .i64 60] from rfl) (Reps.none _ _))))); intro v132 w13 ho14 hb hg_ hnew_; clear hg_ hnew_; (first | rw [← Ny131.out] at ho14 | (simp only [Int.reduceToNat] at ho14; rw [← Ny131.out] at ho14)); have n0_ := Aside0.mk (Kd.R_lower ho14 (below_size (by repeat (first | (with_reducible first | exact HB.out | apply below_alloc | apply pw_below_drewN | apply below_drew1 | refine below_set ?_ GE129.out | refine below_set ?_ GE130.out) | exact HB.out)))); have n1_ := Aside0.mk (blk_below (g := gb129) (o := .cells #[.int .i64 a0_0, .int .i64 a0_1, .int .i64 a0_2, .int .i64 a0_3, .int .i64 a0_4] 82 (0, 0)) (by (with_reducible repeat (first | refine blk_drewN ?_ _ | refine blk_drew ?_ | refine blk_alloc ?_ _)); exact BK129.out) hb); have n2_ := Aside0.mk (blk_below (g := gb130) (o := .cells #[.int .i64 0, .int .i64 0, .int .i64 0, .int .i64 0, .int .i64 0] 82 (0, 0)) (by (with_reducible repeat (first | refine blk_drewN ?_ _ | refine blk_drew ?_ | refine blk_alloc ?_ _)); exact BK130.out) hb); have n3_ := Aside0.mk (below_step (by repeat (first | (with_reducible first | exact HB.out | apply below_alloc | apply pw_below_drewN | apply below_drew1 | refine below_set ?_ GE129.out | refine below_set ?_ GE130.out) | exact HB.out)) hb); clear BK129; clear BK130; clear HB; have HO133 := n0_; have BK129 := n1_; have BK130 := n2_; have HB := n3_; clear n0_ n1_ n2_ n3_; clear hb ho14; have hnb15 := NB129_130.out; have hnc15 := NB130_129.out; have hcz16_0 : w13.cell? ⟨gb129, 0, none⟩ = some (.int .i64 a0_0) := (blk_cell BK129.out 0).trans rfl; have hcz16_1 : w13.cell? ⟨gb129, 1, none⟩ = some (.int .i64 a0_1) := (blk_cell BK129.out 1).trans rfl; have hcz16_2 : w13.cell? ⟨gb129, 2, none⟩ = some (.int .i64 a0_2) := (blk_cell BK129.out 2).trans rfl; have hcz16_3 : w13.cell? ⟨gb129, 3, none⟩ = some (.int .i64 a0_3) := (blk_cell BK129.out 3).trans rfl; have hcz16_4 : w13.cell? ⟨gb129, 4, none⟩ = some (.int .i64 a0_4) := (blk_cell BK129.out 4).trans rfl; have hfz16_0 := blk_frozen BK129.out 0; have hfz16_1 := blk_frozen BK129.out 1; have hfz16_2 := blk_frozen BK129.out 2; have hfz16_3 := blk_frozen BK129.out 3; have hfz16_4 := blk_frozen BK129.out 4; obtain ⟨Ao17, co17, eo17⟩ := Kd.R_slice HO133.out; subst eo17; have p134 : 0 ≤ ((ji3) : Int) := of_decide_eq_true (by first | (with_reducible assumption) | assumption); have q134 : (ji3) < (y131.length : Int) := of_decide_eq_true (by first | (with_reducible assumption) | assumption); obtain ⟨ad134, e134, hx134_0⟩ := Kd.at_int (Kd.R_reads' HO133.out).2.2 (ji3) p134 q134; cases e134; replace p134 := eq_true p134; replace q134 := eq_true q134; have p135 : 0 ≤ ((ji6) : Int) := of_decide_eq_true (by first | (with_reducible assumption) | assumption); have q135 : (ji6) < (y131.length : Int) := of_decide_eq_true (by first | (with_reducible assumption) | assumption); obtain ⟨ad135, e135, hx135_0⟩ := Kd.at_int (Kd.R_reads' HO133.out).2.2 (ji6) p135 q135; obtain rfl : ad134 = ad135 := (by injection e135); have hn135_0 : ad134.block ≠ gb129 := Kd.own_blk (Kd.R_ne HO133.out BK129.out (by decide)); replace hx135_0 := (cell_far (p := ⟨gb129, 1, none⟩) (by first | (rw [add_block]; exact hn135_0) | (show (Addr.add _ _).block ≠ _; rw [add_block]; exact hn135_0) | exact hn135_0) (.int .i64 (rd y131 (ji3)))).trans hx135_0; clear hn135_0; replace p135 := eq_true p135; replace q135 := eq_true q135))
              have n0_ : Aside0 (Kd.R (Kd.int .i64) 3 ((((w13.setCell ⟨gb129, 1, none⟩ (.int .i64 (rd y131 (ji3)))).setCell ⟨gb129, 2, none⟩ (.int .i64 (rd y131 (ji6)))).setCell ⟨gb129, 0, none⟩ (.int .i64 (wrap64 ((wrap64 (Int.tmod (IntKind.u64.wrap (a0_0)) 1000000)) * (wrap64 (60 * (rd y131 (ji3)))))))).setCell ⟨gb129, 3, none⟩ (.int .i64 (wrap64 (Int.tmod (IntKind.u64.wrap (a0_3)) (IntKind.u64.wrap (wrap64 (a1 + 1))))))) w.heap.size (fun _ => True) (.slice (some ad134) y131.length co17) y131) := ⟨by (with_reducible repeat (first | apply Kd.R_alloc | apply Kd.R_drewN | apply Kd.R_drew)); exact Kd.R_mono (Kd.R_far (p := ⟨gb129, 3, none⟩) (Kd.R_far (p := ⟨gb129, 0, none⟩) (Kd.R_far (p := ⟨gb129, 2, none⟩) (Kd.R_far (p := ⟨gb129, 1, none⟩) (Kd.R_types HO133.out BK129.out (by decide)) (fun _ hk => hk.2) (.int .i64 (rd y131 (ji3)))) (fun _ hk => hk.2) (.int .i64 (rd y131 (ji6)))) (fun _ hk => hk.2) (.int .i64 (wrap64 ((wrap64 (Int.tmod (IntKind.u64.wrap (a0_0)) 1000000)) * (wrap64 (60 * (rd y131 (ji3)))))))) (fun _ hk => hk.2) (.int .i64 (wrap64 (Int.tmod (IntKind.u64.wrap (a0_3)) (IntKind.u64.wrap (wrap64 (a1 + 1))))))) (fun _ hk => trivial)⟩
              have n1_ : Aside0 (((((w13.setCell ⟨gb129, 1, none⟩ (.int .i64 (rd y131 (ji3)))).setCell ⟨gb129, 2, none⟩ (.int .i64 (rd y131 (ji6)))).setCell ⟨gb129, 0, none⟩ (.int .i64 (wrap64 ((wrap64 (Int.tmod (IntKind.u64.wrap (a0_0)) 1000000)) * (wrap64 (60 * (rd y131 (ji3)))))))).setCell ⟨gb129, 3, none⟩ (.int .i64 (wrap64 (Int.tmod (IntKind.u64.wrap (a0_3)) (IntKind.u64.wrap (wrap64 (a1 + 1))))))).heap[gb129]? = some (.cells #[.int .i64 (wrap64 ((wrap64 (Int.tmod (IntKind.u64.wrap (a0_0)) 1000000)) * (wrap64 (60 * (rd y131 (ji3)))))), .int .i64 (rd y131 (ji3)), .int .i64 (rd y131 (ji6)), .int .i64 (wrap64 (Int.tmod (IntKind.u64.wrap (a0_3)) (IntKind.u64.wrap (wrap64 (a1 + 1))))), .int .i64 a0_4] 82 (0, 0))) := ⟨by (with_reducible repeat (first | refine blk_drewN ?_ _ | refine blk_drew ?_ | refine blk_alloc ?_ _)); refine blk_put (cs := #[.int .i64 (wrap64 ((wrap64 (Int.tmod (IntKind.u64.wrap (a0_0)) 1000000)) * (wrap64 (60 * (rd y131 (ji3)))))), .int .i64 (rd y131 (ji3)), .int .i64 (rd y131 (ji6)), .int .i64 a0_3, .int .i64 a0_4]) ?_ 3 _ rfl; (with_reducible repeat (first | refine blk_drewN ?_ _ | refine blk_drew ?_ | refine blk_alloc ?_ _)); refine blk_put (cs := #[.int .i64 a0_0, .int .i64 (rd y131 (ji3)), .int .i64 (rd y131 (ji6)), .int .i64 a0_3, .int .i64 a0_4]) ?_ 0 _ rfl; (with_reducible repeat (first | refine blk_drewN ?_ _ | refine blk_drew ?_ | refine blk_alloc ?_ _)); refine blk_put (cs := #[.int .i64 a0_0, .int .i64 (rd y131 (ji3)), .int .i64 a0_2, .int .i64 a0_3, .int .i64 a0_4]) ?_ 2 _ rfl; (with_reducible repeat (first | refine blk_drewN ?_ _ | refine blk_drew ?_ | refine blk_alloc ?_ _)); refine blk_put (cs := #[.int .i64 a0_0, .int .i64 a0_1, .int .i64 a0_2, .int .i64 a0_3, .int .i64 a0_4]) ?_ 1 _ rfl; (with_reducible repeat (first | refine blk_drewN ?_ _ | refine blk_drew ?_ | refine blk_alloc ?_ _)); exact BK129.out⟩
              have n2_ : Aside0 (((((w13.setCell ⟨gb129, 1, none⟩ (.int .i64 (rd y131 (ji3)))).setCell ⟨gb129, 2, none⟩ (.int .i64 (rd y131 (ji6)))).setCell ⟨gb129, 0, none⟩ (.int .i64 (wrap64 ((wrap64 (Int.tmod (IntKind.u64.wrap (a0_0)) 1000000)) * (wrap64 (60 * (rd y131 (ji3)))))))).setCell ⟨gb129, 3, none⟩ (.int .i64 (wrap64 (Int.tmod (IntKind.u64.wrap (a0_3)) (IntKind.u64.wrap (wrap64 (a1 + 1))))))).heap[gb130]? = some (.cells #[.int .i64 0, .int .i64 0, .int .i64 0, .int .i64 0, .int .i64 0] 82 (0, 0))) := ⟨by (with_reducible repeat (first | refine blk_drewN ?_ _ | refine blk_drew ?_ | refine blk_alloc ?_ _)); refine blk_far ?_ NB130_129.out _; (with_reducible repeat (first | refine blk_drewN ?_ _ | refine blk_drew ?_ | refine blk_alloc ?_ _)); refine blk_far ?_ NB130_129.out _; (with_reducible repeat (first | refine blk_drewN ?_ _ | refine blk_drew ?_ | refine blk_alloc ?_ _)); refine blk_far ?_ NB130_129.out _; (with_reducible repeat (first | refine blk_drewN ?_ _ | refine blk_drew ?_ | refine blk_alloc ?_ _)); refine blk_far ?_ NB130_129.out _; (with_reducible repeat (first | refine blk_drewN ?_ _ | refine blk_drew ?_ | refine blk_alloc ?_ _)); exact BK130.out⟩
              have n3_ : Aside0 (Below w.heap.size w ((((w13.setCell ⟨gb129, 1, none⟩ (.int .i64 (rd y131 (ji3)))).setCell ⟨gb129, 2, none⟩ (.int .i64 (rd y131 (ji6)))).setCell ⟨gb129, 0, none⟩ (.int .i64 (wrap64 ((wrap64 (Int.tmod (IntKind.u64.wrap (a0_0)) 1000000)) * (wrap64 (60 * (rd y131 (ji3)))))))).setCell ⟨gb129, 3, none⟩ (.int .i64 (wrap64 (Int.tmod (IntKind.u64.wrap (a0_3)) (IntKind.u64.wrap (wrap64 (a1 + 1)))))))) := ⟨by repeat (first | (with_reducible first | exact HB.out | apply below_alloc | apply pw_below_drewN | apply below_drew1 | refine below_set ?_ GE129.out | refine below_set ?_ GE130.out) | exact HB.out)⟩
              (try clear HO133)
              (try clear BK129)
              (try clear BK130)
              (try clear HB)
              generalize ((((w13.setCell ⟨gb129, 1, none⟩ (.int .i64 (rd y131 (ji3)))).setCell ⟨gb129, 2, none⟩ (.int .i64 (rd y131 (ji6)))).setCell ⟨gb129, 0, none⟩ (.int .i64 (wrap64 ((wrap64 (Int.tmod (IntKind.u64.wrap (a0_0)) 1000000)) * (wrap64 (60 * (rd y131 (ji3)))))))).setCell ⟨gb129, 3, none⟩ (.int .i64 (wrap64 (Int.tmod (IntKind.u64.wrap (a0_3)) (IntKind.u64.wrap (wrap64 (a1 + 1))))))) = w18 at n0_ n1_ n2_ n3_ ⊢
              have HO133 := n0_
              have BK129 := n1_
              have BK130 := n2_
              have HB := n3_
              clear n0_ n1_ n2_ n3_
              have n0_ := Aside0.mk (Kd.R_drew HO133.out)
              have n1_ := Aside0.mk (blk_drew BK129.out)
              have n2_ := Aside0.mk (blk_drew BK130.out)
              have n3_ := Aside0.mk (below_drew1 HB.out)
              clear HO133
              clear BK129
              clear BK130
              clear HB
              have HO133 := n0_
              have BK129 := n1_
              have BK130 := n2_
              have HB := n3_
              clear n0_ n1_ n2_ n3_
              refine start_ (n := 16) (S := fun w' => w'.cell? ⟨gb129, 0, none⟩ = some (.int .i64 (wrap64 ((wrap64 (Int.tmod (IntKind.u64.wrap (a0_0)) 1000000)) * (wrap64 (60 * (rd y131 (ji3))))))) ∧ w'.cell? ⟨gb129, 1, none⟩ = some (.int .i64 (rd y131 (ji3))) ∧ w'.cell? ⟨gb129, 2, none⟩ = some (.int .i64 (rd y131 (ji6))) ∧ w'.cell? ⟨gb129, 3, none⟩ = some (.int .i64 (wrap64 (Int.tmod (IntKind.u64.wrap (a0_3)) (IntKind.u64.wrap (wrap64 (a1 + 1)))))) ∧ w'.cell? ⟨gb129, 4, none⟩ = some (.int .i64 a0_4)) (ds := [15]) #[false, false, false, false, false, false, false, false, false, false, false, false, false, false, false, false] (by kernel_rfl) rfl rfl ⟨(blk_cell BK129.out 0).trans rfl, (blk_cell BK129.out 1).trans rfl, (blk_cell BK129.out 2).trans rfl, (blk_cell BK129.out 3).trans rfl, (blk_cell BK129.out 4).trans rfl⟩ (fun hHeld => ?_); refine with_tabW pylonlaw16_good.tab6 pylonlaw16_good.bits6 (fun HT_ HW_ => ?_)
              generalize w18.drew = w19 at HO133 BK129 BK130 HB hHeld ⊢
              refine pure_ (i := 0) (N := some 44) (v := ?_) (a' := ?_) #[true, false, false, false, false, false, false, false, false, false, false, false, false, false, false, false] rfl rfl (any_of HT_.out (by kernel_rfl)) (fun _ _ _ h => h) (Or.inl ⟨by rfl, ?_⟩) ?_ ?_
              rotate_left
              · intro w'
                go_simp
                with_reducible rfl
              rotate_left
              · simp only [Act.put, List.setIfInBounds_toArray, List.set_cons_zero, List.set_cons_succ, i64_w, i32_w]
                rfl
              refine pure_ (i := 2) (N := some 46) (v := ?_) (a' := ?_) #[true, false, true, false, false, false, false, false, false, false, false, false, false, false, false, false] rfl rfl (any_of HT_.out (by kernel_rfl)) (fun _ _ _ h => h) (Or.inl ⟨by rfl, ?_⟩) ?_ ?_
              rotate_left
              · intro w'
                go_simp
                with_reducible rfl
              rotate_left
              · simp only [Act.put, List.setIfInBounds_toArray, List.set_cons_zero, List.set_cons_succ, i64_w, i32_w]
                rfl
              refine pure_ (i := 5) (N := some 49) (v := ?_) (a' := ?_) #[true, false, true, false, false, true, false, false, false, false, false, false, false, false, false, false] rfl rfl (any_of HT_.out (by kernel_rfl)) (fun _ _ _ h => h) (Or.inl ⟨by rfl, ?_⟩) ?_ ?_
              rotate_left
              · intro w'
                go_simp
                with_reducible rfl
              rotate_left
              · simp only [Act.put, List.setIfInBounds_toArray, List.set_cons_zero, List.set_cons_succ, i64_w, i32_w]
                rfl
              refine pure_ (i := 6) (N := some 50) (v := ?_) (a' := ?_) #[true, false, true, false, false, true, true, false, false, false, false, false, false, false, false, false] rfl rfl (any_of HT_.out (by kernel_rfl)) (fun _ _ _ h => h) (Or.inl ⟨by rfl, ?_⟩) ?_ ?_
              rotate_left
              · intro w'
                go_simp
                with_reducible rfl
              rotate_left
              · simp only [Act.put, List.setIfInBounds_toArray, List.set_cons_zero, List.set_cons_succ, i64_w, i32_w]
                rfl
              refine pure_ (i := 7) (N := some 51) (v := ?_) (a' := ?_) #[true, false, true, false, false, true, true, true, false, false, false, false, false, false, false, false] rfl rfl (any_of HT_.out (by kernel_rfl)) (fun _ _ _ h => h) (Or.inl ⟨by rfl, ?_⟩) ?_ ?_
              rotate_left
              · intro w'
                go_simp
                with_reducible rfl
              rotate_left
              · simp only [Act.put, List.setIfInBounds_toArray, List.set_cons_zero, List.set_cons_succ, i64_w, i32_w]
                rfl
              refine take_ (i := 1) (N := some 45) (v := ?_) (a' := ?_) #[true, true, true, false, false, true, true, true, false, false, false, false, false, false, false, false] rfl rfl (take_ofW HT_.out HW_.out (by kernel_rfl)) (fun _ _ _ h => h) (Or.inl ⟨by rfl, ?_⟩) hHeld ?_ ?_
              rotate_left
              · rintro w' ⟨s0, s1, s2, s3, s4⟩
                go_simp
                with_reducible rfl
              rotate_left
              · simp only [Act.put, List.setIfInBounds_toArray, List.set_cons_zero, List.set_cons_succ, i64_w, i32_w]
                rfl
              refine take_ (i := 3) (N := some 47) (v := ?_) (a' := ?_) #[true, true, true, true, false, true, true, true, false, false, false, false, false, false, false, false] rfl rfl (take_ofW HT_.out HW_.out (by kernel_rfl)) (fun _ _ _ h => h) (Or.inl ⟨by rfl, ?_⟩) hHeld ?_ ?_
              rotate_left
              · rintro w' ⟨s0, s1, s2, s3, s4⟩
                go_simp
                with_reducible rfl
              rotate_left
              · simp only [Act.put, List.setIfInBounds_toArray, List.set_cons_zero, List.set_cons_succ, i64_w, i32_w]
                rfl
              refine pure_ (i := 4) (N := some 48) (v := ?_) (a' := ?_) #[true, true, true, true, true, true, true, true, false, false, false, false, false, false, false, false] rfl rfl (any_of HT_.out (by kernel_rfl)) (fun _ _ _ h => h) (Or.inl ⟨by rfl, ?_⟩) ?_ ?_
              rotate_left
              · intro w'
                go_simp
                with_reducible rfl
              rotate_left
              · simp only [Act.put, List.setIfInBounds_toArray, List.set_cons_zero, List.set_cons_succ, i64_w, i32_w]
                rfl
              refine take_ (i := 8) (N := some 52) (v := ?_) (a' := ?_) #[true, true, true, true, true, true, true, true, true, false, false, false, false, false, false, false] rfl rfl (take_ofW HT_.out HW_.out (by kernel_rfl)) (fun _ _ _ h => h) (Or.inl ⟨by rfl, ?_⟩) hHeld ?_ ?_
              rotate_left
              · rintro w' ⟨s0, s1, s2, s3, s4⟩
                go_simp
                with_reducible rfl
              rotate_left
              · simp only [Act.put, List.setIfInBounds_toArray, List.set_cons_zero, List.set_cons_succ, i64_w, i32_w]
                rfl
              refine pure_ (i := 9) (N := some 53) (v := ?_) (a' := ?_) #[true, true, true, true, true, true, true, true, true, true, false, false, false, false, false, false] rfl rfl (any_of HT_.out (by kernel_rfl)) (fun _ _ _ h => h) (Or.inl ⟨by rfl, ?_⟩) ?_ ?_
              rotate_left
              · intro w'
                go_simp
                with_reducible rfl
              rotate_left
              · simp only [Act.put, List.setIfInBounds_toArray, List.set_cons_zero, List.set_cons_succ, i64_w, i32_w]
                rfl
              refine pure_ (i := 10) (N := some 54) (v := ?_) (a' := ?_) #[true, true, true, true, true, true, true, true, true, true, true, false, false, false, false, false] rfl rfl (any_of HT_.out (by kernel_rfl)) (fun _ _ _ h => h) (Or.inl ⟨by rfl, ?_⟩) ?_ ?_
              rotate_left
              · intro w'
                go_simp
                with_reducible rfl
              rotate_left
              · simp only [Act.put, List.setIfInBounds_toArray, List.set_cons_zero, List.set_cons_succ, i64_w, i32_w]
                rfl
              refine pure_ (i := 11) (N := some 55) (v := ?_) (a' := ?_) #[true, true, true, true, true, true, true, true, true, true, true, true, false, false, false, false] rfl rfl (any_of HT_.out (by kernel_rfl)) (fun _ _ _ h => h) (Or.inl ⟨by rfl, ?_⟩) ?_ ?_
              rotate_left
              · intro w'
                go_simp
                with_reducible rfl
              rotate_left
              · simp only [Act.put, List.setIfInBounds_toArray, List.set_cons_zero, List.set_cons_succ, i64_w, i32_w]
                rfl
              refine pure_ (i := 12) (N := some 56) (v := ?_) (a' := ?_) #[true, true, true, true, true, true, true, true, true, true, true, true, true, false, false, false] rfl rfl (any_of HT_.out (by kernel_rfl)) (fun _ _ _ h => h) (Or.inl ⟨by rfl, ?_⟩) ?_ ?_
              rotate_left
              · intro w'
                go_simp
                with_reducible rfl
              rotate_left
              · simp only [Act.put, List.setIfInBounds_toArray, List.set_cons_zero, List.set_cons_succ, i64_w, i32_w]
                rfl
              refine pure_ (i := 13) (N := some 57) (v := ?_) (a' := ?_) #[true, true, true, true, true, true, true, true, true, true, true, true, true, true, false, false] rfl rfl (any_of HT_.out (by kernel_rfl)) (fun _ _ _ h => h) (Or.inl ⟨by rfl, ?_⟩) ?_ ?_
              rotate_left
              · intro w'
                go_simp
                with_reducible rfl
              rotate_left
              · simp only [Act.put, List.setIfInBounds_toArray, List.set_cons_zero, List.set_cons_succ, i64_w, i32_w]
                rfl
              refine pure_ (i := 14) (N := some 58) (v := ?_) (a' := ?_) #[true, true, true, true, true, true, true, true, true, true, true, true, true, true, true, false] rfl rfl (any_of HT_.out (by kernel_rfl)) (fun _ _ _ h => h) (Or.inl ⟨by rfl, ?_⟩) ?_ ?_
              rotate_left
              · intro w'
                go_simp
                with_reducible rfl
              rotate_left
              · simp only [Act.put, List.setIfInBounds_toArray, List.set_cons_zero, List.set_cons_succ, i64_w, i32_w]
                rfl
              refine last_ (i := 15) (N := none) #[true, true, true, true, true, true, true, true, true, true, true, true, true, true, true, true] rfl rfl (one_of HT_.out (by kernel_rfl)) (by decide) (fun K hK => ?_)
              have hs20 : w19.cell? ⟨gb129, 4, none⟩ = some (.int .i64 a0_4) := (blk_cell BK129.out 4).trans rfl
              have hfs20 := blk_frozen BK129.out 4
              have hns20_1 := NB130_129.out
              have hms20_1 := NB129_130.out
              refine skip_ (w1 := ?_) (by rfl) rfl ?_ ?_
              rotate_left
              · go_simp
                rfl
              refine hK.out _ _ ?_
              clear hK K
              refine done_ (done_of HT_.out (by kernel_rfl)) ?_
              have hcz21_0 : w19.cell? ⟨gb129, 0, none⟩ = some (.int .i64 (wrap64 ((wrap64 (Int.tmod (IntKind.u64.wrap (a0_0)) 1000000)) * (wrap64 (60 * (rd y131 (ji3))))))) := (blk_cell BK129.out 0).trans rfl
              have hcz21_1 : w19.cell? ⟨gb129, 1, none⟩ = some (.int .i64 (rd y131 (ji3))) := (blk_cell BK129.out 1).trans rfl
              have hcz21_2 : w19.cell? ⟨gb129, 2, none⟩ = some (.int .i64 (rd y131 (ji6))) := (blk_cell BK129.out 2).trans rfl
              have hcz21_3 : w19.cell? ⟨gb129, 3, none⟩ = some (.int .i64 (wrap64 (Int.tmod (IntKind.u64.wrap (a0_3)) (IntKind.u64.wrap (wrap64 (a1 + 1)))))) := (blk_cell BK129.out 3).trans rfl
              have hcz21_4 : w19.cell? ⟨gb129, 4, none⟩ = some (.int .i64 a0_4) := (blk_cell BK129.out 4).trans rfl
              have hfz21_0 := blk_frozen BK129.out 0
              have hfz21_1 := blk_frozen BK129.out 1
              have hfz21_2 := blk_frozen BK129.out 2
              have hfz21_3 := blk_frozen BK129.out 3
              have hfz21_4 := blk_frozen BK129.out 4
              have hcz22_0 : w19.cell? ⟨gb130, 0, none⟩ = some (.int .i64 0) := (blk_cell BK130.out 0).trans rfl
              have hcz22_1 : w19.cell? ⟨gb130, 1, none⟩ = some (.int .i64 0) := (blk_cell BK130.out 1).trans rfl
              have hcz22_2 : w19.cell? ⟨gb130, 2, none⟩ = some (.int .i64 0) := (blk_cell BK130.out 2).trans rfl
              have hcz22_3 : w19.cell? ⟨gb130, 3, none⟩ = some (.int .i64 0) := (blk_cell BK130.out 3).trans rfl
              have hcz22_4 : w19.cell? ⟨gb130, 4, none⟩ = some (.int .i64 0) := (blk_cell BK130.out 4).trans rfl
              have hfz22_0 := blk_frozen BK130.out 0
              have hfz22_1 := blk_frozen BK130.out 1
              have hfz22_2 := blk_frozen BK130.out 2
              have hfz22_3 := blk_frozen BK130.out 3
              have hfz22_4 := blk_frozen BK130.out 4
              try go_wp2
              refine bodyPost_ret (results_cell_row rfl _ _ gb130 82 #[.int .i64 (wrap64 ((wrap64 (Int.tmod (IntKind.u64.wrap (a0_0)) 1000000)) * (wrap64 (60 * (rd y131 (ji3)))))), .int .i64 (rd y131 (ji3)), .int .i64 (rd y131 (ji6)), .int .i64 (wrap64 (Int.tmod (IntKind.u64.wrap (a0_3)) (IntKind.u64.wrap (wrap64 (a1 + 1))))), .int .i64 (wrap64 ((wrap64 (Int.tmod (IntKind.u64.wrap (a0_3)) (IntKind.u64.wrap (wrap64 (a1 + 1))))) + (wrap64 (Int.tmod (IntKind.u64.wrap (a0_4)) (IntKind.u64.wrap (wrap64 ((wrap64 (a1 + 1)) - (wrap64 (Int.tmod (IntKind.u64.wrap (a0_3)) (IntKind.u64.wrap (wrap64 (a1 + 1))))))))))))] (0, 0) _ rfl (by (with_reducible repeat (first | refine blk_drewN ?_ _ | refine blk_drew ?_ | refine blk_alloc ?_ _)); refine blk_put (cs := #[.int .i64 (wrap64 ((wrap64 (Int.tmod (IntKind.u64.wrap (a0_0)) 1000000)) * (wrap64 (60 * (rd y131 (ji3)))))), .int .i64 (rd y131 (ji3)), .int .i64 (rd y131 (ji6)), .int .i64 (wrap64 (Int.tmod (IntKind.u64.wrap (a0_3)) (IntKind.u64.wrap (wrap64 (a1 + 1))))), .int .i64 0]) ?_ 4 _ rfl; (with_reducible repeat (first | refine blk_drewN ?_ _ | refine blk_drew ?_ | refine blk_alloc ?_ _)); refine blk_put (cs := #[.int .i64 (wrap64 ((wrap64 (Int.tmod (IntKind.u64.wrap (a0_0)) 1000000)) * (wrap64 (60 * (rd y131 (ji3)))))), .int .i64 (rd y131 (ji3)), .int .i64 (rd y131 (ji6)), .int .i64 0, .int .i64 0]) ?_ 3 _ rfl; (with_reducible repeat (first | refine blk_drewN ?_ _ | refine blk_drew ?_ | refine blk_alloc ?_ _)); refine blk_put (cs := #[.int .i64 (wrap64 ((wrap64 (Int.tmod (IntKind.u64.wrap (a0_0)) 1000000)) * (wrap64 (60 * (rd y131 (ji3)))))), .int .i64 (rd y131 (ji3)), .int .i64 0, .int .i64 0, .int .i64 0]) ?_ 2 _ rfl; (with_reducible repeat (first | refine blk_drewN ?_ _ | refine blk_drew ?_ | refine blk_alloc ?_ _)); refine blk_put (cs := #[.int .i64 (wrap64 ((wrap64 (Int.tmod (IntKind.u64.wrap (a0_0)) 1000000)) * (wrap64 (60 * (rd y131 (ji3)))))), .int .i64 0, .int .i64 0, .int .i64 0, .int .i64 0]) ?_ 1 _ rfl; (with_reducible repeat (first | refine blk_drewN ?_ _ | refine blk_drew ?_ | refine blk_alloc ?_ _)); refine blk_put (cs := #[.int .i64 0, .int .i64 0, .int .i64 0, .int .i64 0, .int .i64 0]) ?_ 0 _ rfl; (with_reducible repeat (first | refine blk_drewN ?_ _ | refine blk_drew ?_ | refine blk_alloc ?_ _)); refine blk_far ?_ NB130_129.out _; (with_reducible repeat (first | refine blk_drewN ?_ _ | refine blk_drew ?_ | refine blk_alloc ?_ _)); exact BK130.out) Try.underlying82 rfl (by kernel_rfl)) rfl ?_
              exact ⟨by first | rfl | (simp [errW_none, errW_some] <;> rfl) | (simp only [← hji3, ← hji6]; first | rfl | (simp [errW_none, errW_some] <;> rfl)) | (simp [*, errW_none, errW_some] <;> rfl), by repeat (first | (with_reducible first | exact HB.out | apply below_alloc | apply pw_below_drewN | apply below_drew1 | refine below_set ?_ GE129.out | refine below_set ?_ GE130.out) | exact HB.out)⟩
        · rw [if_neg c8] at H
          exact absurd H (by simp)
      · rw [if_neg c7] at H
        exact absurd H (by simp)
    · rw [if_neg c5] at H
      exact absurd H (by simp)
  · rw [if_neg c4] at H
    exact absurd H (by simp)

/-! ### meter_whole: function 62 -/
def meter_whole.f (a0 : Nat) : Option (Bool) := (math_Abs.f a0).bind fun t136 => (if fle t136 4756540486875873280 = true then ((math_Trunc.f a0).bind fun t137 => (some (feq t137 a0))) else (some false))
set_option maxHeartbeats 8000000 in
set_option maxRecDepth 100000 in
theorem meter_whole.calls (a0 : Nat) (r : Bool) (w : World) (h : meter_whole.f a0 = some r) :
    Calls Try.prog 62 #[.float .f64 a0] w fun e w' => e = .returned (.bool r) ∧ Drawn0 w w' := by
  have H : ((math_Abs.f a0).bind fun t136 => (if fle t136 4756540486875873280 = true then ((math_Trunc.f a0).bind fun t137 => (some (feq t137 a0))) else (some false))) = some r := h
  clear h
  replace H := Option.bind_eq_some_iff.mp H
  obtain ⟨t136, A20, H⟩ := H
  replace H : (if fle t136 4756540486875873280 = true then ((math_Trunc.f a0).bind fun t137 => (some (feq t137 a0))) else (some false)) = some r := H
  have A2 := Aside0.mk A20
  clear A20
  by_cases c3 : fle t136 4756540486875873280 = true
  · rw [if_pos c3] at H
    have c3b0 : fle t136 4756540486875873280 = true := c3
    clear c3
    replace H := Option.bind_eq_some_iff.mp H
    obtain ⟨t137, A40, H⟩ := H
    replace H : (some (feq t137 a0)) = some r := H
    have A4 := Aside0.mk A40
    clear A40
    obtain rfl := Option.some.inj H
    go_enter Try.func62, Try.ntmps62
    go_wp2_with (first | ((with_reducible refine gate_callee (f := 82) rfl ?_); refine goesL_ (some 4) rfl rfl Try.func82 (by kernel_rfl) rfl #[.float .f64 a0] rfl (by (try simp only [List.map_toArray, List.map_cons, List.map_nil]); first | done | rfl | (simp only [List.length_drop, List.length_take]; rfl)) ?_; (with_reducible refine (math_Abs.calls a0 t136 _ A2.out).mono ?_); rintro e w' ⟨rfl, ⟨nd, rfl⟩⟩; refine ⟨_, rfl, ?_⟩) | (go_at_call 66; (with_reducible refine (math_Trunc.calls a0 t137 _ A4.out).mono ?_); rintro e w' ⟨rfl, ⟨nd, rfl⟩⟩))
    go_ret
    exact ⟨by first | rfl | (simp; done) | (simp [*]; done), by repeat (first | exact Drawn0.refl _ | apply Drawn0.step)⟩
  · rw [if_neg c3] at H
    have c3b0 : fle t136 4756540486875873280 = false := Bool.eq_false_iff.mpr c3
    clear c3
    obtain rfl := Option.some.inj H
    go_enter Try.func62, Try.ntmps62
    go_wp2_with (first | ((with_reducible refine gate_callee (f := 82) rfl ?_); refine goesL_ (some 4) rfl rfl Try.func82 (by kernel_rfl) rfl #[.float .f64 a0] rfl (by (try simp only [List.map_toArray, List.map_cons, List.map_nil]); first | done | rfl | (simp only [List.length_drop, List.length_take]; rfl)) ?_; (with_reducible refine (math_Abs.calls a0 t136 _ A2.out).mono ?_); rintro e w' ⟨rfl, ⟨nd, rfl⟩⟩; refine ⟨_, rfl, ?_⟩))
    go_ret
    exact ⟨by first | rfl | (simp; done) | (simp [*]; done), by repeat (first | exact Drawn0.refl _ | apply Drawn0.step)⟩

/-! ### meter_Fits: function 29 -/
def meter_Fits.f (a0 : Cx) : Option (Bool) := (meter_whole.f a0.re).bind fun t138 => (if t138 = true then ((meter_whole.f a0.im).bind fun t139 => (some t139)) else (some false))
set_option maxHeartbeats 8000000 in
set_option maxRecDepth 100000 in
theorem meter_Fits.calls (a0 : Cx) (r : Bool) (w : World) (h : meter_Fits.f a0 = some r) :
    Calls Try.prog 29 #[.complex .f64 a0.re a0.im] w fun e w' => e = .returned (.bool r) ∧ Below w.heap.size w w' := by
  have HB := Aside0.mk (Below.refl w.heap.size w)
  have H : ((meter_whole.f a0.re).bind fun t138 => (if t138 = true then ((meter_whole.f a0.im).bind fun t139 => (some t139)) else (some false))) = some r := h
  clear h
  replace H := Option.bind_eq_some_iff.mp H
  obtain ⟨t138, A20, H⟩ := H
  replace H : (if t138 = true then ((meter_whole.f a0.im).bind fun t139 => (some t139)) else (some false)) = some r := H
  have A2 := Aside0.mk A20
  clear A20
  by_cases c3 : t138 = true
  · subst c3
    have H1 : ((meter_whole.f a0.im).bind fun t139 => (some t139)) = some r := by rw [if_pos rfl] at H; exact H
    clear H
    have H := H1
    clear H1
    replace H := Option.bind_eq_some_iff.mp H
    obtain ⟨t139, A40, H⟩ := H
    replace H : (some t139) = some r := H
    have A4 := Aside0.mk A40
    clear A40
    obtain rfl := Option.some.inj H
    go_enter Try.func29, Try.ntmps29
    go_wp2_with (first | ((with_reducible refine gate_callee (f := 62) rfl ?_); refine goesL_ (some 5) rfl rfl Try.func62 (by kernel_rfl) rfl #[.float .f64 a0.re] rfl (by (try simp only [List.map_toArray, List.map_cons, List.map_nil]); first | done | rfl | (simp only [List.length_drop, List.length_take]; rfl)) ?_; (with_reducible refine (meter_whole.calls a0.re true _ A2.out).mono ?_); rintro e w' ⟨rfl, ⟨nd, rfl⟩⟩; refine ⟨_, rfl, ?_⟩) | (go_at_call 62; (with_reducible refine (meter_whole.calls a0.im t139 _ A4.out).mono ?_); rintro e w' ⟨rfl, ⟨nd, rfl⟩⟩))
    go_ret
    exact ⟨by first | rfl | (simp [errW_none, errW_some] <;> rfl) | (simp [*, errW_none, errW_some] <;> rfl), by repeat (first | (with_reducible first | exact HB.out | apply below_alloc | apply pw_below_drewN | apply below_drew1) | exact HB.out)⟩
  · replace c3 := Bool.eq_false_iff.mpr c3
    subst c3
    have H1 : (some false) = some r := by rw [if_neg (show ¬ (false = true) by decide)] at H; exact H
    clear H
    have H := H1
    clear H1
    obtain rfl := Option.some.inj H
    go_enter Try.func29, Try.ntmps29
    go_wp2_with (first | ((with_reducible refine gate_callee (f := 62) rfl ?_); refine goesL_ (some 5) rfl rfl Try.func62 (by kernel_rfl) rfl #[.float .f64 a0.re] rfl (by (try simp only [List.map_toArray, List.map_cons, List.map_nil]); first | done | rfl | (simp only [List.length_drop, List.length_take]; rfl)) ?_; (with_reducible refine (meter_whole.calls a0.re false _ A2.out).mono ?_); rintro e w' ⟨rfl, ⟨nd, rfl⟩⟩; refine ⟨_, rfl, ?_⟩))
    go_ret
    exact ⟨by first | rfl | (simp [errW_none, errW_some] <;> rfl) | (simp [*, errW_none, errW_some] <;> rfl), by repeat (first | (with_reducible first | exact HB.out | apply below_alloc | apply pw_below_drewN | apply below_drew1) | exact HB.out)⟩

/-! ### demand_Whole: function 49 -/
mutual
def demand_Whole.j0 : Nat → Int → Int → Int → Int → Int → Bool → Option ((List (S90)) × Int)
  | 0, _, _, _, _, _, _ => none
  | k + 1, x0, x1, x2, x3, x4, x50 => if x50 = true then (some (([] : List (S90)), 8)) else (if x1 = 0 then (none) else (if (wrap64 (60 * x1)) = 0 then (none) else (if (mx 1 (wrap64 (Int.tdiv x2 x1))) = 0 then (none) else (demand_Whole.l0 k (wrap64 (x3 + (Int.tmod (wrap64 ((mx 1 (wrap64 (Int.tdiv x2 x1))) - (Int.tmod (wrap64 ((wrap64 (Int.tdiv x0 (wrap64 (60 * x1)))) + x3)) (mx 1 (wrap64 (Int.tdiv x2 x1)))))) (mx 1 (wrap64 (Int.tdiv x2 x1)))))) x4 (mx 1 (wrap64 (Int.tdiv x2 x1))) ([] : List (S90))))))
def demand_Whole.l0 : Nat → Int → Int → Int → List (S90) → Option ((List (S90)) × Int)
  | 0, _, _, _, _ => none
  | k + 1, x3, x4, x12, x14 => if (wrap64 (x3 + x12)) ≤ x4 then (if x14.length < 8796093022208 then (demand_Whole.l0 k (wrap64 (x3 + x12)) x4 x12 (x14 ++ [(⟨x3, wrap64 (x3 + x12)⟩ : S90)])) else (none)) else (some (x14, 0))
end
def demand_Whole.f (k : Nat) (a0 : Int) (a1 : Int) (a2 : Int) (a3 : Int) (a4 : Int) : Option ((List (S90)) × Int) := (demand_length.f a1).bind fun t140 => (if t140 = true then ((demand_length.f a2).bind fun t141 => (if t141 = true then (if a0 < 0 then (demand_Whole.j0 k a0 a1 a2 a3 a4 true) else (if a0 > 253402300799 then (demand_Whole.j0 k a0 a1 a2 a3 a4 true) else (if (wrap64 (60 * a1)) = 0 then (none) else (if (Int.tmod a0 (wrap64 (60 * a1))) = 0 then (if a3 < 0 then (demand_Whole.j0 k a0 a1 a2 a3 a4 true) else (if a3 > a4 then (demand_Whole.j0 k a0 a1 a2 a3 a4 true) else (demand_Whole.j0 k a0 a1 a2 a3 a4 (decide (a4 > 40000))))) else (demand_Whole.j0 k a0 a1 a2 a3 a4 true))))) else (demand_Whole.j0 k a0 a1 a2 a3 a4 true))) else (demand_Whole.j0 k a0 a1 a2 a3 a4 true))
theorem demand_Whole.mono_l : ∀ k, (∀ y0 y1 y2 y3 y4 y5, LeO (demand_Whole.j0 k y0 y1 y2 y3 y4 y5) (demand_Whole.j0 (k + 1) y0 y1 y2 y3 y4 y5)) ∧ (∀ y0 y1 y2 y3, LeO (demand_Whole.l0 k y0 y1 y2 y3) (demand_Whole.l0 (k + 1) y0 y1 y2 y3))
  | 0 => ⟨fun _ _ _ _ _ _ r h => by simp [demand_Whole.j0] at h, fun _ _ _ _ r h => by simp [demand_Whole.l0] at h⟩
  | k + 1 => by
    obtain ⟨ih0, ih1⟩ := demand_Whole.mono_l k
    refine ⟨?_, ?_⟩
    · intro y0 y1 y2 y3 y4 y5
      unfold demand_Whole.j0
      repeat' first
      | (with_reducible exact ih0 _ _ _ _ _ _)
      | (with_reducible exact ih1 _ _ _ _)
      | (with_reducible exact LeO.refl _)
      | (with_reducible exact LeO.none _)
      | (with_reducible refine LeO.ite ?_ ?_)
      | (with_reducible refine LeO.bind ?_ (fun _ => ?_))
      | exact ih0 _ _ _ _ _ _
      | exact ih1 _ _ _ _
      | exact LeO.none _
      | refine LeO.ite ?_ ?_
      | refine LeO.bind ?_ (fun _ => ?_)
    · intro y0 y1 y2 y3
      unfold demand_Whole.l0
      repeat' first
      | (with_reducible exact ih0 _ _ _ _ _ _)
      | (with_reducible exact ih1 _ _ _ _)
      | (with_reducible exact LeO.refl _)
      | (with_reducible exact LeO.none _)
      | (with_reducible refine LeO.ite ?_ ?_)
      | (with_reducible refine LeO.bind ?_ (fun _ => ?_))
      | exact ih0 _ _ _ _ _ _
      | exact ih1 _ _ _ _
      | exact LeO.none _
      | refine LeO.ite ?_ ?_
      | refine LeO.bind ?_ (fun _ => ?_)
theorem demand_Whole.mono : ∀ a0 a1 a2 a3 a4 k, LeO (demand_Whole.f k a0 a1 a2 a3 a4) (demand_Whole.f (k + 1) a0 a1 a2 a3 a4) := by
  intro a0 a1 a2 a3 a4 k
  obtain ⟨ih0, ih1⟩ := demand_Whole.mono_l k
  unfold demand_Whole.f
  repeat' first
      | (with_reducible exact ih0 _ _ _ _ _ _)
      | (with_reducible exact ih1 _ _ _ _)
      | (with_reducible exact LeO.refl _)
      | (with_reducible exact LeO.none _)
      | (with_reducible refine LeO.ite ?_ ?_)
      | (with_reducible refine LeO.bind ?_ (fun _ => ?_))
      | exact ih0 _ _ _ _ _ _
      | exact ih1 _ _ _ _
      | exact LeO.none _
      | refine LeO.ite ?_ ?_
      | refine LeO.bind ?_ (fun _ => ?_)
set_option maxHeartbeats 8000000 in
set_option maxRecDepth 100000 in
theorem demand_Whole.calls (k : Nat) (a0 : Int) (a1 : Int) (a2 : Int) (a3 : Int) (a4 : Int) (r1 : List (S90)) (r2 : Int) (w : World) (h : demand_Whole.f k a0 a1 a2 a3 a4 = some (r1, r2)) :
    Calls Try.prog 49 #[.int .i64 a0, .int .i64 a1, .int .i64 a2, .int .i64 a3, .int .i64 a4] w fun e w' => ∃ v0_ : Value, e = .returned (.tuple #[v0_, .int .i64 r2]) ∧ Kd.R k90 90 w' w.heap.size (fun _ => True) v0_ r1 ∧ Below w.heap.size w w' := by
  have hu90 := Try.underlying90
  have HB := Aside0.mk (Below.refl w.heap.size w)
  have H : ((demand_length.f a1).bind fun t140 => (if t140 = true then ((demand_length.f a2).bind fun t141 => (if t141 = true then (if a0 < 0 then (demand_Whole.j0 k a0 a1 a2 a3 a4 true) else (if a0 > 253402300799 then (demand_Whole.j0 k a0 a1 a2 a3 a4 true) else (if (wrap64 (60 * a1)) = 0 then (none) else (if (Int.tmod a0 (wrap64 (60 * a1))) = 0 then (if a3 < 0 then (demand_Whole.j0 k a0 a1 a2 a3 a4 true) else (if a3 > a4 then (demand_Whole.j0 k a0 a1 a2 a3 a4 true) else (demand_Whole.j0 k a0 a1 a2 a3 a4 (decide (a4 > 40000))))) else (demand_Whole.j0 k a0 a1 a2 a3 a4 true))))) else (demand_Whole.j0 k a0 a1 a2 a3 a4 true))) else (demand_Whole.j0 k a0 a1 a2 a3 a4 true))) = some (r1, r2) := h
  clear h
  have HC6 := Aside0.mk H
  clear H
  go_enter Try.func49, Try.ntmps49
  go_upto_region 1 with (fail)
  go_cut [50] (fun v50 wc => ∃ (kq : Nat) (x50_5 : Bool), v50 = .bool x50_5 ∧ Aside0 (demand_Whole.j0 kq a0 a1 a2 a3 a4 x50_5 = some (r1, r2)) ∧ Aside0 (kq ≤ k) ∧ Aside0 (Below w.heap.size w wc))
  case first =>
    have H := HC6.out
    clear HC6
    replace H := Option.bind_eq_some_iff.mp H
    obtain ⟨t140, A70, H⟩ := H
    replace H : (if t140 = true then ((demand_length.f a2).bind fun t141 => (if t141 = true then (if a0 < 0 then (demand_Whole.j0 k a0 a1 a2 a3 a4 true) else (if a0 > 253402300799 then (demand_Whole.j0 k a0 a1 a2 a3 a4 true) else (if (wrap64 (60 * a1)) = 0 then (none) else (if (Int.tmod a0 (wrap64 (60 * a1))) = 0 then (if a3 < 0 then (demand_Whole.j0 k a0 a1 a2 a3 a4 true) else (if a3 > a4 then (demand_Whole.j0 k a0 a1 a2 a3 a4 true) else (demand_Whole.j0 k a0 a1 a2 a3 a4 (decide (a4 > 40000))))) else (demand_Whole.j0 k a0 a1 a2 a3 a4 true))))) else (demand_Whole.j0 k a0 a1 a2 a3 a4 true))) else (demand_Whole.j0 k a0 a1 a2 a3 a4 true)) = some (r1, r2) := H
    have A7 := Aside0.mk A70
    clear A70
    by_cases c8 : t140 = true
    · subst c8
      have H1 : ((demand_length.f a2).bind fun t141 => (if t141 = true then (if a0 < 0 then (demand_Whole.j0 k a0 a1 a2 a3 a4 true) else (if a0 > 253402300799 then (demand_Whole.j0 k a0 a1 a2 a3 a4 true) else (if (wrap64 (60 * a1)) = 0 then (none) else (if (Int.tmod a0 (wrap64 (60 * a1))) = 0 then (if a3 < 0 then (demand_Whole.j0 k a0 a1 a2 a3 a4 true) else (if a3 > a4 then (demand_Whole.j0 k a0 a1 a2 a3 a4 true) else (demand_Whole.j0 k a0 a1 a2 a3 a4 (decide (a4 > 40000))))) else (demand_Whole.j0 k a0 a1 a2 a3 a4 true))))) else (demand_Whole.j0 k a0 a1 a2 a3 a4 true))) = some (r1, r2) := by rw [if_pos rfl] at H; exact H
      clear H
      have H := H1
      clear H1
      replace H := Option.bind_eq_some_iff.mp H
      obtain ⟨t141, A90, H⟩ := H
      replace H : (if t141 = true then (if a0 < 0 then (demand_Whole.j0 k a0 a1 a2 a3 a4 true) else (if a0 > 253402300799 then (demand_Whole.j0 k a0 a1 a2 a3 a4 true) else (if (wrap64 (60 * a1)) = 0 then (none) else (if (Int.tmod a0 (wrap64 (60 * a1))) = 0 then (if a3 < 0 then (demand_Whole.j0 k a0 a1 a2 a3 a4 true) else (if a3 > a4 then (demand_Whole.j0 k a0 a1 a2 a3 a4 true) else (demand_Whole.j0 k a0 a1 a2 a3 a4 (decide (a4 > 40000))))) else (demand_Whole.j0 k a0 a1 a2 a3 a4 true))))) else (demand_Whole.j0 k a0 a1 a2 a3 a4 true)) = some (r1, r2) := H
      have A9 := Aside0.mk A90
      clear A90
      by_cases c10 : t141 = true
      · subst c10
        have H1 : (if a0 < 0 then (demand_Whole.j0 k a0 a1 a2 a3 a4 true) else (if a0 > 253402300799 then (demand_Whole.j0 k a0 a1 a2 a3 a4 true) else (if (wrap64 (60 * a1)) = 0 then (none) else (if (Int.tmod a0 (wrap64 (60 * a1))) = 0 then (if a3 < 0 then (demand_Whole.j0 k a0 a1 a2 a3 a4 true) else (if a3 > a4 then (demand_Whole.j0 k a0 a1 a2 a3 a4 true) else (demand_Whole.j0 k a0 a1 a2 a3 a4 (decide (a4 > 40000))))) else (demand_Whole.j0 k a0 a1 a2 a3 a4 true))))) = some (r1, r2) := by rw [if_pos rfl] at H; exact H
        clear H
        have H := H1
        clear H1
        by_cases c11 : a0 < 0
        · rw [if_pos c11] at H
          have c11b0 : decide (a0 < 0) = true := decide_eq_true c11
          clear c11
          (first | rw [c11b0] | (simp only [i64_w, i32_w]; rw [c11b0]) | skip)
          have H' := Aside0.mk H
          clear H
          go_wp2_with (first | ((with_reducible refine gate_callee (f := 75) rfl ?_); refine goesL_ (some 16) rfl rfl Try.func75 (by kernel_rfl) rfl #[.int .i64 a1] rfl (by (try simp only [List.map_toArray, List.map_cons, List.map_nil]); first | done | rfl | (simp only [List.length_drop, List.length_take]; rfl)) ?_; (with_reducible refine (demand_length.calls a1 true _ A7.out).mono ?_); rintro e w' ⟨rfl, ⟨nd, rfl⟩⟩; refine ⟨_, rfl, ?_⟩) | (go_at_call 75; (with_reducible refine (demand_length.calls a2 true _ A9.out).mono ?_); rintro e w' ⟨rfl, ⟨nd, rfl⟩⟩))
          go_meet
          case rel => exact ⟨_, (true), (by first | rfl | (simp; done) | (simp [*]; done)), H', ⟨by first | omega | exact Nat.le_refl _⟩, ⟨by repeat (first | (with_reducible first | exact HB.out | apply below_alloc | apply pw_below_drewN | apply below_drew1) | exact HB.out)⟩⟩
        · rw [if_neg c11] at H
          have c11b0 : decide (a0 < 0) = false := decide_eq_false c11
          clear c11
          (first | rw [c11b0] | (simp only [i64_w, i32_w]; rw [c11b0]) | skip)
          by_cases c12 : a0 > 253402300799
          · rw [if_pos c12] at H
            have c12b0 : decide (253402300799 < a0) = true := decide_eq_true c12
            clear c12
            have H' := Aside0.mk H
            clear H
            go_wp2_with (first | ((with_reducible refine gate_callee (f := 75) rfl ?_); refine goesL_ (some 16) rfl rfl Try.func75 (by kernel_rfl) rfl #[.int .i64 a1] rfl (by (try simp only [List.map_toArray, List.map_cons, List.map_nil]); first | done | rfl | (simp only [List.length_drop, List.length_take]; rfl)) ?_; (with_reducible refine (demand_length.calls a1 true _ A7.out).mono ?_); rintro e w' ⟨rfl, ⟨nd, rfl⟩⟩; refine ⟨_, rfl, ?_⟩) | (go_at_call 75; (with_reducible refine (demand_length.calls a2 true _ A9.out).mono ?_); rintro e w' ⟨rfl, ⟨nd, rfl⟩⟩))
            go_meet
            case rel => exact ⟨_, (true), (by first | rfl | (simp; done) | (simp [*]; done)), H', ⟨by first | omega | exact Nat.le_refl _⟩, ⟨by repeat (first | (with_reducible first | exact HB.out | apply below_alloc | apply pw_below_drewN | apply below_drew1) | exact HB.out)⟩⟩
          · rw [if_neg c12] at H
            have c12b0 : decide (253402300799 < a0) = false := decide_eq_false c12
            clear c12
            by_cases c13 : (wrap64 (60 * a1)) = 0
            · rw [if_pos c13] at H
              exact absurd H (by simp)
            · rw [if_neg c13] at H
              have c13b0 : ((wrap64 (60 * a1)) == 0) = false := beq_eq_false_iff_ne.mpr c13
              have c13b1 : ((wrap64 (60 * a1)) != 0) = true := bne_iff_ne.mpr c13
              by_cases c14 : (Int.tmod a0 (wrap64 (60 * a1))) = 0
              · rw [if_pos c14] at H
                have c14b0 : ((Int.tmod a0 (wrap64 (60 * a1))) == 0) = true := beq_iff_eq.mpr c14
                have c14b1 : ((Int.tmod a0 (wrap64 (60 * a1))) != 0) = false := bne_eq_false_iff_eq.mpr c14
                clear c14
                by_cases c15 : a3 < 0
                · rw [if_pos c15] at H
                  have c15b0 : decide (a3 < 0) = true := decide_eq_true c15
                  clear c15
                  have H' := Aside0.mk H
                  clear H
                  go_wp2_with (first | ((with_reducible refine gate_callee (f := 75) rfl ?_); refine goesL_ (some 16) rfl rfl Try.func75 (by kernel_rfl) rfl #[.int .i64 a1] rfl (by (try simp only [List.map_toArray, List.map_cons, List.map_nil]); first | done | rfl | (simp only [List.length_drop, List.length_take]; rfl)) ?_; (with_reducible refine (demand_length.calls a1 true _ A7.out).mono ?_); rintro e w' ⟨rfl, ⟨nd, rfl⟩⟩; refine ⟨_, rfl, ?_⟩) | (go_at_call 75; (with_reducible refine (demand_length.calls a2 true _ A9.out).mono ?_); rintro e w' ⟨rfl, ⟨nd, rfl⟩⟩))
                  go_meet
                  case rel => exact ⟨_, (true), (by first | rfl | (simp; done) | (simp [*]; done)), H', ⟨by first | omega | exact Nat.le_refl _⟩, ⟨by repeat (first | (with_reducible first | exact HB.out | apply below_alloc | apply pw_below_drewN | apply below_drew1) | exact HB.out)⟩⟩
                · rw [if_neg c15] at H
                  have c15b0 : decide (a3 < 0) = false := decide_eq_false c15
                  clear c15
                  by_cases c16 : a3 > a4
                  · rw [if_pos c16] at H
                    have c16b0 : decide (a4 < a3) = true := decide_eq_true c16
                    clear c16
                    have H' := Aside0.mk H
                    clear H
                    go_wp2_with (first | ((with_reducible refine gate_callee (f := 75) rfl ?_); refine goesL_ (some 16) rfl rfl Try.func75 (by kernel_rfl) rfl #[.int .i64 a1] rfl (by (try simp only [List.map_toArray, List.map_cons, List.map_nil]); first | done | rfl | (simp only [List.length_drop, List.length_take]; rfl)) ?_; (with_reducible refine (demand_length.calls a1 true _ A7.out).mono ?_); rintro e w' ⟨rfl, ⟨nd, rfl⟩⟩; refine ⟨_, rfl, ?_⟩) | (go_at_call 75; (with_reducible refine (demand_length.calls a2 true _ A9.out).mono ?_); rintro e w' ⟨rfl, ⟨nd, rfl⟩⟩))
                    go_meet
                    case rel => exact ⟨_, (true), (by first | rfl | (simp; done) | (simp [*]; done)), H', ⟨by first | omega | exact Nat.le_refl _⟩, ⟨by repeat (first | (with_reducible first | exact HB.out | apply below_alloc | apply pw_below_drewN | apply below_drew1) | exact HB.out)⟩⟩
                  · rw [if_neg c16] at H
                    have c16b0 : decide (a4 < a3) = false := decide_eq_false c16
                    clear c16
                    have H' := Aside0.mk H
                    clear H
                    go_wp2_with (first | ((with_reducible refine gate_callee (f := 75) rfl ?_); refine goesL_ (some 16) rfl rfl Try.func75 (by kernel_rfl) rfl #[.int .i64 a1] rfl (by (try simp only [List.map_toArray, List.map_cons, List.map_nil]); first | done | rfl | (simp only [List.length_drop, List.length_take]; rfl)) ?_; (with_reducible refine (demand_length.calls a1 true _ A7.out).mono ?_); rintro e w' ⟨rfl, ⟨nd, rfl⟩⟩; refine ⟨_, rfl, ?_⟩) | (go_at_call 75; (with_reducible refine (demand_length.calls a2 true _ A9.out).mono ?_); rintro e w' ⟨rfl, ⟨nd, rfl⟩⟩))
                    go_meet
                    case rel => exact ⟨_, (decide (a4 > 40000)), (by first | rfl | (simp; done) | (simp [*]; done) | (by_cases hdp0_ : a4 > 40000 <;> simp [*] <;> done)), H', ⟨by first | omega | exact Nat.le_refl _⟩, ⟨by repeat (first | (with_reducible first | exact HB.out | apply below_alloc | apply pw_below_drewN | apply below_drew1) | exact HB.out)⟩⟩
              · rw [if_neg c14] at H
                have c14b0 : ((Int.tmod a0 (wrap64 (60 * a1))) == 0) = false := beq_eq_false_iff_ne.mpr c14
                have c14b1 : ((Int.tmod a0 (wrap64 (60 * a1))) != 0) = true := bne_iff_ne.mpr c14
                have H' := Aside0.mk H
                clear H
                go_wp2_with (first | ((with_reducible refine gate_callee (f := 75) rfl ?_); refine goesL_ (some 16) rfl rfl Try.func75 (by kernel_rfl) rfl #[.int .i64 a1] rfl (by (try simp only [List.map_toArray, List.map_cons, List.map_nil]); first | done | rfl | (simp only [List.length_drop, List.length_take]; rfl)) ?_; (with_reducible refine (demand_length.calls a1 true _ A7.out).mono ?_); rintro e w' ⟨rfl, ⟨nd, rfl⟩⟩; refine ⟨_, rfl, ?_⟩) | (go_at_call 75; (with_reducible refine (demand_length.calls a2 true _ A9.out).mono ?_); rintro e w' ⟨rfl, ⟨nd, rfl⟩⟩))
                go_meet
                case rel => exact ⟨_, (true), (by first | rfl | (simp; done) | (simp [*]; done)), H', ⟨by first | omega | exact Nat.le_refl _⟩, ⟨by repeat (first | (with_reducible first | exact HB.out | apply below_alloc | apply pw_below_drewN | apply below_drew1) | exact HB.out)⟩⟩
      · replace c10 := Bool.eq_false_iff.mpr c10
        subst c10
        have H1 : (demand_Whole.j0 k a0 a1 a2 a3 a4 true) = some (r1, r2) := by rw [if_neg (show ¬ (false = true) by decide)] at H; exact H
        clear H
        have H := H1
        clear H1
        have H' := Aside0.mk H
        clear H
        go_wp2_with (first | ((with_reducible refine gate_callee (f := 75) rfl ?_); refine goesL_ (some 16) rfl rfl Try.func75 (by kernel_rfl) rfl #[.int .i64 a1] rfl (by (try simp only [List.map_toArray, List.map_cons, List.map_nil]); first | done | rfl | (simp only [List.length_drop, List.length_take]; rfl)) ?_; (with_reducible refine (demand_length.calls a1 true _ A7.out).mono ?_); rintro e w' ⟨rfl, ⟨nd, rfl⟩⟩; refine ⟨_, rfl, ?_⟩) | (go_at_call 75; (with_reducible refine (demand_length.calls a2 false _ A9.out).mono ?_); rintro e w' ⟨rfl, ⟨nd, rfl⟩⟩))
        go_meet
        case rel => exact ⟨_, (true), (by first | rfl | (simp; done) | (simp [*]; done)), H', ⟨by first | omega | exact Nat.le_refl _⟩, ⟨by repeat (first | (with_reducible first | exact HB.out | apply below_alloc | apply pw_below_drewN | apply below_drew1) | exact HB.out)⟩⟩
    · replace c8 := Bool.eq_false_iff.mpr c8
      subst c8
      have H1 : (demand_Whole.j0 k a0 a1 a2 a3 a4 true) = some (r1, r2) := by rw [if_neg (show ¬ (false = true) by decide)] at H; exact H
      clear H
      have H := H1
      clear H1
      have H' := Aside0.mk H
      clear H
      go_wp2_with (first | ((with_reducible refine gate_callee (f := 75) rfl ?_); refine goesL_ (some 16) rfl rfl Try.func75 (by kernel_rfl) rfl #[.int .i64 a1] rfl (by (try simp only [List.map_toArray, List.map_cons, List.map_nil]); first | done | rfl | (simp only [List.length_drop, List.length_take]; rfl)) ?_; (with_reducible refine (demand_length.calls a1 false _ A7.out).mono ?_); rintro e w' ⟨rfl, ⟨nd, rfl⟩⟩; refine ⟨_, rfl, ?_⟩))
      go_meet
      case rel => exact ⟨_, (true), (by first | rfl | (simp; done) | (simp [*]; done)), H', ⟨by first | omega | exact Nat.le_refl _⟩, ⟨by repeat (first | (with_reducible first | exact HB.out | apply below_alloc | apply pw_below_drewN | apply below_drew1) | exact HB.out)⟩⟩
  case rest =>
    clear HC6
    try clear c1
    try clear p2
    try clear c4
    try clear p6
    try clear c7
    try clear c8
    try clear c10
    try clear c11
    try clear c11b0
    try clear c12
    try clear c12b0
    try clear c13
    try clear c13b0
    try clear c13b1
    try clear c14
    try clear c14b0
    try clear c14b1
    try clear c15
    try clear c15b0
    try clear c16
    try clear c16b0
    obtain ⟨kq, x50_5, rfl, HA, HJ5, HB⟩ := hcut
    cases kq with
    | zero => exact absurd HA.out (by simp [demand_Whole.j0])
    | succ kj5 =>
      have H := HA.out
      clear HA
      simp only [demand_Whole.j0] at H
      by_cases c17 : x50_5 = true
      · subst c17
        have H1 : (some (([] : List (S90)), 8)) = some (r1, r2) := by rw [if_pos rfl] at H; exact H
        clear H
        have H := H1
        clear H1
        simp only [Option.some.injEq, Prod.mk.injEq] at H
        obtain ⟨rfl, rfl⟩ := H
        go_wp2
        go_ret2
        exact ⟨_, by first | rfl | (simp [errW_none, errW_some] <;> rfl) | (simp [*, errW_none, errW_some] <;> rfl), by first | exact Kd.R_nil _ _ _ _ _ | exact Kd.N_nil _ _ _ _ _ | exact Kd.V_nil _ _ _ _ _ | exact Kd.Q_nil _ _ _ _ _ | exact Kd.S_nil _ _ _ _ _, by repeat (first | (with_reducible first | exact HB.out | apply below_alloc | apply pw_below_drewN | apply below_drew1) | exact HB.out)⟩
      · replace c17 := Bool.eq_false_iff.mpr c17
        subst c17
        have H1 : (if a1 = 0 then (none) else (if (wrap64 (60 * a1)) = 0 then (none) else (if (mx 1 (wrap64 (Int.tdiv a2 a1))) = 0 then (none) else (demand_Whole.l0 kj5 (wrap64 (a3 + (Int.tmod (wrap64 ((mx 1 (wrap64 (Int.tdiv a2 a1))) - (Int.tmod (wrap64 ((wrap64 (Int.tdiv a0 (wrap64 (60 * a1)))) + a3)) (mx 1 (wrap64 (Int.tdiv a2 a1)))))) (mx 1 (wrap64 (Int.tdiv a2 a1)))))) a4 (mx 1 (wrap64 (Int.tdiv a2 a1))) ([] : List (S90)))))) = some (r1, r2) := by rw [if_neg (show ¬ (false = true) by decide)] at H; exact H
        clear H
        have H := H1
        clear H1
        by_cases c18 : a1 = 0
        · rw [if_pos c18] at H
          exact absurd H (by simp)
        · rw [if_neg c18] at H
          have c18b0 : (a1 == 0) = false := beq_eq_false_iff_ne.mpr c18
          have c18b1 : (a1 != 0) = true := bne_iff_ne.mpr c18
          obtain ⟨ji19, hji19⟩ : ∃ j_ : Int, (mx 1 (wrap64 (Int.tdiv a2 a1))) = j_ := ⟨_, rfl⟩
          replace H : (if (wrap64 (60 * a1)) = 0 then (none) else (if (ji19) = 0 then (none) else (demand_Whole.l0 kj5 (wrap64 (a3 + (Int.tmod (wrap64 ((ji19) - (Int.tmod (wrap64 ((wrap64 (Int.tdiv a0 (wrap64 (60 * a1)))) + a3)) (ji19)))) (ji19)))) a4 ji19 ([] : List (S90))))) = some (r1, r2) := by first | (rw [hji19] at H; exact H) | (simp only [hji19] at H ⊢; exact H)
          have hji19_ : (if 1 < (wrap64 (Int.tdiv a2 a1)) then (wrap64 (Int.tdiv a2 a1)) else 1) = ji19 := hji19
          by_cases c20 : (wrap64 (60 * a1)) = 0
          · rw [if_pos c20] at H
            exact absurd H (by simp)
          · rw [if_neg c20] at H
            have c20b0 : ((wrap64 (60 * a1)) == 0) = false := beq_eq_false_iff_ne.mpr c20
            have c20b1 : ((wrap64 (60 * a1)) != 0) = true := bne_iff_ne.mpr c20
            by_cases c21 : (ji19) = 0
            · rw [if_pos c21] at H
              exact absurd H (by simp)
            · rw [if_neg c21] at H
              have c21b0 : ((ji19) == 0) = false := beq_eq_false_iff_ne.mpr c21
              have c21b1 : ((ji19) != 0) = true := bne_iff_ne.mpr c21
              have H' := Aside0.mk H
              clear H
              go_wp2
              go_loopg [3, 14] kj5 (fun kq v3 v14 w' => ∃ (x3_2 : Int) (x14_2 : List (S90)), v3 = .int .i64 x3_2 ∧ Aside0 (demand_Whole.l0 kq x3_2 a4 ji19 x14_2 = some (r1, r2)) ∧ Aside0 (kq ≤ kj5) ∧ Aside0 (Kd.R k90 90 w' w.heap.size (fun _ => True) v14 x14_2) ∧ Aside0 (Below w.heap.size w w'))
              case atStart => exact ⟨(wrap64 (a3 + (Int.tmod (wrap64 ((ji19) - (Int.tmod (wrap64 ((wrap64 (Int.tdiv a0 (wrap64 (60 * a1)))) + a3)) (ji19)))) (ji19)))), (([] : List (S90))), (by first | rfl | (simp; done) | (simp only [← hji19] <;> (first | rfl | simp)) | (simp [*]; done)), H', ⟨Nat.le_refl _⟩, ⟨by first | exact Kd.R_nil _ _ _ _ _ | exact Kd.N_nil _ _ _ _ _ | exact Kd.V_nil _ _ _ _ _ | exact Kd.Q_nil _ _ _ _ _ | exact Kd.S_nil _ _ _ _ _⟩, ⟨by repeat (first | (with_reducible first | exact HB.out | apply below_alloc | apply pw_below_drewN | apply below_drew1) | exact HB.out)⟩⟩
              case round =>
                clear H'
                try clear c1
                try clear c2
                try clear p2
                try clear c4
                try clear p6
                try clear c7
                try clear c8
                try clear c10
                try clear c11
                try clear c11b0
                try clear c12
                try clear c12b0
                try clear c13
                try clear c13b0
                try clear c13b1
                try clear c14
                try clear c14b0
                try clear c14b1
                try clear c15
                try clear c15b0
                try clear c16
                try clear c16b0
                try clear c17
                try clear c18
                try clear c18b0
                try clear c18b1
                try clear c20
                try clear c20b0
                try clear c20b1
                try clear c21
                try clear c21b0
                try clear c21b1
                try clear p2
                try clear p6
                obtain ⟨x3_2, x14_2, rfl, HA, HK2, HO_14, HB⟩ := hrel
                cases gk with
                | zero => exact absurd HA.out (by simp [demand_Whole.l0])
                | succ k2 =>
                  have H := HA.out
                  clear HA
                  simp only [demand_Whole.l0] at H
                  by_cases c22 : (wrap64 (x3_2 + ji19)) ≤ a4
                  · rw [if_pos c22] at H
                    have c22b0 : decide ((wrap64 (x3_2 + ji19)) ≤ a4) = true := decide_eq_true c22
                    clear c22
                    by_cases c23 : x14_2.length < 8796093022208
                    · rw [if_pos c23] at H
                      have LMc23 := Aside0.mk c23
                      clear c23
                      obtain ⟨y142, hy142⟩ : ∃ y_ : List (S90), y_ = (x14_2 ++ [(⟨x3_2, wrap64 (x3_2 + ji19)⟩ : S90)]) := ⟨_, rfl⟩
                      replace H : (demand_Whole.l0 k2 (wrap64 (x3_2 + ji19)) a4 ji19 y142) = some (r1, r2) := by first | (rw [hy142]; with_reducible exact H) | (have H2_ := (Option.bind_some _ _).symm.trans H; rw [hy142]; with_reducible exact H2_) | (have H2_ := (Option.bind_some _ _).symm.trans H; with_reducible exact H2_) | with_reducible exact H | (rw [hy142]; exact H) | exact H
                      have Ny142 := Aside0.mk hy142
                      clear hy142
                      have H' := Aside0.mk H
                      clear H
                      go_wp2_with (first | ((with_reducible refine gate_builtin (b := .append) (xs := #[.tmp 78, .tmp 84]) rfl ?_); at_builtin; refine Kd.R_append k90 (w0 := w) w.heap.size rfl (.tmp 78) (.tmp 84) 83 90 (.agg #[(.int .i64 0), (.int .i64 0)]) 16 rfl Try.underlying83 info90 rfl (by decide) (by omega) u14 x14_2 (⟨x3_2, wrap64 (x3_2 + ji19)⟩ : S90) [.int .i64 x3_2, .int .i64 (wrap64 (x3_2 + ji19))] (fun _ => True) (fun _ => False) rfl rfl ?aP (fun _ hk => hk.elim) ?aF ?aO ?aB ?aS ?aL ?_; (case aP => exact k90_mkM _ _ _ (⟨x3_2, wrap64 (x3_2 + ji19)⟩ : S90)); (case aB => exact (by repeat (first | (with_reducible first | exact HB.out | apply below_alloc | apply pw_below_drewN | apply below_drew1) | exact HB.out))); (case aF => exact (fun _ _ => trivial)); (case aO => exact (by (with_reducible repeat (first | apply Kd.R_alloc | apply Kd.R_drewN | apply Kd.R_drew)); exact HO_14.out)); (case aS => exact (below_size (by repeat (first | (with_reducible first | exact HB.out | apply below_alloc | apply pw_below_drewN | apply below_drew1) | exact HB.out)))); (case aL => have := LMc23.out; omega); intro v143 w24 ho hb hg hat; rw [← Ny142.out] at ho; have n0_ := Aside0.mk (hb); have n1_ := Aside0.mk (ho); clear HB; clear HO_14; have HB := n0_; have HO144 := n1_; clear n0_ n1_; clear ho hb hg hat))
                      go_roundg k2
                      case measure => have := HJ5.out; have := HK2.out; omega
                      case rel => exact ⟨(wrap64 (x3_2 + ji19)), (y142), (by first | rfl | (simp; done) | (simp only [← hji19] <;> (first | rfl | simp)) | (simp [*]; done)), H', ⟨by have := HJ5.out; have := HK2.out; omega⟩, ⟨by (with_reducible repeat (first | apply Kd.R_alloc | apply Kd.R_drewN | apply Kd.R_drew)); exact HO144.out⟩, ⟨by repeat (first | (with_reducible first | exact HB.out | apply below_alloc | apply pw_below_drewN | apply below_drew1) | exact HB.out)⟩⟩
                    · rw [if_neg c23] at H
                      exact absurd H (by simp)
                  · rw [if_neg c22] at H
                    have c22b0 : decide ((wrap64 (x3_2 + ji19)) ≤ a4) = false := decide_eq_false c22
                    clear c22
                    simp only [Option.some.injEq, Prod.mk.injEq] at H
                    obtain ⟨rfl, rfl⟩ := H
                    go_wp2
                    go_ret2
                    exact ⟨_, by first | rfl | (simp [errW_none, errW_some] <;> rfl) | (simp only [← hji19]; first | rfl | (simp [errW_none, errW_some] <;> rfl)) | (simp [*, errW_none, errW_some] <;> rfl), by (with_reducible repeat (first | apply Kd.R_alloc | apply Kd.R_drewN | apply Kd.R_drew)); exact HO_14.out, by repeat (first | (with_reducible first | exact HB.out | apply below_alloc | apply pw_below_drewN | apply below_drew1) | exact HB.out)⟩

end Go.Proofs.Ytapimggcnneabaa.PDG
