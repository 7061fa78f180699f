-- Written by a program of this session for this claim (wip/print2.sh). Lean checks it.
import Derived.Test.YtapimggcnneabaaPMx0
namespace Go.Proofs.Ytapimggcnneabaa.PM
open Go.Proofs.YtapimggcnneabaaW.PrintWords
attribute [local go_sem high] fx_eql fx_neq fx_lss fx_leq fx_gtr fx_geq fx_add fx_sub fx_mul fx_neg fx_toint cxx_add cxx_sub cxx_mul cxx_eql cxx_neq cxx_pick st_float st_complex
open Go.RowKit Go.Proofs.YtapimggcnneabaaW.PrintWords Go.Proofs.YtapimggcnneabaaW.PrintLast Go.Proofs.YtapimggcnneabaaW.PrintMore
attribute [local go_sem] max2_int min2_int max_two min_two max_three min_three max_four min_four   -- for this text's walks alone
set_option linter.unusedVariables false
set_option linter.unusedSimpArgs false

/-! ### meter_within: function 59 -/
def meter_within.f (a0 : Int) (a1 : Int) (a2 : Int) : Option (Bool) := if a0 ≥ a1 then (some (decide (a0 ≤ a2))) else (some false)
set_option maxHeartbeats 8000000 in
set_option maxRecDepth 100000 in
theorem meter_within.calls (a0 : Int) (a1 : Int) (a2 : Int) (r : Bool) (w : World) (h : meter_within.f a0 a1 a2 = some r) :
    Calls Try.prog 59 #[.int .i64 a0, .int .i64 a1, .int .i64 a2] w fun e w' => e = .returned (.bool r) ∧ Drawn0 w w' := by
  have H : (if a0 ≥ a1 then (some (decide (a0 ≤ a2))) else (some false)) = some r := h
  clear h
  by_cases c4 : a0 ≥ a1
  · rw [if_pos c4] at H
    have c4b0 : decide (a1 ≤ a0) = true := decide_eq_true c4
    clear c4
    obtain rfl := Option.some.inj H
    go_enter Try.func59, Try.ntmps59
    go_wp2
    go_ret
    exact ⟨by first | rfl | (simp; done) | (simp [*]; done), by repeat (first | exact Drawn0.refl _ | apply Drawn0.step)⟩
  · rw [if_neg c4] at H
    have c4b0 : decide (a1 ≤ a0) = false := decide_eq_false c4
    clear c4
    obtain rfl := Option.some.inj H
    go_enter Try.func59, Try.ntmps59
    go_wp2
    go_ret
    exact ⟨by first | rfl | (simp; done) | (simp [*]; done), by repeat (first | exact Drawn0.refl _ | apply Drawn0.step)⟩

/-! ### meter_Point: function 23 -/
def meter_Point.j0 : Nat → Int → Int → Bool → Int → Int → Int → Int → Int → Option (Cx × Int)
  | 0, _, _, _, _, _, _, _, _ => none
  | k + 1, x1, x2, x9, x102000, x102001, x102002, x102003, x102004 => if x9 = true then (some (cx 0 0, 8)) else ((meter_within.f x102001 0 10000000).bind fun t103 => (if t103 = true then ((meter_within.f x102002 0 10000000).bind fun t104 => (if t104 = true then ((meter_within.f x102003 (-10000000) 10000000).bind fun t105 => (if t105 = true then (if cmulok (floatOfInt .f64 (wrap64 (x102001 - x102002))) (floatOfInt .f64 x102003) (floatOfInt .f64 x1) 0 = true then (if 0 ≤ x2 then (if x2 < 4 then (if cmulok (cmulre (floatOfInt .f64 (wrap64 (x102001 - x102002))) (floatOfInt .f64 x102003) (floatOfInt .f64 x1) 0) (cmulim (floatOfInt .f64 (wrap64 (x102001 - x102002))) (floatOfInt .f64 x102003) (floatOfInt .f64 x1) 0) (pk4 x2 4607182418800017408 0 13830554455654793216 0) (pk4 x2 0 4607182418800017408 0 13830554455654793216) = true then (some (cx (cmulre (cmulre (floatOfInt .f64 (wrap64 (x102001 - x102002))) (floatOfInt .f64 x102003) (floatOfInt .f64 x1) 0) (cmulim (floatOfInt .f64 (wrap64 (x102001 - x102002))) (floatOfInt .f64 x102003) (floatOfInt .f64 x1) 0) (pk4 x2 4607182418800017408 0 13830554455654793216 0) (pk4 x2 0 4607182418800017408 0 13830554455654793216)) (cmulim (cmulre (floatOfInt .f64 (wrap64 (x102001 - x102002))) (floatOfInt .f64 x102003) (floatOfInt .f64 x1) 0) (cmulim (floatOfInt .f64 (wrap64 (x102001 - x102002))) (floatOfInt .f64 x102003) (floatOfInt .f64 x1) 0) (pk4 x2 4607182418800017408 0 13830554455654793216 0) (pk4 x2 0 4607182418800017408 0 13830554455654793216)), 0)) else (none)) else (none)) else (none)) else (none)) else (some (cx 0 0, 5)))) else (some (cx 0 0, 5)))) else (some (cx 0 0, 5))))
def meter_Point.f (k : Nat) (a0_0 : Int) (a0_1 : Int) (a0_2 : Int) (a0_3 : Int) (a0_4 : Int) (a1 : Int) (a2 : Int) : Option (Cx × Int) := (meter_within.f a1 1 1000).bind fun t102 => (if t102 = true then (if a2 < 0 then (meter_Point.j0 k a1 a2 (decide (a2 < 0)) a0_0 a0_1 a0_2 a0_3 a0_4) else (meter_Point.j0 k a1 a2 (decide (a2 > 3)) a0_0 a0_1 a0_2 a0_3 a0_4)) else (meter_Point.j0 k a1 a2 (!t102) a0_0 a0_1 a0_2 a0_3 a0_4))
theorem meter_Point.mono_l : ∀ k, (∀ y0 y1 y2 y3 y4 y5 y6 y7, LeO (meter_Point.j0 k y0 y1 y2 y3 y4 y5 y6 y7) (meter_Point.j0 (k + 1) y0 y1 y2 y3 y4 y5 y6 y7))
  | 0 => fun _ _ _ _ _ _ _ _ r h => by simp [meter_Point.j0] at h
  | k + 1 => by
    have ih0 := meter_Point.mono_l k
    · intro y0 y1 y2 y3 y4 y5 y6 y7
      unfold meter_Point.j0
      repeat' first
      | (with_reducible exact ih0 _ _ _ _ _ _ _ _)
      | (with_reducible exact LeO.refl _)
      | (with_reducible exact LeO.none _)
      | (with_reducible refine LeO.ite ?_ ?_)
      | (with_reducible refine LeO.bind ?_ (fun _ => ?_))
      | exact ih0 _ _ _ _ _ _ _ _
      | exact LeO.none _
      | refine LeO.ite ?_ ?_
      | refine LeO.bind ?_ (fun _ => ?_)
theorem meter_Point.mono : ∀ a0 a1 a2 a3 a4 a5 a6 k, LeO (meter_Point.f k a0 a1 a2 a3 a4 a5 a6) (meter_Point.f (k + 1) a0 a1 a2 a3 a4 a5 a6) := by
  intro a0 a1 a2 a3 a4 a5 a6 k
  have ih0 := meter_Point.mono_l k
  unfold meter_Point.f
  repeat' first
      | (with_reducible exact ih0 _ _ _ _ _ _ _ _)
      | (with_reducible exact LeO.refl _)
      | (with_reducible exact LeO.none _)
      | (with_reducible refine LeO.ite ?_ ?_)
      | (with_reducible refine LeO.bind ?_ (fun _ => ?_))
      | exact ih0 _ _ _ _ _ _ _ _
      | exact LeO.none _
      | refine LeO.ite ?_ ?_
      | refine LeO.bind ?_ (fun _ => ?_)
set_option maxHeartbeats 8000000 in
set_option maxRecDepth 100000 in
theorem meter_Point.calls (k : Nat) (a0_0 : Int) (a0_1 : Int) (a0_2 : Int) (a0_3 : Int) (a0_4 : Int) (a1 : Int) (a2 : Int) (r1 : Cx) (r2 : Int) (w : World) (h : meter_Point.f k a0_0 a0_1 a0_2 a0_3 a0_4 a1 a2 = some (r1, r2)) :
    Calls Try.prog 23 #[.agg #[.int .i64 a0_0, .int .i64 a0_1, .int .i64 a0_2, .int .i64 a0_3, .int .u8 a0_4], .int .i64 a1, .int .i64 a2] w fun e w' => e = .returned (.tuple #[.complex .f64 r1.re r1.im, .int .i64 r2]) ∧ Below w.heap.size w w' := by
  have hu25 := Try.underlying25
  have hu58 := Try.underlying58
  have hpk58 := fun w k i a1 a2 b1 b2 c1 c2 d1 d2 => cxx_pick (P := Try.prog) w 58 k i a1 a2 b1 b2 c1 c2 d1 d2 (by kernel_rfl) (by kernel_rfl) (by kernel_rfl) (by kernel_rfl)
  have HB := Aside0.mk (Below.refl w.heap.size w)
  have H : ((meter_within.f a1 1 1000).bind fun t102 => (if t102 = true then (if a2 < 0 then (meter_Point.j0 k a1 a2 (decide (a2 < 0)) a0_0 a0_1 a0_2 a0_3 a0_4) else (meter_Point.j0 k a1 a2 (decide (a2 > 3)) a0_0 a0_1 a0_2 a0_3 a0_4)) else (meter_Point.j0 k a1 a2 (!t102) a0_0 a0_1 a0_2 a0_3 a0_4))) = some (r1, r2) := h
  clear h
  replace H := Option.bind_eq_some_iff.mp H
  obtain ⟨t102, A40, H⟩ := H
  replace H : (if t102 = true then (if a2 < 0 then (meter_Point.j0 k a1 a2 (decide (a2 < 0)) a0_0 a0_1 a0_2 a0_3 a0_4) else (meter_Point.j0 k a1 a2 (decide (a2 > 3)) a0_0 a0_1 a0_2 a0_3 a0_4)) else (meter_Point.j0 k a1 a2 (!t102) a0_0 a0_1 a0_2 a0_3 a0_4)) = some (r1, r2) := H
  have A4 := Aside0.mk A40
  clear A40
  have HC5 := Aside0.mk H
  clear H
  go_enter Try.func23, Try.ntmps23
  go_upto_if 9 with (first | ((with_reducible refine gate_dst (N := 3) rfl ?_); refine box_event ?hg (N := 3) ?hd (cs := #[.int .i64 a0_0, .int .i64 a0_1, .int .i64 a0_2, .int .i64 a0_3, .int .u8 a0_4]) (t := 25) ?hr ?_; (case hd => rfl); (case hg => rfl); (case hr => first | (go_simp; done) | (go_simp; rfl)); intro gb101 hg w6 hbox hb; have n0_ := Aside0.mk (below_step (by repeat (first | (with_reducible first | exact HB.out | apply below_alloc | apply pw_below_drewN | apply below_drew1) | exact HB.out)) hb); have n1_ := Aside0.mk (hbox); have n2_ := Aside0.mk ((by rw [hg]; exact (below_size (by repeat (first | (with_reducible first | exact HB.out | apply below_alloc | apply pw_below_drewN | apply below_drew1) | exact HB.out))) : w.heap.size ≤ gb101)); have n3_ := Aside0.mk ((by rw [hg]; exact (below_size (by repeat (first | (with_reducible first | exact HB.out | apply below_alloc | apply pw_below_drewN | apply below_drew1) | exact HB.out))) : w.heap.size ≤ gb101)); clear HB; have HB := n0_; have BK101 := n1_; have GW101 := n2_; have GE101 := n3_; clear n0_ n1_ n2_ n3_; clear hb hbox hg) | ((with_reducible refine gate_callee (f := 59) rfl ?_); refine goesL_ (some 11) rfl rfl Try.func59 (by kernel_rfl) rfl #[.int .i64 a1, .int .i64 1, .int .i64 1000] rfl (by (try simp only [List.map_toArray, List.map_cons, List.map_nil]); first | done | rfl | (simp only [List.length_drop, List.length_take]; rfl)) ?_; (with_reducible refine (meter_within.calls a1 1 1000 t102 _ A4.out).mono ?_); rintro e w' ⟨rfl, ⟨nd, rfl⟩⟩; refine ⟨_, rfl, ?_⟩))
  (try simp only [Act.put, List.setIfInBounds_toArray, List.set_cons_zero, List.set_cons_succ])
  go_cut [9] (fun v9 wc => ∃ (kq : Nat) (x9_4 : Bool), v9 = .bool x9_4 ∧ Aside0 (meter_Point.j0 kq a1 a2 x9_4 a0_0 a0_1 a0_2 a0_3 a0_4 = some (r1, r2)) ∧ Aside0 (kq ≤ k) ∧ Aside0 (wc.heap[gb101]? = some (.cells #[.int .i64 a0_0, .int .i64 a0_1, .int .i64 a0_2, .int .i64 a0_3, .int .u8 a0_4] 25 (0, 0))) ∧ Aside0 (Below w.heap.size w wc))
  case first =>
    have H := HC5.out
    clear HC5
    by_cases c7 : t102 = true
    · subst c7
      have H1 : (if a2 < 0 then (meter_Point.j0 k a1 a2 (decide (a2 < 0)) a0_0 a0_1 a0_2 a0_3 a0_4) else (meter_Point.j0 k a1 a2 (decide (a2 > 3)) a0_0 a0_1 a0_2 a0_3 a0_4)) = some (r1, r2) := by rw [if_pos rfl] at H; exact H
      clear H
      have H := H1
      clear H1
      by_cases c8 : a2 < 0
      · rw [if_pos c8] at H
        have c8b0 : decide (a2 < 0) = true := decide_eq_true c8
        clear c8
        (first | rw [c8b0] | (simp only [i64_w, i32_w]; rw [c8b0]) | skip)
        have H' := Aside0.mk H
        clear H
        go_wp2
        go_meet
        case rel => exact ⟨_, (decide (a2 < 0)), (by first | rfl | (simp; done) | (simp [*]; done) | (by_cases hdp0_ : a2 < 0 <;> simp [*] <;> done)), H', ⟨by first | omega | exact Nat.le_refl _⟩, ⟨by (with_reducible repeat (first | refine blk_drewN ?_ _ | refine blk_drew ?_ | refine blk_alloc ?_ _)); exact BK101.out⟩, ⟨by repeat (first | (with_reducible first | exact HB.out | apply below_alloc | apply pw_below_drewN | apply below_drew1 | refine below_set ?_ GE101.out) | exact HB.out)⟩⟩
      · rw [if_neg c8] at H
        have c8b0 : decide (a2 < 0) = false := decide_eq_false c8
        clear c8
        (first | rw [c8b0] | (simp only [i64_w, i32_w]; rw [c8b0]) | skip)
        have H' := Aside0.mk H
        clear H
        go_wp2
        go_meet
        case rel => exact ⟨_, (decide (a2 > 3)), (by first | rfl | (simp; done) | (simp [*]; done) | (by_cases hdp0_ : a2 > 3 <;> simp [*] <;> done)), H', ⟨by first | omega | exact Nat.le_refl _⟩, ⟨by (with_reducible repeat (first | refine blk_drewN ?_ _ | refine blk_drew ?_ | refine blk_alloc ?_ _)); exact BK101.out⟩, ⟨by repeat (first | (with_reducible first | exact HB.out | apply below_alloc | apply pw_below_drewN | apply below_drew1 | refine below_set ?_ GE101.out) | exact HB.out)⟩⟩
    · replace c7 := Bool.eq_false_iff.mpr c7
      subst c7
      have H1 : (meter_Point.j0 k a1 a2 (!false) a0_0 a0_1 a0_2 a0_3 a0_4) = some (r1, r2) := by rw [if_neg (show ¬ (false = true) by decide)] at H; exact H
      clear H
      have H := H1
      clear H1
      have H' := Aside0.mk H
      clear H
      go_wp2
      go_meet
      case rel => exact ⟨_, (!false), (by first | rfl | (simp; done) | (simp [*]; done)), H', ⟨by first | omega | exact Nat.le_refl _⟩, ⟨by (with_reducible repeat (first | refine blk_drewN ?_ _ | refine blk_drew ?_ | refine blk_alloc ?_ _)); exact BK101.out⟩, ⟨by repeat (first | (with_reducible first | exact HB.out | apply below_alloc | apply pw_below_drewN | apply below_drew1 | refine below_set ?_ GE101.out) | exact HB.out)⟩⟩
  case rest =>
    clear HC5
    try clear c2
    try clear p2
    try clear c5
    try clear c7
    try clear c8
    try clear c8b0
    obtain ⟨kq, x9_4, rfl, HA, HJ4, BK101, HB⟩ := hcut
    cases kq with
    | zero => exact absurd HA.out (by simp [meter_Point.j0])
    | succ kj4 =>
      have H := HA.out
      clear HA
      simp only [meter_Point.j0] at H
      by_cases c9 : x9_4 = true
      · subst c9
        have H1 : (some (cx 0 0, 8)) = some (r1, r2) := by rw [if_pos rfl] at H; exact H
        clear H
        have H := H1
        clear H1
        simp only [Option.some.injEq, Prod.mk.injEq] at H
        obtain ⟨rfl, rfl⟩ := H
        go_wp2
        go_ret2
        exact ⟨by first | rfl | (simp [errW_none, errW_some] <;> rfl) | (simp [*, errW_none, errW_some] <;> rfl), by repeat (first | (with_reducible first | exact HB.out | apply below_alloc | apply pw_below_drewN | apply below_drew1 | refine below_set ?_ GE101.out) | exact HB.out)⟩
      · replace c9 := Bool.eq_false_iff.mpr c9
        subst c9
        have H1 : ((meter_within.f a0_1 0 10000000).bind fun t103 => (if t103 = true then ((meter_within.f a0_2 0 10000000).bind fun t104 => (if t104 = true then ((meter_within.f a0_3 (-10000000) 10000000).bind fun t105 => (if t105 = true then (if cmulok (floatOfInt .f64 (wrap64 (a0_1 - a0_2))) (floatOfInt .f64 a0_3) (floatOfInt .f64 a1) 0 = true then (if 0 ≤ a2 then (if a2 < 4 then (if cmulok (cmulre (floatOfInt .f64 (wrap64 (a0_1 - a0_2))) (floatOfInt .f64 a0_3) (floatOfInt .f64 a1) 0) (cmulim (floatOfInt .f64 (wrap64 (a0_1 - a0_2))) (floatOfInt .f64 a0_3) (floatOfInt .f64 a1) 0) (pk4 a2 4607182418800017408 0 13830554455654793216 0) (pk4 a2 0 4607182418800017408 0 13830554455654793216) = true then (some (cx (cmulre (cmulre (floatOfInt .f64 (wrap64 (a0_1 - a0_2))) (floatOfInt .f64 a0_3) (floatOfInt .f64 a1) 0) (cmulim (floatOfInt .f64 (wrap64 (a0_1 - a0_2))) (floatOfInt .f64 a0_3) (floatOfInt .f64 a1) 0) (pk4 a2 4607182418800017408 0 13830554455654793216 0) (pk4 a2 0 4607182418800017408 0 13830554455654793216)) (cmulim (cmulre (floatOfInt .f64 (wrap64 (a0_1 - a0_2))) (floatOfInt .f64 a0_3) (floatOfInt .f64 a1) 0) (cmulim (floatOfInt .f64 (wrap64 (a0_1 - a0_2))) (floatOfInt .f64 a0_3) (floatOfInt .f64 a1) 0) (pk4 a2 4607182418800017408 0 13830554455654793216 0) (pk4 a2 0 4607182418800017408 0 13830554455654793216)), 0)) else (none)) else (none)) else (none)) else (none)) else (some (cx 0 0, 5)))) else (some (cx 0 0, 5)))) else (some (cx 0 0, 5)))) = some (r1, r2) := by rw [if_neg (show ¬ (false = true) by decide)] at H; exact H
        clear H
        have H := H1
        clear H1
        replace H := Option.bind_eq_some_iff.mp H
        obtain ⟨t103, A100, H⟩ := H
        replace H : (if t103 = true then ((meter_within.f a0_2 0 10000000).bind fun t104 => (if t104 = true then ((meter_within.f a0_3 (-10000000) 10000000).bind fun t105 => (if t105 = true then (if cmulok (floatOfInt .f64 (wrap64 (a0_1 - a0_2))) (floatOfInt .f64 a0_3) (floatOfInt .f64 a1) 0 = true then (if 0 ≤ a2 then (if a2 < 4 then (if cmulok (cmulre (floatOfInt .f64 (wrap64 (a0_1 - a0_2))) (floatOfInt .f64 a0_3) (floatOfInt .f64 a1) 0) (cmulim (floatOfInt .f64 (wrap64 (a0_1 - a0_2))) (floatOfInt .f64 a0_3) (floatOfInt .f64 a1) 0) (pk4 a2 4607182418800017408 0 13830554455654793216 0) (pk4 a2 0 4607182418800017408 0 13830554455654793216) = true then (some (cx (cmulre (cmulre (floatOfInt .f64 (wrap64 (a0_1 - a0_2))) (floatOfInt .f64 a0_3) (floatOfInt .f64 a1) 0) (cmulim (floatOfInt .f64 (wrap64 (a0_1 - a0_2))) (floatOfInt .f64 a0_3) (floatOfInt .f64 a1) 0) (pk4 a2 4607182418800017408 0 13830554455654793216 0) (pk4 a2 0 4607182418800017408 0 13830554455654793216)) (cmulim (cmulre (floatOfInt .f64 (wrap64 (a0_1 - a0_2))) (floatOfInt .f64 a0_3) (floatOfInt .f64 a1) 0) (cmulim (floatOfInt .f64 (wrap64 (a0_1 - a0_2))) (floatOfInt .f64 a0_3) (floatOfInt .f64 a1) 0) (pk4 a2 4607182418800017408 0 13830554455654793216 0) (pk4 a2 0 4607182418800017408 0 13830554455654793216)), 0)) else (none)) else (none)) else (none)) else (none)) else (some (cx 0 0, 5)))) else (some (cx 0 0, 5)))) else (some (cx 0 0, 5))) = some (r1, r2) := H
        have A10 := Aside0.mk A100
        clear A100
        by_cases c11 : t103 = true
        · subst c11
          have H1 : ((meter_within.f a0_2 0 10000000).bind fun t104 => (if t104 = true then ((meter_within.f a0_3 (-10000000) 10000000).bind fun t105 => (if t105 = true then (if cmulok (floatOfInt .f64 (wrap64 (a0_1 - a0_2))) (floatOfInt .f64 a0_3) (floatOfInt .f64 a1) 0 = true then (if 0 ≤ a2 then (if a2 < 4 then (if cmulok (cmulre (floatOfInt .f64 (wrap64 (a0_1 - a0_2))) (floatOfInt .f64 a0_3) (floatOfInt .f64 a1) 0) (cmulim (floatOfInt .f64 (wrap64 (a0_1 - a0_2))) (floatOfInt .f64 a0_3) (floatOfInt .f64 a1) 0) (pk4 a2 4607182418800017408 0 13830554455654793216 0) (pk4 a2 0 4607182418800017408 0 13830554455654793216) = true then (some (cx (cmulre (cmulre (floatOfInt .f64 (wrap64 (a0_1 - a0_2))) (floatOfInt .f64 a0_3) (floatOfInt .f64 a1) 0) (cmulim (floatOfInt .f64 (wrap64 (a0_1 - a0_2))) (floatOfInt .f64 a0_3) (floatOfInt .f64 a1) 0) (pk4 a2 4607182418800017408 0 13830554455654793216 0) (pk4 a2 0 4607182418800017408 0 13830554455654793216)) (cmulim (cmulre (floatOfInt .f64 (wrap64 (a0_1 - a0_2))) (floatOfInt .f64 a0_3) (floatOfInt .f64 a1) 0) (cmulim (floatOfInt .f64 (wrap64 (a0_1 - a0_2))) (floatOfInt .f64 a0_3) (floatOfInt .f64 a1) 0) (pk4 a2 4607182418800017408 0 13830554455654793216 0) (pk4 a2 0 4607182418800017408 0 13830554455654793216)), 0)) else (none)) else (none)) else (none)) else (none)) else (some (cx 0 0, 5)))) else (some (cx 0 0, 5)))) = some (r1, r2) := by rw [if_pos rfl] at H; exact H
          clear H
          have H := H1
          clear H1
          replace H := Option.bind_eq_some_iff.mp H
          obtain ⟨t104, A120, H⟩ := H
          replace H : (if t104 = true then ((meter_within.f a0_3 (-10000000) 10000000).bind fun t105 => (if t105 = true then (if cmulok (floatOfInt .f64 (wrap64 (a0_1 - a0_2))) (floatOfInt .f64 a0_3) (floatOfInt .f64 a1) 0 = true then (if 0 ≤ a2 then (if a2 < 4 then (if cmulok (cmulre (floatOfInt .f64 (wrap64 (a0_1 - a0_2))) (floatOfInt .f64 a0_3) (floatOfInt .f64 a1) 0) (cmulim (floatOfInt .f64 (wrap64 (a0_1 - a0_2))) (floatOfInt .f64 a0_3) (floatOfInt .f64 a1) 0) (pk4 a2 4607182418800017408 0 13830554455654793216 0) (pk4 a2 0 4607182418800017408 0 13830554455654793216) = true then (some (cx (cmulre (cmulre (floatOfInt .f64 (wrap64 (a0_1 - a0_2))) (floatOfInt .f64 a0_3) (floatOfInt .f64 a1) 0) (cmulim (floatOfInt .f64 (wrap64 (a0_1 - a0_2))) (floatOfInt .f64 a0_3) (floatOfInt .f64 a1) 0) (pk4 a2 4607182418800017408 0 13830554455654793216 0) (pk4 a2 0 4607182418800017408 0 13830554455654793216)) (cmulim (cmulre (floatOfInt .f64 (wrap64 (a0_1 - a0_2))) (floatOfInt .f64 a0_3) (floatOfInt .f64 a1) 0) (cmulim (floatOfInt .f64 (wrap64 (a0_1 - a0_2))) (floatOfInt .f64 a0_3) (floatOfInt .f64 a1) 0) (pk4 a2 4607182418800017408 0 13830554455654793216 0) (pk4 a2 0 4607182418800017408 0 13830554455654793216)), 0)) else (none)) else (none)) else (none)) else (none)) else (some (cx 0 0, 5)))) else (some (cx 0 0, 5))) = some (r1, r2) := H
          have A12 := Aside0.mk A120
          clear A120
          by_cases c13 : t104 = true
          · subst c13
            have H1 : ((meter_within.f a0_3 (-10000000) 10000000).bind fun t105 => (if t105 = true then (if cmulok (floatOfInt .f64 (wrap64 (a0_1 - a0_2))) (floatOfInt .f64 a0_3) (floatOfInt .f64 a1) 0 = true then (if 0 ≤ a2 then (if a2 < 4 then (if cmulok (cmulre (floatOfInt .f64 (wrap64 (a0_1 - a0_2))) (floatOfInt .f64 a0_3) (floatOfInt .f64 a1) 0) (cmulim (floatOfInt .f64 (wrap64 (a0_1 - a0_2))) (floatOfInt .f64 a0_3) (floatOfInt .f64 a1) 0) (pk4 a2 4607182418800017408 0 13830554455654793216 0) (pk4 a2 0 4607182418800017408 0 13830554455654793216) = true then (some (cx (cmulre (cmulre (floatOfInt .f64 (wrap64 (a0_1 - a0_2))) (floatOfInt .f64 a0_3) (floatOfInt .f64 a1) 0) (cmulim (floatOfInt .f64 (wrap64 (a0_1 - a0_2))) (floatOfInt .f64 a0_3) (floatOfInt .f64 a1) 0) (pk4 a2 4607182418800017408 0 13830554455654793216 0) (pk4 a2 0 4607182418800017408 0 13830554455654793216)) (cmulim (cmulre (floatOfInt .f64 (wrap64 (a0_1 - a0_2))) (floatOfInt .f64 a0_3) (floatOfInt .f64 a1) 0) (cmulim (floatOfInt .f64 (wrap64 (a0_1 - a0_2))) (floatOfInt .f64 a0_3) (floatOfInt .f64 a1) 0) (pk4 a2 4607182418800017408 0 13830554455654793216 0) (pk4 a2 0 4607182418800017408 0 13830554455654793216)), 0)) else (none)) else (none)) else (none)) else (none)) else (some (cx 0 0, 5)))) = some (r1, r2) := by rw [if_pos rfl] at H; exact H
            clear H
            have H := H1
            clear H1
            replace H := Option.bind_eq_some_iff.mp H
            obtain ⟨t105, A140, H⟩ := H
            replace H : (if t105 = true then (if cmulok (floatOfInt .f64 (wrap64 (a0_1 - a0_2))) (floatOfInt .f64 a0_3) (floatOfInt .f64 a1) 0 = true then (if 0 ≤ a2 then (if a2 < 4 then (if cmulok (cmulre (floatOfInt .f64 (wrap64 (a0_1 - a0_2))) (floatOfInt .f64 a0_3) (floatOfInt .f64 a1) 0) (cmulim (floatOfInt .f64 (wrap64 (a0_1 - a0_2))) (floatOfInt .f64 a0_3) (floatOfInt .f64 a1) 0) (pk4 a2 4607182418800017408 0 13830554455654793216 0) (pk4 a2 0 4607182418800017408 0 13830554455654793216) = true then (some (cx (cmulre (cmulre (floatOfInt .f64 (wrap64 (a0_1 - a0_2))) (floatOfInt .f64 a0_3) (floatOfInt .f64 a1) 0) (cmulim (floatOfInt .f64 (wrap64 (a0_1 - a0_2))) (floatOfInt .f64 a0_3) (floatOfInt .f64 a1) 0) (pk4 a2 4607182418800017408 0 13830554455654793216 0) (pk4 a2 0 4607182418800017408 0 13830554455654793216)) (cmulim (cmulre (floatOfInt .f64 (wrap64 (a0_1 - a0_2))) (floatOfInt .f64 a0_3) (floatOfInt .f64 a1) 0) (cmulim (floatOfInt .f64 (wrap64 (a0_1 - a0_2))) (floatOfInt .f64 a0_3) (floatOfInt .f64 a1) 0) (pk4 a2 4607182418800017408 0 13830554455654793216 0) (pk4 a2 0 4607182418800017408 0 13830554455654793216)), 0)) else (none)) else (none)) else (none)) else (none)) else (some (cx 0 0, 5))) = some (r1, r2) := H
            have A14 := Aside0.mk A140
            clear A140
            by_cases c15 : t105 = true
            · subst c15
              have H1 : (if cmulok (floatOfInt .f64 (wrap64 (a0_1 - a0_2))) (floatOfInt .f64 a0_3) (floatOfInt .f64 a1) 0 = true then (if 0 ≤ a2 then (if a2 < 4 then (if cmulok (cmulre (floatOfInt .f64 (wrap64 (a0_1 - a0_2))) (floatOfInt .f64 a0_3) (floatOfInt .f64 a1) 0) (cmulim (floatOfInt .f64 (wrap64 (a0_1 - a0_2))) (floatOfInt .f64 a0_3) (floatOfInt .f64 a1) 0) (pk4 a2 4607182418800017408 0 13830554455654793216 0) (pk4 a2 0 4607182418800017408 0 13830554455654793216) = true then (some (cx (cmulre (cmulre (floatOfInt .f64 (wrap64 (a0_1 - a0_2))) (floatOfInt .f64 a0_3) (floatOfInt .f64 a1) 0) (cmulim (floatOfInt .f64 (wrap64 (a0_1 - a0_2))) (floatOfInt .f64 a0_3) (floatOfInt .f64 a1) 0) (pk4 a2 4607182418800017408 0 13830554455654793216 0) (pk4 a2 0 4607182418800017408 0 13830554455654793216)) (cmulim (cmulre (floatOfInt .f64 (wrap64 (a0_1 - a0_2))) (floatOfInt .f64 a0_3) (floatOfInt .f64 a1) 0) (cmulim (floatOfInt .f64 (wrap64 (a0_1 - a0_2))) (floatOfInt .f64 a0_3) (floatOfInt .f64 a1) 0) (pk4 a2 4607182418800017408 0 13830554455654793216 0) (pk4 a2 0 4607182418800017408 0 13830554455654793216)), 0)) else (none)) else (none)) else (none)) else (none)) = some (r1, r2) := by rw [if_pos rfl] at H; exact H
              clear H
              have H := H1
              clear H1
              by_cases c16 : cmulok (floatOfInt .f64 (wrap64 (a0_1 - a0_2))) (floatOfInt .f64 a0_3) (floatOfInt .f64 a1) 0 = true
              · rw [if_pos c16] at H
                have c16b0 := eq_true c16
                have c16b1 : decide (cmulok (floatOfInt .f64 (wrap64 (a0_1 - a0_2))) (floatOfInt .f64 a0_3) (floatOfInt .f64 a1) 0 = true) = true := decide_eq_true c16
                clear c16
                by_cases c17 : 0 ≤ a2
                · rw [if_pos c17] at H
                  have c17b0 := eq_true c17
                  have c17b1 : decide (0 ≤ a2) = true := decide_eq_true c17
                  clear c17
                  by_cases c18 : a2 < 4
                  · rw [if_pos c18] at H
                    have c18b0 := eq_true c18
                    have c18b1 : decide (a2 < 4) = true := decide_eq_true c18
                    clear c18
                    by_cases c19 : cmulok (cmulre (floatOfInt .f64 (wrap64 (a0_1 - a0_2))) (floatOfInt .f64 a0_3) (floatOfInt .f64 a1) 0) (cmulim (floatOfInt .f64 (wrap64 (a0_1 - a0_2))) (floatOfInt .f64 a0_3) (floatOfInt .f64 a1) 0) (pk4 a2 4607182418800017408 0 13830554455654793216 0) (pk4 a2 0 4607182418800017408 0 13830554455654793216) = true
                    · rw [if_pos c19] at H
                      have c19b0 := eq_true c19
                      have c19b1 : decide (cmulok (cmulre (floatOfInt .f64 (wrap64 (a0_1 - a0_2))) (floatOfInt .f64 a0_3) (floatOfInt .f64 a1) 0) (cmulim (floatOfInt .f64 (wrap64 (a0_1 - a0_2))) (floatOfInt .f64 a0_3) (floatOfInt .f64 a1) 0) (pk4 a2 4607182418800017408 0 13830554455654793216 0) (pk4 a2 0 4607182418800017408 0 13830554455654793216) = true) = true := decide_eq_true c19
                      clear c19
                      simp only [Option.some.injEq, Prod.mk.injEq] at H
                      obtain ⟨rfl, rfl⟩ := H
                      have hcz20_0 : wc.cell? ⟨gb101, 0, none⟩ = some (.int .i64 a0_0) := (blk_cell BK101.out 0).trans rfl
                      have hcz20_1 : wc.cell? ⟨gb101, 1, none⟩ = some (.int .i64 a0_1) := (blk_cell BK101.out 1).trans rfl
                      have hcz20_2 : wc.cell? ⟨gb101, 2, none⟩ = some (.int .i64 a0_2) := (blk_cell BK101.out 2).trans rfl
                      have hcz20_3 : wc.cell? ⟨gb101, 3, none⟩ = some (.int .i64 a0_3) := (blk_cell BK101.out 3).trans rfl
                      have hcz20_4 : wc.cell? ⟨gb101, 4, none⟩ = some (.int .u8 a0_4) := (blk_cell BK101.out 4).trans rfl
                      have hfz20_0 := blk_frozen BK101.out 0
                      have hfz20_1 := blk_frozen BK101.out 1
                      have hfz20_2 := blk_frozen BK101.out 2
                      have hfz20_3 := blk_frozen BK101.out 3
                      have hfz20_4 := blk_frozen BK101.out 4
                      go_wp2_with (first | ((with_reducible refine gate_callee (f := 59) rfl ?_); refine goesL_ (some 20) rfl rfl Try.func59 (by kernel_rfl) rfl #[.int .i64 a0_1, .int .i64 0, .int .i64 10000000] rfl (by (try simp only [List.map_toArray, List.map_cons, List.map_nil]); first | done | rfl | (simp only [List.length_drop, List.length_take]; rfl)) ?_; (with_reducible refine (meter_within.calls a0_1 0 10000000 true _ A10.out).mono ?_); rintro e w' ⟨rfl, ⟨nd, rfl⟩⟩; refine ⟨_, rfl, ?_⟩) | ((with_reducible refine gate_callee (f := 59) rfl ?_); refine goesL_ (some 24) rfl rfl Try.func59 (by kernel_rfl) rfl #[.int .i64 a0_2, .int .i64 0, .int .i64 10000000] rfl (by (try simp only [List.map_toArray, List.map_cons, List.map_nil]); first | done | rfl | (simp only [List.length_drop, List.length_take]; rfl)) ?_; (with_reducible refine (meter_within.calls a0_2 0 10000000 true _ A12.out).mono ?_); rintro e w' ⟨rfl, ⟨nd, rfl⟩⟩; refine ⟨_, rfl, ?_⟩) | ((with_reducible refine gate_callee (f := 59) rfl ?_); refine goesL_ (some 28) rfl rfl Try.func59 (by kernel_rfl) rfl #[.int .i64 a0_3, .int .i64 (-10000000), .int .i64 10000000] rfl (by (try simp only [List.map_toArray, List.map_cons, List.map_nil]); first | done | rfl | (simp only [List.length_drop, List.length_take]; rfl)) ?_; (with_reducible refine (meter_within.calls a0_3 (-10000000) 10000000 true _ A14.out).mono ?_); rintro e w' ⟨rfl, ⟨nd, rfl⟩⟩; refine ⟨_, rfl, ?_⟩))
                      go_ret2
                      exact ⟨by first | rfl | (simp [errW_none, errW_some] <;> rfl) | (simp [*, errW_none, errW_some] <;> rfl), by repeat (first | (with_reducible first | exact HB.out | apply below_alloc | apply pw_below_drewN | apply below_drew1 | refine below_set ?_ GE101.out) | exact HB.out)⟩
                    · rw [if_neg c19] at H
                      exact absurd H (by simp)
                  · rw [if_neg c18] at H
                    exact absurd H (by simp)
                · rw [if_neg c17] at H
                  exact absurd H (by simp)
              · rw [if_neg c16] at H
                exact absurd H (by simp)
            · replace c15 := Bool.eq_false_iff.mpr c15
              subst c15
              have H1 : (some (cx 0 0, 5)) = some (r1, r2) := by rw [if_neg (show ¬ (false = true) by decide)] at H; exact H
              clear H
              have H := H1
              clear H1
              simp only [Option.some.injEq, Prod.mk.injEq] at H
              obtain ⟨rfl, rfl⟩ := H
              have hcz21_0 : wc.cell? ⟨gb101, 0, none⟩ = some (.int .i64 a0_0) := (blk_cell BK101.out 0).trans rfl
              have hcz21_1 : wc.cell? ⟨gb101, 1, none⟩ = some (.int .i64 a0_1) := (blk_cell BK101.out 1).trans rfl
              have hcz21_2 : wc.cell? ⟨gb101, 2, none⟩ = some (.int .i64 a0_2) := (blk_cell BK101.out 2).trans rfl
              have hcz21_3 : wc.cell? ⟨gb101, 3, none⟩ = some (.int .i64 a0_3) := (blk_cell BK101.out 3).trans rfl
              have hcz21_4 : wc.cell? ⟨gb101, 4, none⟩ = some (.int .u8 a0_4) := (blk_cell BK101.out 4).trans rfl
              have hfz21_0 := blk_frozen BK101.out 0
              have hfz21_1 := blk_frozen BK101.out 1
              have hfz21_2 := blk_frozen BK101.out 2
              have hfz21_3 := blk_frozen BK101.out 3
              have hfz21_4 := blk_frozen BK101.out 4
              go_wp2_with (first | ((with_reducible refine gate_callee (f := 59) rfl ?_); refine goesL_ (some 20) rfl rfl Try.func59 (by kernel_rfl) rfl #[.int .i64 a0_1, .int .i64 0, .int .i64 10000000] rfl (by (try simp only [List.map_toArray, List.map_cons, List.map_nil]); first | done | rfl | (simp only [List.length_drop, List.length_take]; rfl)) ?_; (with_reducible refine (meter_within.calls a0_1 0 10000000 true _ A10.out).mono ?_); rintro e w' ⟨rfl, ⟨nd, rfl⟩⟩; refine ⟨_, rfl, ?_⟩) | ((with_reducible refine gate_callee (f := 59) rfl ?_); refine goesL_ (some 24) rfl rfl Try.func59 (by kernel_rfl) rfl #[.int .i64 a0_2, .int .i64 0, .int .i64 10000000] rfl (by (try simp only [List.map_toArray, List.map_cons, List.map_nil]); first | done | rfl | (simp only [List.length_drop, List.length_take]; rfl)) ?_; (with_reducible refine (meter_within.calls a0_2 0 10000000 true _ A12.out).mono ?_); rintro e w' ⟨rfl, ⟨nd, rfl⟩⟩; refine ⟨_, rfl, ?_⟩) | ((with_reducible refine gate_callee (f := 59) rfl ?_); refine goesL_ (some 28) rfl rfl Try.func59 (by kernel_rfl) rfl #[.int .i64 a0_3, .int .i64 (-10000000), .int .i64 10000000] rfl (by (try simp only [List.map_toArray, List.map_cons, List.map_nil]); first | done | rfl | (simp only [List.length_drop, List.length_take]; rfl)) ?_; (with_reducible refine (meter_within.calls a0_3 (-10000000) 10000000 false _ A14.out).mono ?_); rintro e w' ⟨rfl, ⟨nd, rfl⟩⟩; refine ⟨_, rfl, ?_⟩))
              go_ret2
              exact ⟨by first | rfl | (simp [errW_none, errW_some] <;> rfl) | (simp [*, errW_none, errW_some] <;> rfl), by repeat (first | (with_reducible first | exact HB.out | apply below_alloc | apply pw_below_drewN | apply below_drew1 | refine below_set ?_ GE101.out) | exact HB.out)⟩
          · replace c13 := Bool.eq_false_iff.mpr c13
            subst c13
            have H1 : (some (cx 0 0, 5)) = some (r1, r2) := by rw [if_neg (show ¬ (false = true) by decide)] at H; exact H
            clear H
            have H := H1
            clear H1
            simp only [Option.some.injEq, Prod.mk.injEq] at H
            obtain ⟨rfl, rfl⟩ := H
            have hcz22_0 : wc.cell? ⟨gb101, 0, none⟩ = some (.int .i64 a0_0) := (blk_cell BK101.out 0).trans rfl
            have hcz22_1 : wc.cell? ⟨gb101, 1, none⟩ = some (.int .i64 a0_1) := (blk_cell BK101.out 1).trans rfl
            have hcz22_2 : wc.cell? ⟨gb101, 2, none⟩ = some (.int .i64 a0_2) := (blk_cell BK101.out 2).trans rfl
            have hcz22_3 : wc.cell? ⟨gb101, 3, none⟩ = some (.int .i64 a0_3) := (blk_cell BK101.out 3).trans rfl
            have hcz22_4 : wc.cell? ⟨gb101, 4, none⟩ = some (.int .u8 a0_4) := (blk_cell BK101.out 4).trans rfl
            have hfz22_0 := blk_frozen BK101.out 0
            have hfz22_1 := blk_frozen BK101.out 1
            have hfz22_2 := blk_frozen BK101.out 2
            have hfz22_3 := blk_frozen BK101.out 3
            have hfz22_4 := blk_frozen BK101.out 4
            go_wp2_with (first | ((with_reducible refine gate_callee (f := 59) rfl ?_); refine goesL_ (some 20) rfl rfl Try.func59 (by kernel_rfl) rfl #[.int .i64 a0_1, .int .i64 0, .int .i64 10000000] rfl (by (try simp only [List.map_toArray, List.map_cons, List.map_nil]); first | done | rfl | (simp only [List.length_drop, List.length_take]; rfl)) ?_; (with_reducible refine (meter_within.calls a0_1 0 10000000 true _ A10.out).mono ?_); rintro e w' ⟨rfl, ⟨nd, rfl⟩⟩; refine ⟨_, rfl, ?_⟩) | ((with_reducible refine gate_callee (f := 59) rfl ?_); refine goesL_ (some 24) rfl rfl Try.func59 (by kernel_rfl) rfl #[.int .i64 a0_2, .int .i64 0, .int .i64 10000000] rfl (by (try simp only [List.map_toArray, List.map_cons, List.map_nil]); first | done | rfl | (simp only [List.length_drop, List.length_take]; rfl)) ?_; (with_reducible refine (meter_within.calls a0_2 0 10000000 false _ A12.out).mono ?_); rintro e w' ⟨rfl, ⟨nd, rfl⟩⟩; refine ⟨_, rfl, ?_⟩))
            go_ret2
            exact ⟨by first | rfl | (simp [errW_none, errW_some] <;> rfl) | (simp [*, errW_none, errW_some] <;> rfl), by repeat (first | (with_reducible first | exact HB.out | apply below_alloc | apply pw_below_drewN | apply below_drew1 | refine below_set ?_ GE101.out) | exact HB.out)⟩
        · replace c11 := Bool.eq_false_iff.mpr c11
          subst c11
          have H1 : (some (cx 0 0, 5)) = some (r1, r2) := by rw [if_neg (show ¬ (false = true) by decide)] at H; exact H
          clear H
          have H := H1
          clear H1
          simp only [Option.some.injEq, Prod.mk.injEq] at H
          obtain ⟨rfl, rfl⟩ := H
          have hcz23_0 : wc.cell? ⟨gb101, 0, none⟩ = some (.int .i64 a0_0) := (blk_cell BK101.out 0).trans rfl
          have hcz23_1 : wc.cell? ⟨gb101, 1, none⟩ = some (.int .i64 a0_1) := (blk_cell BK101.out 1).trans rfl
          have hcz23_2 : wc.cell? ⟨gb101, 2, none⟩ = some (.int .i64 a0_2) := (blk_cell BK101.out 2).trans rfl
          have hcz23_3 : wc.cell? ⟨gb101, 3, none⟩ = some (.int .i64 a0_3) := (blk_cell BK101.out 3).trans rfl
          have hcz23_4 : wc.cell? ⟨gb101, 4, none⟩ = some (.int .u8 a0_4) := (blk_cell BK101.out 4).trans rfl
          have hfz23_0 := blk_frozen BK101.out 0
          have hfz23_1 := blk_frozen BK101.out 1
          have hfz23_2 := blk_frozen BK101.out 2
          have hfz23_3 := blk_frozen BK101.out 3
          have hfz23_4 := blk_frozen BK101.out 4
          go_wp2_with (first | ((with_reducible refine gate_callee (f := 59) rfl ?_); refine goesL_ (some 20) rfl rfl Try.func59 (by kernel_rfl) rfl #[.int .i64 a0_1, .int .i64 0, .int .i64 10000000] rfl (by (try simp only [List.map_toArray, List.map_cons, List.map_nil]); first | done | rfl | (simp only [List.length_drop, List.length_take]; rfl)) ?_; (with_reducible refine (meter_within.calls a0_1 0 10000000 false _ A10.out).mono ?_); rintro e w' ⟨rfl, ⟨nd, rfl⟩⟩; refine ⟨_, rfl, ?_⟩))
          go_ret2
          exact ⟨by first | rfl | (simp [errW_none, errW_some] <;> rfl) | (simp [*, errW_none, errW_some] <;> rfl), by repeat (first | (with_reducible first | exact HB.out | apply below_alloc | apply pw_below_drewN | apply below_drew1 | refine below_set ?_ GE101.out) | exact HB.out)⟩

/-! ### pylonlaw12_awake: function 20 -/
def pylonlaw12_awake.f (k : Nat)  : Option (Bool) := (meter_Point.f k 0 100 30 (-5) 0 2 1).bind fun bt106 => (if bt106.2 = 0 then (some (ceq bt106.1.re bt106.1.im 4621819117588971520 4639129828656676864)) else (some false))
theorem pylonlaw12_awake.mono : ∀ k, LeO (pylonlaw12_awake.f k ) (pylonlaw12_awake.f (k + 1) ) := by
  intro  k
  unfold pylonlaw12_awake.f
  repeat' first
      | (with_reducible exact meter_Point.mono _ _ _ _ _ _ _ _)
      | (with_reducible exact LeO.refl _)
      | (with_reducible exact LeO.none _)
      | (with_reducible refine LeO.ite ?_ ?_)
      | (with_reducible refine LeO.bind ?_ (fun _ => ?_))
      | exact meter_Point.mono _ _ _ _ _ _ _ _
      | exact LeO.none _
      | refine LeO.ite ?_ ?_
      | refine LeO.bind ?_ (fun _ => ?_)
set_option maxHeartbeats 8000000 in
set_option maxRecDepth 100000 in
theorem pylonlaw12_awake.calls (k : Nat)  (r : Bool) (w : World) (h : pylonlaw12_awake.f k  = some r) :
    Calls Try.prog 20 #[] w fun e w' => e = .returned (.bool r) ∧ Below w.heap.size w w' := by
  have hu25 := Try.underlying25
  have HB := Aside0.mk (Below.refl w.heap.size w)
  have H : ((meter_Point.f k 0 100 30 (-5) 0 2 1).bind fun bt106 => (if bt106.2 = 0 then (some (ceq bt106.1.re bt106.1.im 4621819117588971520 4639129828656676864)) else (some false))) = some r := h
  clear h
  replace H := Option.bind_eq_some_iff.mp H
  obtain ⟨⟨t106, t107⟩, A10, H⟩ := H
  replace H : (if t107 = 0 then (some (ceq t106.re t106.im 4621819117588971520 4639129828656676864)) else (some false)) = some r := H
  have A1 := Aside0.mk A10
  clear A10
  by_cases c2 : t107 = 0
  · rw [if_pos c2] at H
    have c2b0 : (t107 == 0) = true := beq_iff_eq.mpr c2
    have c2b1 : (t107 != 0) = false := bne_eq_false_iff_eq.mpr c2
    clear c2
    obtain rfl := Option.some.inj H
    go_enter Try.func20, Try.ntmps20
    go_wp2_with (first | ((with_reducible refine gate_callee (f := 23) rfl ?_); refine goesL_ (some 5) rfl rfl Try.func23 (by kernel_rfl) rfl #[.agg #[.int .i64 0, .int .i64 100, .int .i64 30, .int .i64 (-5), .int .u8 0], .int .i64 2, .int .i64 1] rfl (by (try simp only [List.map_toArray, List.map_cons, List.map_nil]); first | done | rfl | (simp only [List.length_drop, List.length_take]; rfl)) ?_; (with_reducible refine (meter_Point.calls k 0 100 30 (-5) 0 2 1 t106 t107 _ A1.out).mono ?_); rintro e w3 ⟨rfl, hb⟩; refine ⟨_, rfl, ?_⟩; have n0_ := Aside0.mk (below_step (by repeat (first | (with_reducible first | exact HB.out | apply below_alloc | apply pw_below_drewN | apply below_drew1) | exact HB.out)) hb); clear HB; have HB := n0_; clear n0_; (try clear hb); (try clear hb2); (try clear hk); (try clear hi)))
    go_ret
    exact ⟨by first | rfl | (simp [errW_none, errW_some] <;> rfl) | (simp [*, errW_none, errW_some] <;> rfl), by repeat (first | (with_reducible first | exact HB.out | apply below_alloc | apply pw_below_drewN | apply below_drew1) | exact HB.out)⟩
  · rw [if_neg c2] at H
    have c2b0 : (t107 == 0) = false := beq_eq_false_iff_ne.mpr c2
    have c2b1 : (t107 != 0) = true := bne_iff_ne.mpr c2
    obtain rfl := Option.some.inj H
    go_enter Try.func20, Try.ntmps20
    go_wp2_with (first | ((with_reducible refine gate_callee (f := 23) rfl ?_); refine goesL_ (some 5) rfl rfl Try.func23 (by kernel_rfl) rfl #[.agg #[.int .i64 0, .int .i64 100, .int .i64 30, .int .i64 (-5), .int .u8 0], .int .i64 2, .int .i64 1] rfl (by (try simp only [List.map_toArray, List.map_cons, List.map_nil]); first | done | rfl | (simp only [List.length_drop, List.length_take]; rfl)) ?_; (with_reducible refine (meter_Point.calls k 0 100 30 (-5) 0 2 1 t106 t107 _ A1.out).mono ?_); rintro e w4 ⟨rfl, hb⟩; refine ⟨_, rfl, ?_⟩; have n0_ := Aside0.mk (below_step (by repeat (first | (with_reducible first | exact HB.out | apply below_alloc | apply pw_below_drewN | apply below_drew1) | exact HB.out)) hb); clear HB; have HB := n0_; clear n0_; (try clear hb); (try clear hb2); (try clear hk); (try clear hi)))
    go_ret
    exact ⟨by first | rfl | (simp [errW_none, errW_some] <;> rfl) | (simp [*, errW_none, errW_some] <;> rfl), by repeat (first | (with_reducible first | exact HB.out | apply below_alloc | apply pw_below_drewN | apply below_drew1) | exact HB.out)⟩

/-! ### pylonlaw12_read: function 28 -/
def pylonlaw12_read.f (a0 : Int) (a1 : Int) (a2 : Int) : Option (Int × Int × Int × Int × Int) := some (0, wrap64 (Int.tmod (IntKind.u64.wrap (a0)) 10000001), wrap64 (Int.tmod (IntKind.u64.wrap (a1)) 10000001), Int.tmod a2 10000001, 0)
set_option maxHeartbeats 8000000 in
set_option maxRecDepth 100000 in
theorem pylonlaw12_read.calls (a0 : Int) (a1 : Int) (a2 : Int) (r1 : Int) (r2 : Int) (r3 : Int) (r4 : Int) (r5 : Int) (w : World) (h : pylonlaw12_read.f a0 a1 a2 = some (r1, r2, r3, r4, r5)) :
    Calls Try.prog 28 #[.int .i64 a0, .int .i64 a1, .int .i64 a2] w fun e w' => e = .returned (.agg #[.int .i64 r1, .int .i64 r2, .int .i64 r3, .int .i64 r4, .int .u8 r5]) ∧ Below w.heap.size w w' := by
  have hu25 := Try.underlying25
  have HB := Aside0.mk (Below.refl w.heap.size w)
  have H : (some (0, wrap64 (Int.tmod (IntKind.u64.wrap (a0)) 10000001), wrap64 (Int.tmod (IntKind.u64.wrap (a1)) 10000001), Int.tmod a2 10000001, 0)) = some (r1, r2, r3, r4, r5) := h
  clear h
  simp only [Option.some.injEq, Prod.mk.injEq] at H
  obtain ⟨rfl, rfl, rfl, rfl, rfl⟩ := H
  go_enter Try.func28, Try.ntmps28
  go_wp2_with (first | ((with_reducible refine gate_dst (N := 6) rfl ?_); refine box_event ?hg (N := 6) ?hd (cs := #[.int .i64 0, .int .i64 0, .int .i64 0, .int .i64 0, .int .u8 0]) (t := 25) ?hr ?_; (case hd => rfl); (case hg => rfl); (case hr => first | (go_simp; done) | (go_simp; rfl)); intro gb108 hg w4 hbox hb; have n0_ := Aside0.mk (below_step (by repeat (first | (with_reducible first | exact HB.out | apply below_alloc | apply pw_below_drewN | apply below_drew1) | exact HB.out)) hb); have n1_ := Aside0.mk (hbox); have n2_ := Aside0.mk ((by rw [hg]; exact (below_size (by repeat (first | (with_reducible first | exact HB.out | apply below_alloc | apply pw_below_drewN | apply below_drew1) | exact HB.out))) : w.heap.size ≤ gb108)); have n3_ := Aside0.mk ((by rw [hg]; exact (below_size (by repeat (first | (with_reducible first | exact HB.out | apply below_alloc | apply pw_below_drewN | apply below_drew1) | exact HB.out))) : w.heap.size ≤ gb108)); clear HB; have HB := n0_; have BK108 := n1_; have GW108 := n2_; have GE108 := n3_; clear n0_ n1_ n2_ n3_; clear hb hbox hg; have hcz5_0 : w4.cell? ⟨gb108, 0, none⟩ = some (.int .i64 0) := (blk_cell BK108.out 0).trans rfl; have hcz5_1 : w4.cell? ⟨gb108, 1, none⟩ = some (.int .i64 0) := (blk_cell BK108.out 1).trans rfl; have hcz5_2 : w4.cell? ⟨gb108, 2, none⟩ = some (.int .i64 0) := (blk_cell BK108.out 2).trans rfl; have hcz5_3 : w4.cell? ⟨gb108, 3, none⟩ = some (.int .i64 0) := (blk_cell BK108.out 3).trans rfl; have hcz5_4 : w4.cell? ⟨gb108, 4, none⟩ = some (.int .u8 0) := (blk_cell BK108.out 4).trans rfl; have hfz5_0 := blk_frozen BK108.out 0; have hfz5_1 := blk_frozen BK108.out 1; have hfz5_2 := blk_frozen BK108.out 2; have hfz5_3 := blk_frozen BK108.out 3; have hfz5_4 := blk_frozen BK108.out 4))
  refine bodyPost_ret (results_cell_row rfl _ _ gb108 25 #[.int .i64 0, .int .i64 (wrap64 (Int.tmod (IntKind.u64.wrap (a0)) 10000001)), .int .i64 (wrap64 (Int.tmod (IntKind.u64.wrap (a1)) 10000001)), .int .i64 (Int.tmod a2 10000001), .int .u8 0] (0, 0) _ rfl (by (with_reducible repeat (first | refine blk_drewN ?_ _ | refine blk_drew ?_ | refine blk_alloc ?_ _)); refine blk_put (cs := #[.int .i64 0, .int .i64 (wrap64 (Int.tmod (IntKind.u64.wrap (a0)) 10000001)), .int .i64 (wrap64 (Int.tmod (IntKind.u64.wrap (a1)) 10000001)), .int .i64 (Int.tmod a2 10000001), .int .u8 0]) ?_ 4 _ rfl; (with_reducible repeat (first | refine blk_drewN ?_ _ | refine blk_drew ?_ | refine blk_alloc ?_ _)); refine blk_put (cs := #[.int .i64 0, .int .i64 (wrap64 (Int.tmod (IntKind.u64.wrap (a0)) 10000001)), .int .i64 (wrap64 (Int.tmod (IntKind.u64.wrap (a1)) 10000001)), .int .i64 0, .int .u8 0]) ?_ 3 _ rfl; (with_reducible repeat (first | refine blk_drewN ?_ _ | refine blk_drew ?_ | refine blk_alloc ?_ _)); refine blk_put (cs := #[.int .i64 0, .int .i64 (wrap64 (Int.tmod (IntKind.u64.wrap (a0)) 10000001)), .int .i64 0, .int .i64 0, .int .u8 0]) ?_ 2 _ rfl; (with_reducible repeat (first | refine blk_drewN ?_ _ | refine blk_drew ?_ | refine blk_alloc ?_ _)); refine blk_put (cs := #[.int .i64 0, .int .i64 0, .int .i64 0, .int .i64 0, .int .u8 0]) ?_ 1 _ rfl; (with_reducible repeat (first | refine blk_drewN ?_ _ | refine blk_drew ?_ | refine blk_alloc ?_ _)); refine blk_put (cs := #[.int .i64 0, .int .i64 0, .int .i64 0, .int .i64 0, .int .u8 0]) ?_ 0 _ rfl; (with_reducible repeat (first | refine blk_drewN ?_ _ | refine blk_drew ?_ | refine blk_alloc ?_ _)); exact BK108.out) Try.underlying25 rfl (by kernel_rfl)) rfl ?_
  exact ⟨by first | rfl | (simp [errW_none, errW_some] <;> rfl) | (simp [*, errW_none, errW_some] <;> rfl), by repeat (first | (with_reducible first | exact HB.out | apply below_alloc | apply pw_below_drewN | apply below_drew1 | refine below_set ?_ GE108.out) | exact HB.out)⟩

-- NOT PRINTED: function 83 (math_archTrunc)

-- NOT PRINTED: function 96 (math_Float64frombits)

-- NOT PRINTED: function 97 (math_Float64bits)

/-! ### math_Abs: function 82 -/
def math_Abs.f (a0 : Nat) : Option (Nat) := some (u2f (Go.bits .andNot .u64 (f2u a0) 9223372036854775808))
set_option maxHeartbeats 8000000 in
set_option maxRecDepth 100000 in
theorem math_Abs.calls (a0 : Nat) (r : Nat) (w : World) (h : math_Abs.f a0 = some r) :
    Calls Try.prog 82 #[.float .f64 a0] w fun e w' => e = .returned (.float .f64 r) ∧ Drawn0 w w' := by
  have hx96 := @ext96
  have hx97 := @ext97
  have H : (some (u2f (Go.bits .andNot .u64 (f2u a0) 9223372036854775808))) = some r := h
  clear h
  obtain rfl := Option.some.inj H
  go_enter Try.func82, Try.ntmps82
  go_wp2
  go_ret
  exact ⟨by first | rfl | (simp; done) | (simp [*]; done), by repeat (first | exact Drawn0.refl _ | apply Drawn0.step)⟩

/-! ### math_Copysign: function 98 -/
def math_Copysign.f (a0 : Nat) (a1 : Nat) : Option (Nat) := some (u2f (Go.bits .or .u64 (Go.bits .andNot .u64 (f2u a0) 9223372036854775808) (Go.bits .and .u64 (f2u a1) 9223372036854775808)))
set_option maxHeartbeats 8000000 in
set_option maxRecDepth 100000 in
theorem math_Copysign.calls (a0 : Nat) (a1 : Nat) (r : Nat) (w : World) (h : math_Copysign.f a0 a1 = some r) :
    Calls Try.prog 98 #[.float .f64 a0, .float .f64 a1] w fun e w' => e = .returned (.float .f64 r) ∧ Drawn0 w w' := by
  have hx96 := @ext96
  have hx97 := @ext97
  have H : (some (u2f (Go.bits .or .u64 (Go.bits .andNot .u64 (f2u a0) 9223372036854775808) (Go.bits .and .u64 (f2u a1) 9223372036854775808)))) = some r := h
  clear h
  obtain rfl := Option.some.inj H
  go_enter Try.func98, Try.ntmps98
  go_wp2
  go_ret
  exact ⟨by first | rfl | (simp; done) | (simp [*]; done), by repeat (first | exact Drawn0.refl _ | apply Drawn0.step)⟩

/-! ### math_trunc: function 84 -/
def math_trunc.f (a0 : Nat) : Option (Nat) := (math_Abs.f a0).bind fun t109 => (if flt t109 4607182418800017408 = true then ((math_Copysign.f 0 a0).bind fun t110 => (some t110)) else (if (IntKind.u64.wrap ((Go.bits .and .u64 ((f2u a0) / 4503599627370496) 2047) - 1023)) < 52 then (if 0 ≤ (IntKind.u64.wrap (52 - (IntKind.u64.wrap ((Go.bits .and .u64 ((f2u a0) / 4503599627370496) 2047) - 1023)))) then (some (u2f (Go.bits .andNot .u64 (f2u a0) (IntKind.u64.wrap ((shl .u64 1 (IntKind.u64.wrap (52 - (IntKind.u64.wrap ((Go.bits .and .u64 ((f2u a0) / 4503599627370496) 2047) - 1023))))) - 1))))) else (none)) else (some (u2f (f2u a0)))))
set_option maxHeartbeats 8000000 in
set_option maxRecDepth 100000 in
theorem math_trunc.calls (a0 : Nat) (r : Nat) (w : World) (h : math_trunc.f a0 = some r) :
    Calls Try.prog 84 #[.float .f64 a0] w fun e w' => e = .returned (.float .f64 r) ∧ Drawn0 w w' := by
  have hx96 := @ext96
  have hx97 := @ext97
  have H : ((math_Abs.f a0).bind fun t109 => (if flt t109 4607182418800017408 = true then ((math_Copysign.f 0 a0).bind fun t110 => (some t110)) else (if (IntKind.u64.wrap ((Go.bits .and .u64 ((f2u a0) / 4503599627370496) 2047) - 1023)) < 52 then (if 0 ≤ (IntKind.u64.wrap (52 - (IntKind.u64.wrap ((Go.bits .and .u64 ((f2u a0) / 4503599627370496) 2047) - 1023)))) then (some (u2f (Go.bits .andNot .u64 (f2u a0) (IntKind.u64.wrap ((shl .u64 1 (IntKind.u64.wrap (52 - (IntKind.u64.wrap ((Go.bits .and .u64 ((f2u a0) / 4503599627370496) 2047) - 1023))))) - 1))))) else (none)) else (some (u2f (f2u a0)))))) = some r := h
  clear h
  replace H := Option.bind_eq_some_iff.mp H
  obtain ⟨t109, A20, H⟩ := H
  replace H : (if flt t109 4607182418800017408 = true then ((math_Copysign.f 0 a0).bind fun t110 => (some t110)) else (if (IntKind.u64.wrap ((Go.bits .and .u64 ((f2u a0) / 4503599627370496) 2047) - 1023)) < 52 then (if 0 ≤ (IntKind.u64.wrap (52 - (IntKind.u64.wrap ((Go.bits .and .u64 ((f2u a0) / 4503599627370496) 2047) - 1023)))) then (some (u2f (Go.bits .andNot .u64 (f2u a0) (IntKind.u64.wrap ((shl .u64 1 (IntKind.u64.wrap (52 - (IntKind.u64.wrap ((Go.bits .and .u64 ((f2u a0) / 4503599627370496) 2047) - 1023))))) - 1))))) else (none)) else (some (u2f (f2u a0))))) = some r := H
  have A2 := Aside0.mk A20
  clear A20
  by_cases c3 : flt t109 4607182418800017408 = true
  · rw [if_pos c3] at H
    have c3b0 : flt t109 4607182418800017408 = true := c3
    clear c3
    replace H := Option.bind_eq_some_iff.mp H
    obtain ⟨t110, A40, H⟩ := H
    replace H : (some t110) = some r := H
    have A4 := Aside0.mk A40
    clear A40
    obtain rfl := Option.some.inj H
    go_enter Try.func84, Try.ntmps84
    go_wp2_with (first | ((with_reducible refine gate_callee (f := 82) rfl ?_); refine goesL_ (some 6) rfl rfl Try.func82 (by kernel_rfl) rfl #[.float .f64 a0] rfl (by (try simp only [List.map_toArray, List.map_cons, List.map_nil]); first | done | rfl | (simp only [List.length_drop, List.length_take]; rfl)) ?_; (with_reducible refine (math_Abs.calls a0 t109 _ A2.out).mono ?_); rintro e w' ⟨rfl, ⟨nd, rfl⟩⟩; refine ⟨_, rfl, ?_⟩) | ((with_reducible refine gate_callee (f := 98) rfl ?_); refine goesL_ (some 9) rfl rfl Try.func98 (by kernel_rfl) rfl #[.float .f64 0, .float .f64 a0] rfl (by (try simp only [List.map_toArray, List.map_cons, List.map_nil]); first | done | rfl | (simp only [List.length_drop, List.length_take]; rfl)) ?_; (with_reducible refine (math_Copysign.calls 0 a0 t110 _ A4.out).mono ?_); rintro e w' ⟨rfl, ⟨nd, rfl⟩⟩; refine ⟨_, rfl, ?_⟩))
    go_ret
    exact ⟨by first | rfl | (simp; done) | (simp [*]; done), by repeat (first | exact Drawn0.refl _ | apply Drawn0.step)⟩
  · rw [if_neg c3] at H
    have c3b0 : flt t109 4607182418800017408 = false := Bool.eq_false_iff.mpr c3
    clear c3
    by_cases c5 : (IntKind.u64.wrap ((Go.bits .and .u64 ((f2u a0) / 4503599627370496) 2047) - 1023)) < 52
    · rw [if_pos c5] at H
      have c5b0 : decide ((IntKind.u64.wrap ((Go.bits .and .u64 ((f2u a0) / 4503599627370496) 2047) - 1023)) < 52) = true := decide_eq_true c5
      clear c5
      obtain ⟨ji6, hji6⟩ : ∃ j_ : Int, (IntKind.u64.wrap (52 - (IntKind.u64.wrap ((Go.bits .and .u64 ((f2u a0) / 4503599627370496) 2047) - 1023)))) = j_ := ⟨_, rfl⟩
      replace H : (if 0 ≤ (ji6) then (some (u2f (Go.bits .andNot .u64 (f2u a0) (IntKind.u64.wrap ((shl .u64 1 (ji6)) - 1))))) else (none)) = some r := by first | (rw [hji6] at H; exact H) | (simp only [hji6] at H ⊢; exact H)
      (try rw [hji6] at A2)
      by_cases c7 : 0 ≤ (ji6)
      · rw [if_pos c7] at H
        have c7b0 := eq_true c7
        have c7b1 : decide (0 ≤ (ji6)) = true := decide_eq_true c7
        clear c7
        obtain ⟨ji8, hji8⟩ : ∃ j_ : Int, (shl .u64 1 (ji6)) = j_ := ⟨_, rfl⟩
        replace H : (some (u2f (Go.bits .andNot .u64 (f2u a0) (IntKind.u64.wrap ((ji8) - 1))))) = some r := by first | (rw [hji8] at H; exact H) | (simp only [hji8] at H ⊢; exact H)
        (try rw [hji8] at A2)
        have hji8_ : (IntKind.u64.wrap (1 * 2 ^ min (ji6).toNat 64)) = ji8 := hji8
        have hji8z : (ji6) ≤ 64 → (IntKind.u64.wrap (1 * 2 ^ (ji6).toNat)) = ji8 := shl_small hji8
        have hji8u : (IntKind.u64.wrap (2 ^ min (ji6).toNat 64)) = ji8 := by have h_ := hji8_; rw [Int.one_mul] at h_; exact h_
        have hji8v : (ji6) ≤ 64 → (IntKind.u64.wrap (2 ^ (ji6).toNat)) = ji8 := fun hle_ => by have h_ := hji8z hle_; rw [Int.one_mul] at h_; exact h_
        obtain rfl := Option.some.inj H
        go_enter Try.func84, Try.ntmps84
        go_wp2_with (first | ((with_reducible refine gate_callee (f := 82) rfl ?_); refine goesL_ (some 6) rfl rfl Try.func82 (by kernel_rfl) rfl #[.float .f64 a0] rfl (by (try simp only [List.map_toArray, List.map_cons, List.map_nil]); first | done | rfl | (simp only [List.length_drop, List.length_take]; rfl)) ?_; (with_reducible refine (math_Abs.calls a0 t109 _ A2.out).mono ?_); rintro e w' ⟨rfl, ⟨nd, rfl⟩⟩; refine ⟨_, rfl, ?_⟩))
        go_ret
        exact ⟨by first | rfl | (simp; done) | (simp only [← hji6, ← hji8] <;> (first | rfl | simp)) | (simp [*]; done), by repeat (first | exact Drawn0.refl _ | apply Drawn0.step)⟩
      · rw [if_neg c7] at H
        exact absurd H (by simp)
    · rw [if_neg c5] at H
      have c5b0 : decide ((IntKind.u64.wrap ((Go.bits .and .u64 ((f2u a0) / 4503599627370496) 2047) - 1023)) < 52) = false := decide_eq_false c5
      clear c5
      obtain rfl := Option.some.inj H
      go_enter Try.func84, Try.ntmps84
      go_wp2_with (first | ((with_reducible refine gate_callee (f := 82) rfl ?_); refine goesL_ (some 6) rfl rfl Try.func82 (by kernel_rfl) rfl #[.float .f64 a0] rfl (by (try simp only [List.map_toArray, List.map_cons, List.map_nil]); first | done | rfl | (simp only [List.length_drop, List.length_take]; rfl)) ?_; (with_reducible refine (math_Abs.calls a0 t109 _ A2.out).mono ?_); rintro e w' ⟨rfl, ⟨nd, rfl⟩⟩; refine ⟨_, rfl, ?_⟩))
      go_ret
      exact ⟨by first | rfl | (simp; done) | (simp [*]; done), by repeat (first | exact Drawn0.refl _ | apply Drawn0.step)⟩

/-! ### math_Trunc: function 66 -/
def math_Trunc.f (a0 : Nat) : Option (Nat) := if ftruncok a0 = true then (some (ftrunc a0)) else (none)
set_option maxHeartbeats 8000000 in
set_option maxRecDepth 100000 in
theorem math_Trunc.calls (a0 : Nat) (r : Nat) (w : World) (h : math_Trunc.f a0 = some r) :
    Calls Try.prog 66 #[.float .f64 a0] w fun e w' => e = .returned (.float .f64 r) ∧ Drawn0 w w' := by
  have hx83 := @ext83
  have H : (if ftruncok a0 = true then (some (ftrunc a0)) else (none)) = some r := h
  clear h
  by_cases c2 : ftruncok a0 = true
  · rw [if_pos c2] at H
    have c2b0 := eq_true c2
    have c2b1 : decide (ftruncok a0 = true) = true := decide_eq_true c2
    clear c2
    obtain rfl := Option.some.inj H
    go_enter Try.func66, Try.ntmps66
    go_wp2
    go_ret
    exact ⟨by first | rfl | (simp; done) | (simp [*]; done), by repeat (first | exact Drawn0.refl _ | apply Drawn0.step)⟩
  · rw [if_neg c2] at H
    exact absurd H (by simp)

/-! ### meter_whole: function 62 -/
def meter_whole.f (a0 : Nat) : Option (Bool) := (math_Abs.f a0).bind fun t111 => (if fle t111 4756540486875873280 = true then ((math_Trunc.f a0).bind fun t112 => (some (feq t112 a0))) else (some false))
set_option maxHeartbeats 8000000 in
set_option maxRecDepth 100000 in
theorem meter_whole.calls (a0 : Nat) (r : Bool) (w : World) (h : meter_whole.f a0 = some r) :
    Calls Try.prog 62 #[.float .f64 a0] w fun e w' => e = .returned (.bool r) ∧ Drawn0 w w' := by
  have H : ((math_Abs.f a0).bind fun t111 => (if fle t111 4756540486875873280 = true then ((math_Trunc.f a0).bind fun t112 => (some (feq t112 a0))) else (some false))) = some r := h
  clear h
  replace H := Option.bind_eq_some_iff.mp H
  obtain ⟨t111, A20, H⟩ := H
  replace H : (if fle t111 4756540486875873280 = true then ((math_Trunc.f a0).bind fun t112 => (some (feq t112 a0))) else (some false)) = some r := H
  have A2 := Aside0.mk A20
  clear A20
  by_cases c3 : fle t111 4756540486875873280 = true
  · rw [if_pos c3] at H
    have c3b0 : fle t111 4756540486875873280 = true := c3
    clear c3
    replace H := Option.bind_eq_some_iff.mp H
    obtain ⟨t112, A40, H⟩ := H
    replace H : (some (feq t112 a0)) = some r := H
    have A4 := Aside0.mk A40
    clear A40
    obtain rfl := Option.some.inj H
    go_enter Try.func62, Try.ntmps62
    go_wp2_with (first | ((with_reducible refine gate_callee (f := 82) rfl ?_); refine goesL_ (some 4) rfl rfl Try.func82 (by kernel_rfl) rfl #[.float .f64 a0] rfl (by (try simp only [List.map_toArray, List.map_cons, List.map_nil]); first | done | rfl | (simp only [List.length_drop, List.length_take]; rfl)) ?_; (with_reducible refine (math_Abs.calls a0 t111 _ A2.out).mono ?_); rintro e w' ⟨rfl, ⟨nd, rfl⟩⟩; refine ⟨_, rfl, ?_⟩) | (go_at_call 66; (with_reducible refine (math_Trunc.calls a0 t112 _ A4.out).mono ?_); rintro e w' ⟨rfl, ⟨nd, rfl⟩⟩))
    go_ret
    exact ⟨by first | rfl | (simp; done) | (simp [*]; done), by repeat (first | exact Drawn0.refl _ | apply Drawn0.step)⟩
  · rw [if_neg c3] at H
    have c3b0 : fle t111 4756540486875873280 = false := Bool.eq_false_iff.mpr c3
    clear c3
    obtain rfl := Option.some.inj H
    go_enter Try.func62, Try.ntmps62
    go_wp2_with (first | ((with_reducible refine gate_callee (f := 82) rfl ?_); refine goesL_ (some 4) rfl rfl Try.func82 (by kernel_rfl) rfl #[.float .f64 a0] rfl (by (try simp only [List.map_toArray, List.map_cons, List.map_nil]); first | done | rfl | (simp only [List.length_drop, List.length_take]; rfl)) ?_; (with_reducible refine (math_Abs.calls a0 t111 _ A2.out).mono ?_); rintro e w' ⟨rfl, ⟨nd, rfl⟩⟩; refine ⟨_, rfl, ?_⟩))
    go_ret
    exact ⟨by first | rfl | (simp; done) | (simp [*]; done), by repeat (first | exact Drawn0.refl _ | apply Drawn0.step)⟩

/-! ### meter_Fits: function 29 -/
def meter_Fits.f (a0 : Cx) : Option (Bool) := (meter_whole.f a0.re).bind fun t113 => (if t113 = true then ((meter_whole.f a0.im).bind fun t114 => (some t114)) else (some false))
set_option maxHeartbeats 8000000 in
set_option maxRecDepth 100000 in
theorem meter_Fits.calls (a0 : Cx) (r : Bool) (w : World) (h : meter_Fits.f a0 = some r) :
    Calls Try.prog 29 #[.complex .f64 a0.re a0.im] w fun e w' => e = .returned (.bool r) ∧ Below w.heap.size w w' := by
  have HB := Aside0.mk (Below.refl w.heap.size w)
  have H : ((meter_whole.f a0.re).bind fun t113 => (if t113 = true then ((meter_whole.f a0.im).bind fun t114 => (some t114)) else (some false))) = some r := h
  clear h
  replace H := Option.bind_eq_some_iff.mp H
  obtain ⟨t113, A20, H⟩ := H
  replace H : (if t113 = true then ((meter_whole.f a0.im).bind fun t114 => (some t114)) else (some false)) = some r := H
  have A2 := Aside0.mk A20
  clear A20
  by_cases c3 : t113 = true
  · subst c3
    have H1 : ((meter_whole.f a0.im).bind fun t114 => (some t114)) = some r := by rw [if_pos rfl] at H; exact H
    clear H
    have H := H1
    clear H1
    replace H := Option.bind_eq_some_iff.mp H
    obtain ⟨t114, A40, H⟩ := H
    replace H : (some t114) = some r := H
    have A4 := Aside0.mk A40
    clear A40
    obtain rfl := Option.some.inj H
    go_enter Try.func29, Try.ntmps29
    go_wp2_with (first | ((with_reducible refine gate_callee (f := 62) rfl ?_); refine goesL_ (some 5) rfl rfl Try.func62 (by kernel_rfl) rfl #[.float .f64 a0.re] rfl (by (try simp only [List.map_toArray, List.map_cons, List.map_nil]); first | done | rfl | (simp only [List.length_drop, List.length_take]; rfl)) ?_; (with_reducible refine (meter_whole.calls a0.re true _ A2.out).mono ?_); rintro e w' ⟨rfl, ⟨nd, rfl⟩⟩; refine ⟨_, rfl, ?_⟩) | (go_at_call 62; (with_reducible refine (meter_whole.calls a0.im t114 _ A4.out).mono ?_); rintro e w' ⟨rfl, ⟨nd, rfl⟩⟩))
    go_ret
    exact ⟨by first | rfl | (simp [errW_none, errW_some] <;> rfl) | (simp [*, errW_none, errW_some] <;> rfl), by repeat (first | (with_reducible first | exact HB.out | apply below_alloc | apply pw_below_drewN | apply below_drew1) | exact HB.out)⟩
  · replace c3 := Bool.eq_false_iff.mpr c3
    subst c3
    have H1 : (some false) = some r := by rw [if_neg (show ¬ (false = true) by decide)] at H; exact H
    clear H
    have H := H1
    clear H1
    obtain rfl := Option.some.inj H
    go_enter Try.func29, Try.ntmps29
    go_wp2_with (first | ((with_reducible refine gate_callee (f := 62) rfl ?_); refine goesL_ (some 5) rfl rfl Try.func62 (by kernel_rfl) rfl #[.float .f64 a0.re] rfl (by (try simp only [List.map_toArray, List.map_cons, List.map_nil]); first | done | rfl | (simp only [List.length_drop, List.length_take]; rfl)) ?_; (with_reducible refine (meter_whole.calls a0.re false _ A2.out).mono ?_); rintro e w' ⟨rfl, ⟨nd, rfl⟩⟩; refine ⟨_, rfl, ?_⟩))
    go_ret
    exact ⟨by first | rfl | (simp [errW_none, errW_some] <;> rfl) | (simp [*, errW_none, errW_some] <;> rfl), by repeat (first | (with_reducible first | exact HB.out | apply below_alloc | apply pw_below_drewN | apply below_drew1) | exact HB.out)⟩

/-! ### pylonlaw12_MeterTurns: function 5 -/
def pylonlaw12_MeterTurns.f (k : Nat) (a0 : Int) (a1 : Int) (a2 : Int) (a3 : Int) (a4 : Int) : Option (Bool) := (pylonlaw12_awake.f k).bind fun t115 => (if t115 = true then ((pylonlaw12_read.f a0 a1 a2).bind fun bt116 => ((meter_Point.f k bt116.1 bt116.2.1 bt116.2.2.1 bt116.2.2.2.1 bt116.2.2.2.2 1 (wrap64 (Int.tmod (IntKind.u64.wrap (a4)) 4))).bind fun bt122 => ((meter_Point.f k bt116.1 bt116.2.1 bt116.2.2.1 bt116.2.2.2.1 bt116.2.2.2.2 (wrap64 (1 + (wrap64 (Int.tmod (IntKind.u64.wrap (a3)) 1000)))) (wrap64 (Int.tmod (IntKind.u64.wrap (a4)) 4))).bind fun bt124 => ((meter_Point.f k bt116.1 bt116.2.1 bt116.2.2.1 bt116.2.2.2.1 bt116.2.2.2.2 (wrap64 (1 + (wrap64 (Int.tmod (IntKind.u64.wrap (a3)) 1000)))) (Int.tmod (wrap64 ((wrap64 (Int.tmod (IntKind.u64.wrap (a4)) 4)) + 1)) 4)).bind fun bt126 => (if bt122.2 = 0 then (if bt124.2 = 0 then (if bt126.2 = 0 then ((meter_Fits.f bt124.1).bind fun t128 => (if t128 = true then (if ceq bt126.1.re bt126.1.im (fneg bt124.1.im) bt124.1.re = true then (if fmulok (floatOfInt .f64 (wrap64 (1 + (wrap64 (Int.tmod (IntKind.u64.wrap (a3)) 1000))))) bt122.1.re = true then (if fmulok (floatOfInt .f64 (wrap64 (1 + (wrap64 (Int.tmod (IntKind.u64.wrap (a3)) 1000))))) bt122.1.im = true then (some (ceq bt124.1.re bt124.1.im (fmul (floatOfInt .f64 (wrap64 (1 + (wrap64 (Int.tmod (IntKind.u64.wrap (a3)) 1000))))) bt122.1.re) (fmul (floatOfInt .f64 (wrap64 (1 + (wrap64 (Int.tmod (IntKind.u64.wrap (a3)) 1000))))) bt122.1.im))) else (none)) else (none)) else (some false)) else (some false))) else (some false)) else (some false)) else (some false)))))) else (some false))
theorem pylonlaw12_MeterTurns.mono : ∀ a0 a1 a2 a3 a4 k, LeO (pylonlaw12_MeterTurns.f k a0 a1 a2 a3 a4) (pylonlaw12_MeterTurns.f (k + 1) a0 a1 a2 a3 a4) := by
  intro a0 a1 a2 a3 a4 k
  unfold pylonlaw12_MeterTurns.f
  repeat' first
      | (with_reducible exact meter_Point.mono _ _ _ _ _ _ _ _)
      | (with_reducible exact pylonlaw12_awake.mono _)
      | (with_reducible exact LeO.refl _)
      | (with_reducible exact LeO.none _)
      | (with_reducible refine LeO.ite ?_ ?_)
      | (with_reducible refine LeO.bind ?_ (fun _ => ?_))
      | exact meter_Point.mono _ _ _ _ _ _ _ _
      | exact pylonlaw12_awake.mono _
      | exact LeO.none _
      | refine LeO.ite ?_ ?_
      | refine LeO.bind ?_ (fun _ => ?_)
set_option maxHeartbeats 8000000 in
set_option maxRecDepth 100000 in
theorem pylonlaw12_MeterTurns.calls (k : Nat) (a0 : Int) (a1 : Int) (a2 : Int) (a3 : Int) (a4 : Int) (r : Bool) (w : World) (h : pylonlaw12_MeterTurns.f k a0 a1 a2 a3 a4 = some r) :
    Calls Try.prog 5 #[.int .i64 a0, .int .i64 a1, .int .i64 a2, .int .i64 a3, .int .i64 a4] w fun e w' => e = .returned (.bool r) ∧ Below w.heap.size w w' := by
  have hu25 := Try.underlying25
  have HB := Aside0.mk (Below.refl w.heap.size w)
  have H : ((pylonlaw12_awake.f k).bind fun t115 => (if t115 = true then ((pylonlaw12_read.f a0 a1 a2).bind fun bt116 => ((meter_Point.f k bt116.1 bt116.2.1 bt116.2.2.1 bt116.2.2.2.1 bt116.2.2.2.2 1 (wrap64 (Int.tmod (IntKind.u64.wrap (a4)) 4))).bind fun bt122 => ((meter_Point.f k bt116.1 bt116.2.1 bt116.2.2.1 bt116.2.2.2.1 bt116.2.2.2.2 (wrap64 (1 + (wrap64 (Int.tmod (IntKind.u64.wrap (a3)) 1000)))) (wrap64 (Int.tmod (IntKind.u64.wrap (a4)) 4))).bind fun bt124 => ((meter_Point.f k bt116.1 bt116.2.1 bt116.2.2.1 bt116.2.2.2.1 bt116.2.2.2.2 (wrap64 (1 + (wrap64 (Int.tmod (IntKind.u64.wrap (a3)) 1000)))) (Int.tmod (wrap64 ((wrap64 (Int.tmod (IntKind.u64.wrap (a4)) 4)) + 1)) 4)).bind fun bt126 => (if bt122.2 = 0 then (if bt124.2 = 0 then (if bt126.2 = 0 then ((meter_Fits.f bt124.1).bind fun t128 => (if t128 = true then (if ceq bt126.1.re bt126.1.im (fneg bt124.1.im) bt124.1.re = true then (if fmulok (floatOfInt .f64 (wrap64 (1 + (wrap64 (Int.tmod (IntKind.u64.wrap (a3)) 1000))))) bt122.1.re = true then (if fmulok (floatOfInt .f64 (wrap64 (1 + (wrap64 (Int.tmod (IntKind.u64.wrap (a3)) 1000))))) bt122.1.im = true then (some (ceq bt124.1.re bt124.1.im (fmul (floatOfInt .f64 (wrap64 (1 + (wrap64 (Int.tmod (IntKind.u64.wrap (a3)) 1000))))) bt122.1.re) (fmul (floatOfInt .f64 (wrap64 (1 + (wrap64 (Int.tmod (IntKind.u64.wrap (a3)) 1000))))) bt122.1.im))) else (none)) else (none)) else (some false)) else (some false))) else (some false)) else (some false)) else (some false)))))) else (some false))) = some r := h
  clear h
  replace H := Option.bind_eq_some_iff.mp H
  obtain ⟨t115, A60, H⟩ := H
  replace H : (if t115 = true then ((pylonlaw12_read.f a0 a1 a2).bind fun bt116 => ((meter_Point.f k bt116.1 bt116.2.1 bt116.2.2.1 bt116.2.2.2.1 bt116.2.2.2.2 1 (wrap64 (Int.tmod (IntKind.u64.wrap (a4)) 4))).bind fun bt122 => ((meter_Point.f k bt116.1 bt116.2.1 bt116.2.2.1 bt116.2.2.2.1 bt116.2.2.2.2 (wrap64 (1 + (wrap64 (Int.tmod (IntKind.u64.wrap (a3)) 1000)))) (wrap64 (Int.tmod (IntKind.u64.wrap (a4)) 4))).bind fun bt124 => ((meter_Point.f k bt116.1 bt116.2.1 bt116.2.2.1 bt116.2.2.2.1 bt116.2.2.2.2 (wrap64 (1 + (wrap64 (Int.tmod (IntKind.u64.wrap (a3)) 1000)))) (Int.tmod (wrap64 ((wrap64 (Int.tmod (IntKind.u64.wrap (a4)) 4)) + 1)) 4)).bind fun bt126 => (if bt122.2 = 0 then (if bt124.2 = 0 then (if bt126.2 = 0 then ((meter_Fits.f bt124.1).bind fun t128 => (if t128 = true then (if ceq bt126.1.re bt126.1.im (fneg bt124.1.im) bt124.1.re = true then (if fmulok (floatOfInt .f64 (wrap64 (1 + (wrap64 (Int.tmod (IntKind.u64.wrap (a3)) 1000))))) bt122.1.re = true then (if fmulok (floatOfInt .f64 (wrap64 (1 + (wrap64 (Int.tmod (IntKind.u64.wrap (a3)) 1000))))) bt122.1.im = true then (some (ceq bt124.1.re bt124.1.im (fmul (floatOfInt .f64 (wrap64 (1 + (wrap64 (Int.tmod (IntKind.u64.wrap (a3)) 1000))))) bt122.1.re) (fmul (floatOfInt .f64 (wrap64 (1 + (wrap64 (Int.tmod (IntKind.u64.wrap (a3)) 1000))))) bt122.1.im))) else (none)) else (none)) else (some false)) else (some false))) else (some false)) else (some false)) else (some false)))))) else (some false)) = some r := H
  have A6 := Aside0.mk A60
  clear A60
  by_cases c7 : t115 = true
  · subst c7
    have H1 : ((pylonlaw12_read.f a0 a1 a2).bind fun bt116 => ((meter_Point.f k bt116.1 bt116.2.1 bt116.2.2.1 bt116.2.2.2.1 bt116.2.2.2.2 1 (wrap64 (Int.tmod (IntKind.u64.wrap (a4)) 4))).bind fun bt122 => ((meter_Point.f k bt116.1 bt116.2.1 bt116.2.2.1 bt116.2.2.2.1 bt116.2.2.2.2 (wrap64 (1 + (wrap64 (Int.tmod (IntKind.u64.wrap (a3)) 1000)))) (wrap64 (Int.tmod (IntKind.u64.wrap (a4)) 4))).bind fun bt124 => ((meter_Point.f k bt116.1 bt116.2.1 bt116.2.2.1 bt116.2.2.2.1 bt116.2.2.2.2 (wrap64 (1 + (wrap64 (Int.tmod (IntKind.u64.wrap (a3)) 1000)))) (Int.tmod (wrap64 ((wrap64 (Int.tmod (IntKind.u64.wrap (a4)) 4)) + 1)) 4)).bind fun bt126 => (if bt122.2 = 0 then (if bt124.2 = 0 then (if bt126.2 = 0 then ((meter_Fits.f bt124.1).bind fun t128 => (if t128 = true then (if ceq bt126.1.re bt126.1.im (fneg bt124.1.im) bt124.1.re = true then (if fmulok (floatOfInt .f64 (wrap64 (1 + (wrap64 (Int.tmod (IntKind.u64.wrap (a3)) 1000))))) bt122.1.re = true then (if fmulok (floatOfInt .f64 (wrap64 (1 + (wrap64 (Int.tmod (IntKind.u64.wrap (a3)) 1000))))) bt122.1.im = true then (some (ceq bt124.1.re bt124.1.im (fmul (floatOfInt .f64 (wrap64 (1 + (wrap64 (Int.tmod (IntKind.u64.wrap (a3)) 1000))))) bt122.1.re) (fmul (floatOfInt .f64 (wrap64 (1 + (wrap64 (Int.tmod (IntKind.u64.wrap (a3)) 1000))))) bt122.1.im))) else (none)) else (none)) else (some false)) else (some false))) else (some false)) else (some false)) else (some false)))))) = some r := by rw [if_pos rfl] at H; exact H
    clear H
    have H := H1
    clear H1
    replace H := Option.bind_eq_some_iff.mp H
    obtain ⟨⟨t116, t117, t118, t119, t120⟩, A80, H⟩ := H
    replace H : ((meter_Point.f k t116 t117 t118 t119 t120 1 (wrap64 (Int.tmod (IntKind.u64.wrap (a4)) 4))).bind fun bt122 => ((meter_Point.f k t116 t117 t118 t119 t120 (wrap64 (1 + (wrap64 (Int.tmod (IntKind.u64.wrap (a3)) 1000)))) (wrap64 (Int.tmod (IntKind.u64.wrap (a4)) 4))).bind fun bt124 => ((meter_Point.f k t116 t117 t118 t119 t120 (wrap64 (1 + (wrap64 (Int.tmod (IntKind.u64.wrap (a3)) 1000)))) (Int.tmod (wrap64 ((wrap64 (Int.tmod (IntKind.u64.wrap (a4)) 4)) + 1)) 4)).bind fun bt126 => (if bt122.2 = 0 then (if bt124.2 = 0 then (if bt126.2 = 0 then ((meter_Fits.f bt124.1).bind fun t128 => (if t128 = true then (if ceq bt126.1.re bt126.1.im (fneg bt124.1.im) bt124.1.re = true then (if fmulok (floatOfInt .f64 (wrap64 (1 + (wrap64 (Int.tmod (IntKind.u64.wrap (a3)) 1000))))) bt122.1.re = true then (if fmulok (floatOfInt .f64 (wrap64 (1 + (wrap64 (Int.tmod (IntKind.u64.wrap (a3)) 1000))))) bt122.1.im = true then (some (ceq bt124.1.re bt124.1.im (fmul (floatOfInt .f64 (wrap64 (1 + (wrap64 (Int.tmod (IntKind.u64.wrap (a3)) 1000))))) bt122.1.re) (fmul (floatOfInt .f64 (wrap64 (1 + (wrap64 (Int.tmod (IntKind.u64.wrap (a3)) 1000))))) bt122.1.im))) else (none)) else (none)) else (some false)) else (some false))) else (some false)) else (some false)) else (some false))))) = some r := H
    have A8 := Aside0.mk A80
    clear A80
    replace H := Option.bind_eq_some_iff.mp H
    obtain ⟨⟨t122, t123⟩, A90, H⟩ := H
    replace H : ((meter_Point.f k t116 t117 t118 t119 t120 (wrap64 (1 + (wrap64 (Int.tmod (IntKind.u64.wrap (a3)) 1000)))) (wrap64 (Int.tmod (IntKind.u64.wrap (a4)) 4))).bind fun bt124 => ((meter_Point.f k t116 t117 t118 t119 t120 (wrap64 (1 + (wrap64 (Int.tmod (IntKind.u64.wrap (a3)) 1000)))) (Int.tmod (wrap64 ((wrap64 (Int.tmod (IntKind.u64.wrap (a4)) 4)) + 1)) 4)).bind fun bt126 => (if t123 = 0 then (if bt124.2 = 0 then (if bt126.2 = 0 then ((meter_Fits.f bt124.1).bind fun t128 => (if t128 = true then (if ceq bt126.1.re bt126.1.im (fneg bt124.1.im) bt124.1.re = true then (if fmulok (floatOfInt .f64 (wrap64 (1 + (wrap64 (Int.tmod (IntKind.u64.wrap (a3)) 1000))))) t122.re = true then (if fmulok (floatOfInt .f64 (wrap64 (1 + (wrap64 (Int.tmod (IntKind.u64.wrap (a3)) 1000))))) t122.im = true then (some (ceq bt124.1.re bt124.1.im (fmul (floatOfInt .f64 (wrap64 (1 + (wrap64 (Int.tmod (IntKind.u64.wrap (a3)) 1000))))) t122.re) (fmul (floatOfInt .f64 (wrap64 (1 + (wrap64 (Int.tmod (IntKind.u64.wrap (a3)) 1000))))) t122.im))) else (none)) else (none)) else (some false)) else (some false))) else (some false)) else (some false)) else (some false)))) = some r := H
    have A9 := Aside0.mk A90
    clear A90
    replace H := Option.bind_eq_some_iff.mp H
    obtain ⟨⟨t124, t125⟩, A100, H⟩ := H
    replace H : ((meter_Point.f k t116 t117 t118 t119 t120 (wrap64 (1 + (wrap64 (Int.tmod (IntKind.u64.wrap (a3)) 1000)))) (Int.tmod (wrap64 ((wrap64 (Int.tmod (IntKind.u64.wrap (a4)) 4)) + 1)) 4)).bind fun bt126 => (if t123 = 0 then (if t125 = 0 then (if bt126.2 = 0 then ((meter_Fits.f t124).bind fun t128 => (if t128 = true then (if ceq bt126.1.re bt126.1.im (fneg t124.im) t124.re = true then (if fmulok (floatOfInt .f64 (wrap64 (1 + (wrap64 (Int.tmod (IntKind.u64.wrap (a3)) 1000))))) t122.re = true then (if fmulok (floatOfInt .f64 (wrap64 (1 + (wrap64 (Int.tmod (IntKind.u64.wrap (a3)) 1000))))) t122.im = true then (some (ceq t124.re t124.im (fmul (floatOfInt .f64 (wrap64 (1 + (wrap64 (Int.tmod (IntKind.u64.wrap (a3)) 1000))))) t122.re) (fmul (floatOfInt .f64 (wrap64 (1 + (wrap64 (Int.tmod (IntKind.u64.wrap (a3)) 1000))))) t122.im))) else (none)) else (none)) else (some false)) else (some false))) else (some false)) else (some false)) else (some false))) = some r := H
    have A10 := Aside0.mk A100
    clear A100
    replace H := Option.bind_eq_some_iff.mp H
    obtain ⟨⟨t126, t127⟩, A110, H⟩ := H
    replace H : (if t123 = 0 then (if t125 = 0 then (if t127 = 0 then ((meter_Fits.f t124).bind fun t128 => (if t128 = true then (if ceq t126.re t126.im (fneg t124.im) t124.re = true then (if fmulok (floatOfInt .f64 (wrap64 (1 + (wrap64 (Int.tmod (IntKind.u64.wrap (a3)) 1000))))) t122.re = true then (if fmulok (floatOfInt .f64 (wrap64 (1 + (wrap64 (Int.tmod (IntKind.u64.wrap (a3)) 1000))))) t122.im = true then (some (ceq t124.re t124.im (fmul (floatOfInt .f64 (wrap64 (1 + (wrap64 (Int.tmod (IntKind.u64.wrap (a3)) 1000))))) t122.re) (fmul (floatOfInt .f64 (wrap64 (1 + (wrap64 (Int.tmod (IntKind.u64.wrap (a3)) 1000))))) t122.im))) else (none)) else (none)) else (some false)) else (some false))) else (some false)) else (some false)) else (some false)) = some r := H
    have A11 := Aside0.mk A110
    clear A110
    by_cases c12 : t123 = 0
    · rw [if_pos c12] at H
      have c12b0 : (t123 == 0) = true := beq_iff_eq.mpr c12
      have c12b1 : (t123 != 0) = false := bne_eq_false_iff_eq.mpr c12
      clear c12
      by_cases c13 : t125 = 0
      · rw [if_pos c13] at H
        have c13b0 : (t125 == 0) = true := beq_iff_eq.mpr c13
        have c13b1 : (t125 != 0) = false := bne_eq_false_iff_eq.mpr c13
        clear c13
        by_cases c14 : t127 = 0
        · rw [if_pos c14] at H
          have c14b0 : (t127 == 0) = true := beq_iff_eq.mpr c14
          have c14b1 : (t127 != 0) = false := bne_eq_false_iff_eq.mpr c14
          clear c14
          replace H := Option.bind_eq_some_iff.mp H
          obtain ⟨t128, A150, H⟩ := H
          replace H : (if t128 = true then (if ceq t126.re t126.im (fneg t124.im) t124.re = true then (if fmulok (floatOfInt .f64 (wrap64 (1 + (wrap64 (Int.tmod (IntKind.u64.wrap (a3)) 1000))))) t122.re = true then (if fmulok (floatOfInt .f64 (wrap64 (1 + (wrap64 (Int.tmod (IntKind.u64.wrap (a3)) 1000))))) t122.im = true then (some (ceq t124.re t124.im (fmul (floatOfInt .f64 (wrap64 (1 + (wrap64 (Int.tmod (IntKind.u64.wrap (a3)) 1000))))) t122.re) (fmul (floatOfInt .f64 (wrap64 (1 + (wrap64 (Int.tmod (IntKind.u64.wrap (a3)) 1000))))) t122.im))) else (none)) else (none)) else (some false)) else (some false)) = some r := H
          have A15 := Aside0.mk A150
          clear A150
          by_cases c16 : t128 = true
          · subst c16
            have H1 : (if ceq t126.re t126.im (fneg t124.im) t124.re = true then (if fmulok (floatOfInt .f64 (wrap64 (1 + (wrap64 (Int.tmod (IntKind.u64.wrap (a3)) 1000))))) t122.re = true then (if fmulok (floatOfInt .f64 (wrap64 (1 + (wrap64 (Int.tmod (IntKind.u64.wrap (a3)) 1000))))) t122.im = true then (some (ceq t124.re t124.im (fmul (floatOfInt .f64 (wrap64 (1 + (wrap64 (Int.tmod (IntKind.u64.wrap (a3)) 1000))))) t122.re) (fmul (floatOfInt .f64 (wrap64 (1 + (wrap64 (Int.tmod (IntKind.u64.wrap (a3)) 1000))))) t122.im))) else (none)) else (none)) else (some false)) = some r := by rw [if_pos rfl] at H; exact H
            clear H
            have H := H1
            clear H1
            by_cases c17 : ceq t126.re t126.im (fneg t124.im) t124.re = true
            · rw [if_pos c17] at H
              have c17b0 : ceq t126.re t126.im (fneg t124.im) t124.re = true := c17
              clear c17
              by_cases c18 : fmulok (floatOfInt .f64 (wrap64 (1 + (wrap64 (Int.tmod (IntKind.u64.wrap (a3)) 1000))))) t122.re = true
              · rw [if_pos c18] at H
                have c18b0 := eq_true c18
                have c18b1 : decide (fmulok (floatOfInt .f64 (wrap64 (1 + (wrap64 (Int.tmod (IntKind.u64.wrap (a3)) 1000))))) t122.re = true) = true := decide_eq_true c18
                by_cases c19 : fmulok (floatOfInt .f64 (wrap64 (1 + (wrap64 (Int.tmod (IntKind.u64.wrap (a3)) 1000))))) t122.im = true
                · rw [if_pos c19] at H
                  have c19b0 := eq_true c19
                  have c19b1 : decide (fmulok (floatOfInt .f64 (wrap64 (1 + (wrap64 (Int.tmod (IntKind.u64.wrap (a3)) 1000))))) t122.im = true) = true := decide_eq_true c19
                  obtain rfl := Option.some.inj H
                  go_enter Try.func5, Try.ntmps5
                  go_wp2_with (first | ((with_reducible refine gate_callee (f := 20) rfl ?_); refine goesL_ (some 19) rfl rfl Try.func20 (by kernel_rfl) rfl #[] rfl (by (try simp only [List.map_toArray, List.map_cons, List.map_nil]); first | done | rfl | (simp only [List.length_drop, List.length_take]; rfl)) ?_; (with_reducible refine (pylonlaw12_awake.calls k  true _ A6.out).mono ?_); rintro e w20 ⟨rfl, hb⟩; refine ⟨_, rfl, ?_⟩; have n0_ := Aside0.mk (below_step (by repeat (first | (with_reducible first | exact HB.out | apply below_alloc | apply pw_below_drewN | apply below_drew1) | exact HB.out)) hb); clear HB; have HB := n0_; clear n0_; (try clear hb); (try clear hb2); (try clear hk); (try clear hi)) | ((with_reducible refine gate_callee (f := 28) rfl ?_); refine goesL_ (some 24) rfl rfl Try.func28 (by kernel_rfl) rfl #[.int .i64 a0, .int .i64 a1, .int .i64 a2] rfl (by (try simp only [List.map_toArray, List.map_cons, List.map_nil]); first | done | rfl | (simp only [List.length_drop, List.length_take]; rfl)) ?_; (with_reducible refine (pylonlaw12_read.calls a0 a1 a2 t116 t117 t118 t119 t120 _ A8.out).mono ?_); rintro e w21 ⟨rfl, hb⟩; refine ⟨_, rfl, ?_⟩; have n0_ := Aside0.mk (below_step (by repeat (first | (with_reducible first | exact HB.out | apply below_alloc | apply pw_below_drewN | apply below_drew1) | exact HB.out)) hb); clear HB; have HB := n0_; clear n0_; (try clear hb); (try clear hb2); (try clear hk); (try clear hi)) | ((with_reducible refine gate_dst (N := 11) rfl ?_); (try (refine gate_guard (by rfl) ?_; dsimp only)); refine box_event ?hg (N := 11) ?hd (cs := #[.int .i64 0, .int .i64 0, .int .i64 0, .int .i64 0, .int .u8 0]) (t := 25) ?hr ?_; (case hd => rfl); (case hg => rfl); (case hr => first | (go_simp; done) | (go_simp; rfl)); intro gb121 hg w22 hbox hb; have n0_ := Aside0.mk (below_step (by repeat (first | (with_reducible first | exact HB.out | apply below_alloc | apply pw_below_drewN | apply below_drew1) | exact HB.out)) hb); have n1_ := Aside0.mk (hbox); have n2_ := Aside0.mk ((by rw [hg]; exact (below_size (by repeat (first | (with_reducible first | exact HB.out | apply below_alloc | apply pw_below_drewN | apply below_drew1) | exact HB.out))) : w.heap.size ≤ gb121)); have n3_ := Aside0.mk ((by rw [hg]; exact (below_size (by repeat (first | (with_reducible first | exact HB.out | apply below_alloc | apply pw_below_drewN | apply below_drew1) | exact HB.out))) : w.heap.size ≤ gb121)); clear HB; have HB := n0_; have BK121 := n1_; have GW121 := n2_; have GE121 := n3_; clear n0_ n1_ n2_ n3_; clear hb hbox hg; have hcz23_0 : w22.cell? ⟨gb121, 0, none⟩ = some (.int .i64 0) := (blk_cell BK121.out 0).trans rfl; have hcz23_1 : w22.cell? ⟨gb121, 1, none⟩ = some (.int .i64 0) := (blk_cell BK121.out 1).trans rfl; have hcz23_2 : w22.cell? ⟨gb121, 2, none⟩ = some (.int .i64 0) := (blk_cell BK121.out 2).trans rfl; have hcz23_3 : w22.cell? ⟨gb121, 3, none⟩ = some (.int .i64 0) := (blk_cell BK121.out 3).trans rfl; have hcz23_4 : w22.cell? ⟨gb121, 4, none⟩ = some (.int .u8 0) := (blk_cell BK121.out 4).trans rfl; have hfz23_0 := blk_frozen BK121.out 0; have hfz23_1 := blk_frozen BK121.out 1; have hfz23_2 := blk_frozen BK121.out 2; have hfz23_3 := blk_frozen BK121.out 3; have hfz23_4 := blk_frozen BK121.out 4) | ((with_reducible refine gate_callee (f := 23) rfl ?_); refine goesL_ (some 37) rfl rfl Try.func23 (by kernel_rfl) rfl #[.agg #[.int .i64 t116, .int .i64 t117, .int .i64 t118, .int .i64 t119, .int .u8 t120], .int .i64 1, .int .i64 (wrap64 (Int.tmod (IntKind.u64.wrap (a4)) 4))] rfl (by (try simp only [List.map_toArray, List.map_cons, List.map_nil]); first | done | rfl | (simp only [List.length_drop, List.length_take]; rfl)) ?_; (with_reducible refine (meter_Point.calls k t116 t117 t118 t119 t120 1 (wrap64 (Int.tmod (IntKind.u64.wrap (a4)) 4)) t122 t123 _ A9.out).mono ?_); rintro e w24 ⟨rfl, hb⟩; refine ⟨_, rfl, ?_⟩; have n0_ := Aside0.mk (blk_below (g := gb121) (o := .cells #[.int .i64 t116, .int .i64 t117, .int .i64 t118, .int .i64 t119, .int .u8 t120] 25 (0, 0)) (by (with_reducible repeat (first | refine blk_drewN ?_ _ | refine blk_drew ?_ | refine blk_alloc ?_ _)); refine blk_put (cs := #[.int .i64 t116, .int .i64 t117, .int .i64 t118, .int .i64 t119, .int .u8 0]) ?_ 4 _ rfl; (with_reducible repeat (first | refine blk_drewN ?_ _ | refine blk_drew ?_ | refine blk_alloc ?_ _)); refine blk_put (cs := #[.int .i64 t116, .int .i64 t117, .int .i64 t118, .int .i64 0, .int .u8 0]) ?_ 3 _ rfl; (with_reducible repeat (first | refine blk_drewN ?_ _ | refine blk_drew ?_ | refine blk_alloc ?_ _)); refine blk_put (cs := #[.int .i64 t116, .int .i64 t117, .int .i64 0, .int .i64 0, .int .u8 0]) ?_ 2 _ rfl; (with_reducible repeat (first | refine blk_drewN ?_ _ | refine blk_drew ?_ | refine blk_alloc ?_ _)); refine blk_put (cs := #[.int .i64 t116, .int .i64 0, .int .i64 0, .int .i64 0, .int .u8 0]) ?_ 1 _ rfl; (with_reducible repeat (first | refine blk_drewN ?_ _ | refine blk_drew ?_ | refine blk_alloc ?_ _)); refine blk_put (cs := #[.int .i64 0, .int .i64 0, .int .i64 0, .int .i64 0, .int .u8 0]) ?_ 0 _ rfl; (with_reducible repeat (first | refine blk_drewN ?_ _ | refine blk_drew ?_ | refine blk_alloc ?_ _)); exact BK121.out) hb); have n1_ := Aside0.mk (below_step (by repeat (first | (with_reducible first | exact HB.out | apply below_alloc | apply pw_below_drewN | apply below_drew1 | refine below_set ?_ GE121.out) | exact HB.out)) hb); clear BK121; clear HB; have BK121 := n0_; have HB := n1_; clear n0_ n1_; (try clear hb); (try clear hb2); (try clear hk); (try clear hi); have hcz25_0 : w24.cell? ⟨gb121, 0, none⟩ = some (.int .i64 t116) := (blk_cell BK121.out 0).trans rfl; have hcz25_1 : w24.cell? ⟨gb121, 1, none⟩ = some (.int .i64 t117) := (blk_cell BK121.out 1).trans rfl; have hcz25_2 : w24.cell? ⟨gb121, 2, none⟩ = some (.int .i64 t118) := (blk_cell BK121.out 2).trans rfl; have hcz25_3 : w24.cell? ⟨gb121, 3, none⟩ = some (.int .i64 t119) := (blk_cell BK121.out 3).trans rfl; have hcz25_4 : w24.cell? ⟨gb121, 4, none⟩ = some (.int .u8 t120) := (blk_cell BK121.out 4).trans rfl; have hfz25_0 := blk_frozen BK121.out 0; have hfz25_1 := blk_frozen BK121.out 1; have hfz25_2 := blk_frozen BK121.out 2; have hfz25_3 := blk_frozen BK121.out 3; have hfz25_4 := blk_frozen BK121.out 4) | ((with_reducible refine gate_callee (f := 23) rfl ?_); refine goesL_ (some 44) rfl rfl Try.func23 (by kernel_rfl) rfl #[.agg #[.int .i64 t116, .int .i64 t117, .int .i64 t118, .int .i64 t119, .int .u8 t120], .int .i64 (wrap64 (1 + (wrap64 (Int.tmod (IntKind.u64.wrap (a3)) 1000)))), .int .i64 (wrap64 (Int.tmod (IntKind.u64.wrap (a4)) 4))] rfl (by (try simp only [List.map_toArray, List.map_cons, List.map_nil]); first | done | rfl | (simp only [List.length_drop, List.length_take]; rfl)) ?_; (with_reducible refine (meter_Point.calls k t116 t117 t118 t119 t120 (wrap64 (1 + (wrap64 (Int.tmod (IntKind.u64.wrap (a3)) 1000)))) (wrap64 (Int.tmod (IntKind.u64.wrap (a4)) 4)) t124 t125 _ A10.out).mono ?_); rintro e w26 ⟨rfl, hb⟩; refine ⟨_, rfl, ?_⟩; have n0_ := Aside0.mk (blk_below (g := gb121) (o := .cells #[.int .i64 t116, .int .i64 t117, .int .i64 t118, .int .i64 t119, .int .u8 t120] 25 (0, 0)) (by (with_reducible repeat (first | refine blk_drewN ?_ _ | refine blk_drew ?_ | refine blk_alloc ?_ _)); exact BK121.out) hb); have n1_ := Aside0.mk (below_step (by repeat (first | (with_reducible first | exact HB.out | apply below_alloc | apply pw_below_drewN | apply below_drew1 | refine below_set ?_ GE121.out) | exact HB.out)) hb); clear BK121; clear HB; have BK121 := n0_; have HB := n1_; clear n0_ n1_; (try clear hb); (try clear hb2); (try clear hk); (try clear hi); have hcz27_0 : w26.cell? ⟨gb121, 0, none⟩ = some (.int .i64 t116) := (blk_cell BK121.out 0).trans rfl; have hcz27_1 : w26.cell? ⟨gb121, 1, none⟩ = some (.int .i64 t117) := (blk_cell BK121.out 1).trans rfl; have hcz27_2 : w26.cell? ⟨gb121, 2, none⟩ = some (.int .i64 t118) := (blk_cell BK121.out 2).trans rfl; have hcz27_3 : w26.cell? ⟨gb121, 3, none⟩ = some (.int .i64 t119) := (blk_cell BK121.out 3).trans rfl; have hcz27_4 : w26.cell? ⟨gb121, 4, none⟩ = some (.int .u8 t120) := (blk_cell BK121.out 4).trans rfl; have hfz27_0 := blk_frozen BK121.out 0; have hfz27_1 := blk_frozen BK121.out 1; have hfz27_2 := blk_frozen BK121.out 2; have hfz27_3 := blk_frozen BK121.out 3; have hfz27_4 := blk_frozen BK121.out 4) | ((with_reducible refine gate_callee (f := 23) rfl ?_); refine goesL_ (some 53) rfl rfl Try.func23 (by kernel_rfl) rfl #[.agg #[.int .i64 t116, .int .i64 t117, .int .i64 t118, .int .i64 t119, .int .u8 t120], .int .i64 (wrap64 (1 + (wrap64 (Int.tmod (IntKind.u64.wrap (a3)) 1000)))), .int .i64 (Int.tmod (wrap64 ((wrap64 (Int.tmod (IntKind.u64.wrap (a4)) 4)) + 1)) 4)] rfl (by (try simp only [List.map_toArray, List.map_cons, List.map_nil]); first | done | rfl | (simp only [List.length_drop, List.length_take]; rfl)) ?_; (with_reducible refine (meter_Point.calls k t116 t117 t118 t119 t120 (wrap64 (1 + (wrap64 (Int.tmod (IntKind.u64.wrap (a3)) 1000)))) (Int.tmod (wrap64 ((wrap64 (Int.tmod (IntKind.u64.wrap (a4)) 4)) + 1)) 4) t126 t127 _ A11.out).mono ?_); rintro e w28 ⟨rfl, hb⟩; refine ⟨_, rfl, ?_⟩; have n0_ := Aside0.mk (blk_below (g := gb121) (o := .cells #[.int .i64 t116, .int .i64 t117, .int .i64 t118, .int .i64 t119, .int .u8 t120] 25 (0, 0)) (by (with_reducible repeat (first | refine blk_drewN ?_ _ | refine blk_drew ?_ | refine blk_alloc ?_ _)); exact BK121.out) hb); have n1_ := Aside0.mk (below_step (by repeat (first | (with_reducible first | exact HB.out | apply below_alloc | apply pw_below_drewN | apply below_drew1 | refine below_set ?_ GE121.out) | exact HB.out)) hb); clear BK121; clear HB; have BK121 := n0_; have HB := n1_; clear n0_ n1_; (try clear hb); (try clear hb2); (try clear hk); (try clear hi)) | (go_at_call 29; (with_reducible refine (meter_Fits.calls t124 true _ A15.out).mono ?_); rintro e w29 ⟨rfl, hb⟩; have n0_ := Aside0.mk (blk_below (g := gb121) (o := .cells #[.int .i64 t116, .int .i64 t117, .int .i64 t118, .int .i64 t119, .int .u8 t120] 25 (0, 0)) (by (with_reducible repeat (first | refine blk_drewN ?_ _ | refine blk_drew ?_ | refine blk_alloc ?_ _)); exact BK121.out) hb); have n1_ := Aside0.mk (below_step (by repeat (first | (with_reducible first | exact HB.out | apply below_alloc | apply pw_below_drewN | apply below_drew1 | refine below_set ?_ GE121.out) | exact HB.out)) hb); clear BK121; clear HB; have BK121 := n0_; have HB := n1_; clear n0_ n1_; (try clear hb); (try clear hb2); (try clear hk); (try clear hi)))
                  go_ret
                  exact ⟨by first | rfl | (simp [errW_none, errW_some] <;> rfl) | (simp [*, errW_none, errW_some] <;> rfl), by repeat (first | (with_reducible first | exact HB.out | apply below_alloc | apply pw_below_drewN | apply below_drew1 | refine below_set ?_ GE121.out) | exact HB.out)⟩
                · rw [if_neg c19] at H
                  exact absurd H (by simp)
              · rw [if_neg c18] at H
                exact absurd H (by simp)
            · rw [if_neg c17] at H
              have c17b0 : ceq t126.re t126.im (fneg t124.im) t124.re = false := Bool.eq_false_iff.mpr c17
              clear c17
              obtain rfl := Option.some.inj H
              go_enter Try.func5, Try.ntmps5
              go_wp2_with (first | ((with_reducible refine gate_callee (f := 20) rfl ?_); refine goesL_ (some 19) rfl rfl Try.func20 (by kernel_rfl) rfl #[] rfl (by (try simp only [List.map_toArray, List.map_cons, List.map_nil]); first | done | rfl | (simp only [List.length_drop, List.length_take]; rfl)) ?_; (with_reducible refine (pylonlaw12_awake.calls k  true _ A6.out).mono ?_); rintro e w30 ⟨rfl, hb⟩; refine ⟨_, rfl, ?_⟩; have n0_ := Aside0.mk (below_step (by repeat (first | (with_reducible first | exact HB.out | apply below_alloc | apply pw_below_drewN | apply below_drew1) | exact HB.out)) hb); clear HB; have HB := n0_; clear n0_; (try clear hb); (try clear hb2); (try clear hk); (try clear hi)) | ((with_reducible refine gate_callee (f := 28) rfl ?_); refine goesL_ (some 24) rfl rfl Try.func28 (by kernel_rfl) rfl #[.int .i64 a0, .int .i64 a1, .int .i64 a2] rfl (by (try simp only [List.map_toArray, List.map_cons, List.map_nil]); first | done | rfl | (simp only [List.length_drop, List.length_take]; rfl)) ?_; (with_reducible refine (pylonlaw12_read.calls a0 a1 a2 t116 t117 t118 t119 t120 _ A8.out).mono ?_); rintro e w31 ⟨rfl, hb⟩; refine ⟨_, rfl, ?_⟩; have n0_ := Aside0.mk (below_step (by repeat (first | (with_reducible first | exact HB.out | apply below_alloc | apply pw_below_drewN | apply below_drew1) | exact HB.out)) hb); clear HB; have HB := n0_; clear n0_; (try clear hb); (try clear hb2); (try clear hk); (try clear hi)) | ((with_reducible refine gate_dst (N := 11) rfl ?_); (try (refine gate_guard (by rfl) ?_; dsimp only)); refine box_event ?hg (N := 11) ?hd (cs := #[.int .i64 0, .int .i64 0, .int .i64 0, .int .i64 0, .int .u8 0]) (t := 25) ?hr ?_; (case hd => rfl); (case hg => rfl); (case hr => first | (go_simp; done) | (go_simp; rfl)); intro gb121 hg w32 hbox hb; have n0_ := Aside0.mk (below_step (by repeat (first | (with_reducible first | exact HB.out | apply below_alloc | apply pw_below_drewN | apply below_drew1) | exact HB.out)) hb); have n1_ := Aside0.mk (hbox); have n2_ := Aside0.mk ((by rw [hg]; exact (below_size (by repeat (first | (with_reducible first | exact HB.out | apply below_alloc | apply pw_below_drewN | apply below_drew1) | exact HB.out))) : w.heap.size ≤ gb121)); have n3_ := Aside0.mk ((by rw [hg]; exact (below_size (by repeat (first | (with_reducible first | exact HB.out | apply below_alloc | apply pw_below_drewN | apply below_drew1) | exact HB.out))) : w.heap.size ≤ gb121)); clear HB; have HB := n0_; have BK121 := n1_; have GW121 := n2_; have GE121 := n3_; clear n0_ n1_ n2_ n3_; clear hb hbox hg; have hcz33_0 : w32.cell? ⟨gb121, 0, none⟩ = some (.int .i64 0) := (blk_cell BK121.out 0).trans rfl; have hcz33_1 : w32.cell? ⟨gb121, 1, none⟩ = some (.int .i64 0) := (blk_cell BK121.out 1).trans rfl; have hcz33_2 : w32.cell? ⟨gb121, 2, none⟩ = some (.int .i64 0) := (blk_cell BK121.out 2).trans rfl; have hcz33_3 : w32.cell? ⟨gb121, 3, none⟩ = some (.int .i64 0) := (blk_cell BK121.out 3).trans rfl; have hcz33_4 : w32.cell? ⟨gb121, 4, none⟩ = some (.int .u8 0) := (blk_cell BK121.out 4).trans rfl; have hfz33_0 := blk_frozen BK121.out 0; have hfz33_1 := blk_frozen BK121.out 1; have hfz33_2 := blk_frozen BK121.out 2; have hfz33_3 := blk_frozen BK121.out 3; have hfz33_4 := blk_frozen BK121.out 4) | ((with_reducible refine gate_callee (f := 23) rfl ?_); refine goesL_ (some 37) rfl rfl Try.func23 (by kernel_rfl) rfl #[.agg #[.int .i64 t116, .int .i64 t117, .int .i64 t118, .int .i64 t119, .int .u8 t120], .int .i64 1, .int .i64 (wrap64 (Int.tmod (IntKind.u64.wrap (a4)) 4))] rfl (by (try simp only [List.map_toArray, List.map_cons, List.map_nil]); first | done | rfl | (simp only [List.length_drop, List.length_take]; rfl)) ?_; (with_reducible refine (meter_Point.calls k t116 t117 t118 t119 t120 1 (wrap64 (Int.tmod (IntKind.u64.wrap (a4)) 4)) t122 t123 _ A9.out).mono ?_); rintro e w34 ⟨rfl, hb⟩; refine ⟨_, rfl, ?_⟩; have n0_ := Aside0.mk (blk_below (g := gb121) (o := .cells #[.int .i64 t116, .int .i64 t117, .int .i64 t118, .int .i64 t119, .int .u8 t120] 25 (0, 0)) (by (with_reducible repeat (first | refine blk_drewN ?_ _ | refine blk_drew ?_ | refine blk_alloc ?_ _)); refine blk_put (cs := #[.int .i64 t116, .int .i64 t117, .int .i64 t118, .int .i64 t119, .int .u8 0]) ?_ 4 _ rfl; (with_reducible repeat (first | refine blk_drewN ?_ _ | refine blk_drew ?_ | refine blk_alloc ?_ _)); refine blk_put (cs := #[.int .i64 t116, .int .i64 t117, .int .i64 t118, .int .i64 0, .int .u8 0]) ?_ 3 _ rfl; (with_reducible repeat (first | refine blk_drewN ?_ _ | refine blk_drew ?_ | refine blk_alloc ?_ _)); refine blk_put (cs := #[.int .i64 t116, .int .i64 t117, .int .i64 0, .int .i64 0, .int .u8 0]) ?_ 2 _ rfl; (with_reducible repeat (first | refine blk_drewN ?_ _ | refine blk_drew ?_ | refine blk_alloc ?_ _)); refine blk_put (cs := #[.int .i64 t116, .int .i64 0, .int .i64 0, .int .i64 0, .int .u8 0]) ?_ 1 _ rfl; (with_reducible repeat (first | refine blk_drewN ?_ _ | refine blk_drew ?_ | refine blk_alloc ?_ _)); refine blk_put (cs := #[.int .i64 0, .int .i64 0, .int .i64 0, .int .i64 0, .int .u8 0]) ?_ 0 _ rfl; (with_reducible repeat (first | refine blk_drewN ?_ _ | refine blk_drew ?_ | refine blk_alloc ?_ _)); exact BK121.out) hb); have n1_ := Aside0.mk (below_step (by repeat (first | (with_reducible first | exact HB.out | apply below_alloc | apply pw_below_drewN | apply below_drew1 | refine below_set ?_ GE121.out) | exact HB.out)) hb); clear BK121; clear HB; have BK121 := n0_; have HB := n1_; clear n0_ n1_; (try clear hb); (try clear hb2); (try clear hk); (try clear hi); have hcz35_0 : w34.cell? ⟨gb121, 0, none⟩ = some (.int .i64 t116) := (blk_cell BK121.out 0).trans rfl; have hcz35_1 : w34.cell? ⟨gb121, 1, none⟩ = some (.int .i64 t117) := (blk_cell BK121.out 1).trans rfl; have hcz35_2 : w34.cell? ⟨gb121, 2, none⟩ = some (.int .i64 t118) := (blk_cell BK121.out 2).trans rfl; have hcz35_3 : w34.cell? ⟨gb121, 3, none⟩ = some (.int .i64 t119) := (blk_cell BK121.out 3).trans rfl; have hcz35_4 : w34.cell? ⟨gb121, 4, none⟩ = some (.int .u8 t120) := (blk_cell BK121.out 4).trans rfl; have hfz35_0 := blk_frozen BK121.out 0; have hfz35_1 := blk_frozen BK121.out 1; have hfz35_2 := blk_frozen BK121.out 2; have hfz35_3 := blk_frozen BK121.out 3; have hfz35_4 := blk_frozen BK121.out 4) | ((with_reducible refine gate_callee (f := 23) rfl ?_); refine goesL_ (some 44) rfl rfl Try.func23 (by kernel_rfl) rfl #[.agg #[.int .i64 t116, .int .i64 t117, .int .i64 t118, .int .i64 t119, .int .u8 t120], .int .i64 (wrap64 (1 + (wrap64 (Int.tmod (IntKind.u64.wrap (a3)) 1000)))), .int .i64 (wrap64 (Int.tmod (IntKind.u64.wrap (a4)) 4))] rfl (by (try simp only [List.map_toArray, List.map_cons, List.map_nil]); first | done | rfl | (simp only [List.length_drop, List.length_take]; rfl)) ?_; (with_reducible refine (meter_Point.calls k t116 t117 t118 t119 t120 (wrap64 (1 + (wrap64 (Int.tmod (IntKind.u64.wrap (a3)) 1000)))) (wrap64 (Int.tmod (IntKind.u64.wrap (a4)) 4)) t124 t125 _ A10.out).mono ?_); rintro e w36 ⟨rfl, hb⟩; refine ⟨_, rfl, ?_⟩; have n0_ := Aside0.mk (blk_below (g := gb121) (o := .cells #[.int .i64 t116, .int .i64 t117, .int .i64 t118, .int .i64 t119, .int .u8 t120] 25 (0, 0)) (by (with_reducible repeat (first | refine blk_drewN ?_ _ | refine blk_drew ?_ | refine blk_alloc ?_ _)); exact BK121.out) hb); have n1_ := Aside0.mk (below_step (by repeat (first | (with_reducible first | exact HB.out | apply below_alloc | apply pw_below_drewN | apply below_drew1 | refine below_set ?_ GE121.out) | exact HB.out)) hb); clear BK121; clear HB; have BK121 := n0_; have HB := n1_; clear n0_ n1_; (try clear hb); (try clear hb2); (try clear hk); (try clear hi); have hcz37_0 : w36.cell? ⟨gb121, 0, none⟩ = some (.int .i64 t116) := (blk_cell BK121.out 0).trans rfl; have hcz37_1 : w36.cell? ⟨gb121, 1, none⟩ = some (.int .i64 t117) := (blk_cell BK121.out 1).trans rfl; have hcz37_2 : w36.cell? ⟨gb121, 2, none⟩ = some (.int .i64 t118) := (blk_cell BK121.out 2).trans rfl; have hcz37_3 : w36.cell? ⟨gb121, 3, none⟩ = some (.int .i64 t119) := (blk_cell BK121.out 3).trans rfl; have hcz37_4 : w36.cell? ⟨gb121, 4, none⟩ = some (.int .u8 t120) := (blk_cell BK121.out 4).trans rfl; have hfz37_0 := blk_frozen BK121.out 0; have hfz37_1 := blk_frozen BK121.out 1; have hfz37_2 := blk_frozen BK121.out 2; have hfz37_3 := blk_frozen BK121.out 3; have hfz37_4 := blk_frozen BK121.out 4) | ((with_reducible refine gate_callee (f := 23) rfl ?_); refine goesL_ (some 53) rfl rfl Try.func23 (by kernel_rfl) rfl #[.agg #[.int .i64 t116, .int .i64 t117, .int .i64 t118, .int .i64 t119, .int .u8 t120], .int .i64 (wrap64 (1 + (wrap64 (Int.tmod (IntKind.u64.wrap (a3)) 1000)))), .int .i64 (Int.tmod (wrap64 ((wrap64 (Int.tmod (IntKind.u64.wrap (a4)) 4)) + 1)) 4)] rfl (by (try simp only [List.map_toArray, List.map_cons, List.map_nil]); first | done | rfl | (simp only [List.length_drop, List.length_take]; rfl)) ?_; (with_reducible refine (meter_Point.calls k t116 t117 t118 t119 t120 (wrap64 (1 + (wrap64 (Int.tmod (IntKind.u64.wrap (a3)) 1000)))) (Int.tmod (wrap64 ((wrap64 (Int.tmod (IntKind.u64.wrap (a4)) 4)) + 1)) 4) t126 t127 _ A11.out).mono ?_); rintro e w38 ⟨rfl, hb⟩; refine ⟨_, rfl, ?_⟩; have n0_ := Aside0.mk (blk_below (g := gb121) (o := .cells #[.int .i64 t116, .int .i64 t117, .int .i64 t118, .int .i64 t119, .int .u8 t120] 25 (0, 0)) (by (with_reducible repeat (first | refine blk_drewN ?_ _ | refine blk_drew ?_ | refine blk_alloc ?_ _)); exact BK121.out) hb); have n1_ := Aside0.mk (below_step (by repeat (first | (with_reducible first | exact HB.out | apply below_alloc | apply pw_below_drewN | apply below_drew1 | refine below_set ?_ GE121.out) | exact HB.out)) hb); clear BK121; clear HB; have BK121 := n0_; have HB := n1_; clear n0_ n1_; (try clear hb); (try clear hb2); (try clear hk); (try clear hi)) | (go_at_call 29; (with_reducible refine (meter_Fits.calls t124 true _ A15.out).mono ?_); rintro e w39 ⟨rfl, hb⟩; have n0_ := Aside0.mk (blk_below (g := gb121) (o := .cells #[.int .i64 t116, .int .i64 t117, .int .i64 t118, .int .i64 t119, .int .u8 t120] 25 (0, 0)) (by (with_reducible repeat (first | refine blk_drewN ?_ _ | refine blk_drew ?_ | refine blk_alloc ?_ _)); exact BK121.out) hb); have n1_ := Aside0.mk (below_step (by repeat (first | (with_reducible first | exact HB.out | apply below_alloc | apply pw_below_drewN | apply below_drew1 | refine below_set ?_ GE121.out) | exact HB.out)) hb); clear BK121; clear HB; have BK121 := n0_; have HB := n1_; clear n0_ n1_; (try clear hb); (try clear hb2); (try clear hk); (try clear hi)))
              go_ret
              exact ⟨by first | rfl | (simp [errW_none, errW_some] <;> rfl) | (simp [*, errW_none, errW_some] <;> rfl), by repeat (first | (with_reducible first | exact HB.out | apply below_alloc | apply pw_below_drewN | apply below_drew1 | refine below_set ?_ GE121.out) | exact HB.out)⟩
          · replace c16 := Bool.eq_false_iff.mpr c16
            subst c16
            have H1 : (some false) = some r := by rw [if_neg (show ¬ (false = true) by decide)] at H; exact H
            clear H
            have H := H1
            clear H1
            obtain rfl := Option.some.inj H
            go_enter Try.func5, Try.ntmps5
            go_wp2_with (first | ((with_reducible refine gate_callee (f := 20) rfl ?_); refine goesL_ (some 19) rfl rfl Try.func20 (by kernel_rfl) rfl #[] rfl (by (try simp only [List.map_toArray, List.map_cons, List.map_nil]); first | done | rfl | (simp only [List.length_drop, List.length_take]; rfl)) ?_; (with_reducible refine (pylonlaw12_awake.calls k  true _ A6.out).mono ?_); rintro e w40 ⟨rfl, hb⟩; refine ⟨_, rfl, ?_⟩; have n0_ := Aside0.mk (below_step (by repeat (first | (with_reducible first | exact HB.out | apply below_alloc | apply pw_below_drewN | apply below_drew1) | exact HB.out)) hb); clear HB; have HB := n0_; clear n0_; (try clear hb); (try clear hb2); (try clear hk); (try clear hi)) | ((with_reducible refine gate_callee (f := 28) rfl ?_); refine goesL_ (some 24) rfl rfl Try.func28 (by kernel_rfl) rfl #[.int .i64 a0, .int .i64 a1, .int .i64 a2] rfl (by (try simp only [List.map_toArray, List.map_cons, List.map_nil]); first | done | rfl | (simp only [List.length_drop, List.length_take]; rfl)) ?_; (with_reducible refine (pylonlaw12_read.calls a0 a1 a2 t116 t117 t118 t119 t120 _ A8.out).mono ?_); rintro e w41 ⟨rfl, hb⟩; refine ⟨_, rfl, ?_⟩; have n0_ := Aside0.mk (below_step (by repeat (first | (with_reducible first | exact HB.out | apply below_alloc | apply pw_below_drewN | apply below_drew1) | exact HB.out)) hb); clear HB; have HB := n0_; clear n0_; (try clear hb); (try clear hb2); (try clear hk); (try clear hi)) | ((with_reducible refine gate_dst (N := 11) rfl ?_); (try (refine gate_guard (by rfl) ?_; dsimp only)); refine box_event ?hg (N := 11) ?hd (cs := #[.int .i64 0, .int .i64 0, .int .i64 0, .int .i64 0, .int .u8 0]) (t := 25) ?hr ?_; (case hd => rfl); (case hg => rfl); (case hr => first | (go_simp; done) | (go_simp; rfl)); intro gb121 hg w42 hbox hb; have n0_ := Aside0.mk (below_step (by repeat (first | (with_reducible first | exact HB.out | apply below_alloc | apply pw_below_drewN | apply below_drew1) | exact HB.out)) hb); have n1_ := Aside0.mk (hbox); have n2_ := Aside0.mk ((by rw [hg]; exact (below_size (by repeat (first | (with_reducible first | exact HB.out | apply below_alloc | apply pw_below_drewN | apply below_drew1) | exact HB.out))) : w.heap.size ≤ gb121)); have n3_ := Aside0.mk ((by rw [hg]; exact (below_size (by repeat (first | (with_reducible first | exact HB.out | apply below_alloc | apply pw_below_drewN | apply below_drew1) | exact HB.out))) : w.heap.size ≤ gb121)); clear HB; have HB := n0_; have BK121 := n1_; have GW121 := n2_; have GE121 := n3_; clear n0_ n1_ n2_ n3_; clear hb hbox hg; have hcz43_0 : w42.cell? ⟨gb121, 0, none⟩ = some (.int .i64 0) := (blk_cell BK121.out 0).trans rfl; have hcz43_1 : w42.cell? ⟨gb121, 1, none⟩ = some (.int .i64 0) := (blk_cell BK121.out 1).trans rfl; have hcz43_2 : w42.cell? ⟨gb121, 2, none⟩ = some (.int .i64 0) := (blk_cell BK121.out 2).trans rfl; have hcz43_3 : w42.cell? ⟨gb121, 3, none⟩ = some (.int .i64 0) := (blk_cell BK121.out 3).trans rfl; have hcz43_4 : w42.cell? ⟨gb121, 4, none⟩ = some (.int .u8 0) := (blk_cell BK121.out 4).trans rfl; have hfz43_0 := blk_frozen BK121.out 0; have hfz43_1 := blk_frozen BK121.out 1; have hfz43_2 := blk_frozen BK121.out 2; have hfz43_3 := blk_frozen BK121.out 3; have hfz43_4 := blk_frozen BK121.out 4) | ((with_reducible refine gate_callee (f := 23) rfl ?_); refine goesL_ (some 37) rfl rfl Try.func23 (by kernel_rfl) rfl #[.agg #[.int .i64 t116, .int .i64 t117, .int .i64 t118, .int .i64 t119, .int .u8 t120], .int .i64 1, .int .i64 (wrap64 (Int.tmod (IntKind.u64.wrap (a4)) 4))] rfl (by (try simp only [List.map_toArray, List.map_cons, List.map_nil]); first | done | rfl | (simp only [List.length_drop, List.length_take]; rfl)) ?_; (with_reducible refine (meter_Point.calls k t116 t117 t118 t119 t120 1 (wrap64 (Int.tmod (IntKind.u64.wrap (a4)) 4)) t122 t123 _ A9.out).mono ?_); rintro e w44 ⟨rfl, hb⟩; refine ⟨_, rfl, ?_⟩; have n0_ := Aside0.mk (blk_below (g := gb121) (o := .cells #[.int .i64 t116, .int .i64 t117, .int .i64 t118, .int .i64 t119, .int .u8 t120] 25 (0, 0)) (by (with_reducible repeat (first | refine blk_drewN ?_ _ | refine blk_drew ?_ | refine blk_alloc ?_ _)); refine blk_put (cs := #[.int .i64 t116, .int .i64 t117, .int .i64 t118, .int .i64 t119, .int .u8 0]) ?_ 4 _ rfl; (with_reducible repeat (first | refine blk_drewN ?_ _ | refine blk_drew ?_ | refine blk_alloc ?_ _)); refine blk_put (cs := #[.int .i64 t116, .int .i64 t117, .int .i64 t118, .int .i64 0, .int .u8 0]) ?_ 3 _ rfl; (with_reducible repeat (first | refine blk_drewN ?_ _ | refine blk_drew ?_ | refine blk_alloc ?_ _)); refine blk_put (cs := #[.int .i64 t116, .int .i64 t117, .int .i64 0, .int .i64 0, .int .u8 0]) ?_ 2 _ rfl; (with_reducible repeat (first | refine blk_drewN ?_ _ | refine blk_drew ?_ | refine blk_alloc ?_ _)); refine blk_put (cs := #[.int .i64 t116, .int .i64 0, .int .i64 0, .int .i64 0, .int .u8 0]) ?_ 1 _ rfl; (with_reducible repeat (first | refine blk_drewN ?_ _ | refine blk_drew ?_ | refine blk_alloc ?_ _)); refine blk_put (cs := #[.int .i64 0, .int .i64 0, .int .i64 0, .int .i64 0, .int .u8 0]) ?_ 0 _ rfl; (with_reducible repeat (first | refine blk_drewN ?_ _ | refine blk_drew ?_ | refine blk_alloc ?_ _)); exact BK121.out) hb); have n1_ := Aside0.mk (below_step (by repeat (first | (with_reducible first | exact HB.out | apply below_alloc | apply pw_below_drewN | apply below_drew1 | refine below_set ?_ GE121.out) | exact HB.out)) hb); clear BK121; clear HB; have BK121 := n0_; have HB := n1_; clear n0_ n1_; (try clear hb); (try clear hb2); (try clear hk); (try clear hi); have hcz45_0 : w44.cell? ⟨gb121, 0, none⟩ = some (.int .i64 t116) := (blk_cell BK121.out 0).trans rfl; have hcz45_1 : w44.cell? ⟨gb121, 1, none⟩ = some (.int .i64 t117) := (blk_cell BK121.out 1).trans rfl; have hcz45_2 : w44.cell? ⟨gb121, 2, none⟩ = some (.int .i64 t118) := (blk_cell BK121.out 2).trans rfl; have hcz45_3 : w44.cell? ⟨gb121, 3, none⟩ = some (.int .i64 t119) := (blk_cell BK121.out 3).trans rfl; have hcz45_4 : w44.cell? ⟨gb121, 4, none⟩ = some (.int .u8 t120) := (blk_cell BK121.out 4).trans rfl; have hfz45_0 := blk_frozen BK121.out 0; have hfz45_1 := blk_frozen BK121.out 1; have hfz45_2 := blk_frozen BK121.out 2; have hfz45_3 := blk_frozen BK121.out 3; have hfz45_4 := blk_frozen BK121.out 4) | ((with_reducible refine gate_callee (f := 23) rfl ?_); refine goesL_ (some 44) rfl rfl Try.func23 (by kernel_rfl) rfl #[.agg #[.int .i64 t116, .int .i64 t117, .int .i64 t118, .int .i64 t119, .int .u8 t120], .int .i64 (wrap64 (1 + (wrap64 (Int.tmod (IntKind.u64.wrap (a3)) 1000)))), .int .i64 (wrap64 (Int.tmod (IntKind.u64.wrap (a4)) 4))] rfl (by (try simp only [List.map_toArray, List.map_cons, List.map_nil]); first | done | rfl | (simp only [List.length_drop, List.length_take]; rfl)) ?_; (with_reducible refine (meter_Point.calls k t116 t117 t118 t119 t120 (wrap64 (1 + (wrap64 (Int.tmod (IntKind.u64.wrap (a3)) 1000)))) (wrap64 (Int.tmod (IntKind.u64.wrap (a4)) 4)) t124 t125 _ A10.out).mono ?_); rintro e w46 ⟨rfl, hb⟩; refine ⟨_, rfl, ?_⟩; have n0_ := Aside0.mk (blk_below (g := gb121) (o := .cells #[.int .i64 t116, .int .i64 t117, .int .i64 t118, .int .i64 t119, .int .u8 t120] 25 (0, 0)) (by (with_reducible repeat (first | refine blk_drewN ?_ _ | refine blk_drew ?_ | refine blk_alloc ?_ _)); exact BK121.out) hb); have n1_ := Aside0.mk (below_step (by repeat (first | (with_reducible first | exact HB.out | apply below_alloc | apply pw_below_drewN | apply below_drew1 | refine below_set ?_ GE121.out) | exact HB.out)) hb); clear BK121; clear HB; have BK121 := n0_; have HB := n1_; clear n0_ n1_; (try clear hb); (try clear hb2); (try clear hk); (try clear hi); have hcz47_0 : w46.cell? ⟨gb121, 0, none⟩ = some (.int .i64 t116) := (blk_cell BK121.out 0).trans rfl; have hcz47_1 : w46.cell? ⟨gb121, 1, none⟩ = some (.int .i64 t117) := (blk_cell BK121.out 1).trans rfl; have hcz47_2 : w46.cell? ⟨gb121, 2, none⟩ = some (.int .i64 t118) := (blk_cell BK121.out 2).trans rfl; have hcz47_3 : w46.cell? ⟨gb121, 3, none⟩ = some (.int .i64 t119) := (blk_cell BK121.out 3).trans rfl; have hcz47_4 : w46.cell? ⟨gb121, 4, none⟩ = some (.int .u8 t120) := (blk_cell BK121.out 4).trans rfl; have hfz47_0 := blk_frozen BK121.out 0; have hfz47_1 := blk_frozen BK121.out 1; have hfz47_2 := blk_frozen BK121.out 2; have hfz47_3 := blk_frozen BK121.out 3; have hfz47_4 := blk_frozen BK121.out 4) | ((with_reducible refine gate_callee (f := 23) rfl ?_); refine goesL_ (some 53) rfl rfl Try.func23 (by kernel_rfl) rfl #[.agg #[.int .i64 t116, .int .i64 t117, .int .i64 t118, .int .i64 t119, .int .u8 t120], .int .i64 (wrap64 (1 + (wrap64 (Int.tmod (IntKind.u64.wrap (a3)) 1000)))), .int .i64 (Int.tmod (wrap64 ((wrap64 (Int.tmod (IntKind.u64.wrap (a4)) 4)) + 1)) 4)] rfl (by (try simp only [List.map_toArray, List.map_cons, List.map_nil]); first | done | rfl | (simp only [List.length_drop, List.length_take]; rfl)) ?_; (with_reducible refine (meter_Point.calls k t116 t117 t118 t119 t120 (wrap64 (1 + (wrap64 (Int.tmod (IntKind.u64.wrap (a3)) 1000)))) (Int.tmod (wrap64 ((wrap64 (Int.tmod (IntKind.u64.wrap (a4)) 4)) + 1)) 4) t126 t127 _ A11.out).mono ?_); rintro e w48 ⟨rfl, hb⟩; refine ⟨_, rfl, ?_⟩; have n0_ := Aside0.mk (blk_below (g := gb121) (o := .cells #[.int .i64 t116, .int .i64 t117, .int .i64 t118, .int .i64 t119, .int .u8 t120] 25 (0, 0)) (by (with_reducible repeat (first | refine blk_drewN ?_ _ | refine blk_drew ?_ | refine blk_alloc ?_ _)); exact BK121.out) hb); have n1_ := Aside0.mk (below_step (by repeat (first | (with_reducible first | exact HB.out | apply below_alloc | apply pw_below_drewN | apply below_drew1 | refine below_set ?_ GE121.out) | exact HB.out)) hb); clear BK121; clear HB; have BK121 := n0_; have HB := n1_; clear n0_ n1_; (try clear hb); (try clear hb2); (try clear hk); (try clear hi)) | (go_at_call 29; (with_reducible refine (meter_Fits.calls t124 false _ A15.out).mono ?_); rintro e w49 ⟨rfl, hb⟩; have n0_ := Aside0.mk (blk_below (g := gb121) (o := .cells #[.int .i64 t116, .int .i64 t117, .int .i64 t118, .int .i64 t119, .int .u8 t120] 25 (0, 0)) (by (with_reducible repeat (first | refine blk_drewN ?_ _ | refine blk_drew ?_ | refine blk_alloc ?_ _)); exact BK121.out) hb); have n1_ := Aside0.mk (below_step (by repeat (first | (with_reducible first | exact HB.out | apply below_alloc | apply pw_below_drewN | apply below_drew1 | refine below_set ?_ GE121.out) | exact HB.out)) hb); clear BK121; clear HB; have BK121 := n0_; have HB := n1_; clear n0_ n1_; (try clear hb); (try clear hb2); (try clear hk); (try clear hi)))
            go_ret
            exact ⟨by first | rfl | (simp [errW_none, errW_some] <;> rfl) | (simp [*, errW_none, errW_some] <;> rfl), by repeat (first | (with_reducible first | exact HB.out | apply below_alloc | apply pw_below_drewN | apply below_drew1 | refine below_set ?_ GE121.out) | exact HB.out)⟩
        · rw [if_neg c14] at H
          have c14b0 : (t127 == 0) = false := beq_eq_false_iff_ne.mpr c14
          have c14b1 : (t127 != 0) = true := bne_iff_ne.mpr c14
          obtain rfl := Option.some.inj H
          go_enter Try.func5, Try.ntmps5
          go_wp2_with (first | ((with_reducible refine gate_callee (f := 20) rfl ?_); refine goesL_ (some 19) rfl rfl Try.func20 (by kernel_rfl) rfl #[] rfl (by (try simp only [List.map_toArray, List.map_cons, List.map_nil]); first | done | rfl | (simp only [List.length_drop, List.length_take]; rfl)) ?_; (with_reducible refine (pylonlaw12_awake.calls k  true _ A6.out).mono ?_); rintro e w50 ⟨rfl, hb⟩; refine ⟨_, rfl, ?_⟩; have n0_ := Aside0.mk (below_step (by repeat (first | (with_reducible first | exact HB.out | apply below_alloc | apply pw_below_drewN | apply below_drew1) | exact HB.out)) hb); clear HB; have HB := n0_; clear n0_; (try clear hb); (try clear hb2); (try clear hk); (try clear hi)) | ((with_reducible refine gate_callee (f := 28) rfl ?_); refine goesL_ (some 24) rfl rfl Try.func28 (by kernel_rfl) rfl #[.int .i64 a0, .int .i64 a1, .int .i64 a2] rfl (by (try simp only [List.map_toArray, List.map_cons, List.map_nil]); first | done | rfl | (simp only [List.length_drop, List.length_take]; rfl)) ?_; (with_reducible refine (pylonlaw12_read.calls a0 a1 a2 t116 t117 t118 t119 t120 _ A8.out).mono ?_); rintro e w51 ⟨rfl, hb⟩; refine ⟨_, rfl, ?_⟩; have n0_ := Aside0.mk (below_step (by repeat (first | (with_reducible first | exact HB.out | apply below_alloc | apply pw_below_drewN | apply below_drew1) | exact HB.out)) hb); clear HB; have HB := n0_; clear n0_; (try clear hb); (try clear hb2); (try clear hk); (try clear hi)) | ((with_reducible refine gate_dst (N := 11) rfl ?_); (try (refine gate_guard (by rfl) ?_; dsimp only)); refine box_event ?hg (N := 11) ?hd (cs := #[.int .i64 0, .int .i64 0, .int .i64 0, .int .i64 0, .int .u8 0]) (t := 25) ?hr ?_; (case hd => rfl); (case hg => rfl); (case hr => first | (go_simp; done) | (go_simp; rfl)); intro gb121 hg w52 hbox hb; have n0_ := Aside0.mk (below_step (by repeat (first | (with_reducible first | exact HB.out | apply below_alloc | apply pw_below_drewN | apply below_drew1) | exact HB.out)) hb); have n1_ := Aside0.mk (hbox); have n2_ := Aside0.mk ((by rw [hg]; exact (below_size (by repeat (first | (with_reducible first | exact HB.out | apply below_alloc | apply pw_below_drewN | apply below_drew1) | exact HB.out))) : w.heap.size ≤ gb121)); have n3_ := Aside0.mk ((by rw [hg]; exact (below_size (by repeat (first | (with_reducible first | exact HB.out | apply below_alloc | apply pw_below_drewN | apply below_drew1) | exact HB.out))) : w.heap.size ≤ gb121)); clear HB; have HB := n0_; have BK121 := n1_; have GW121 := n2_; have GE121 := n3_; clear n0_ n1_ n2_ n3_; clear hb hbox hg; have hcz53_0 : w52.cell? ⟨gb121, 0, none⟩ = some (.int .i64 0) := (blk_cell BK121.out 0).trans rfl; have hcz53_1 : w52.cell? ⟨gb121, 1, none⟩ = some (.int .i64 0) := (blk_cell BK121.out 1).trans rfl; have hcz53_2 : w52.cell? ⟨gb121, 2, none⟩ = some (.int .i64 0) := (blk_cell BK121.out 2).trans rfl; have hcz53_3 : w52.cell? ⟨gb121, 3, none⟩ = some (.int .i64 0) := (blk_cell BK121.out 3).trans rfl; have hcz53_4 : w52.cell? ⟨gb121, 4, none⟩ = some (.int .u8 0) := (blk_cell BK121.out 4).trans rfl; have hfz53_0 := blk_frozen BK121.out 0; have hfz53_1 := blk_frozen BK121.out 1; have hfz53_2 := blk_frozen BK121.out 2; have hfz53_3 := blk_frozen BK121.out 3; have hfz53_4 := blk_frozen BK121.out 4) | ((with_reducible refine gate_callee (f := 23) rfl ?_); refine goesL_ (some 37) rfl rfl Try.func23 (by kernel_rfl) rfl #[.agg #[.int .i64 t116, .int .i64 t117, .int .i64 t118, .int .i64 t119, .int .u8 t120], .int .i64 1, .int .i64 (wrap64 (Int.tmod (IntKind.u64.wrap (a4)) 4))] rfl (by (try simp only [List.map_toArray, List.map_cons, List.map_nil]); first | done | rfl | (simp only [List.length_drop, List.length_take]; rfl)) ?_; (with_reducible refine (meter_Point.calls k t116 t117 t118 t119 t120 1 (wrap64 (Int.tmod (IntKind.u64.wrap (a4)) 4)) t122 t123 _ A9.out).mono ?_); rintro e w54 ⟨rfl, hb⟩; refine ⟨_, rfl, ?_⟩; have n0_ := Aside0.mk (blk_below (g := gb121) (o := .cells #[.int .i64 t116, .int .i64 t117, .int .i64 t118, .int .i64 t119, .int .u8 t120] 25 (0, 0)) (by (with_reducible repeat (first | refine blk_drewN ?_ _ | refine blk_drew ?_ | refine blk_alloc ?_ _)); refine blk_put (cs := #[.int .i64 t116, .int .i64 t117, .int .i64 t118, .int .i64 t119, .int .u8 0]) ?_ 4 _ rfl; (with_reducible repeat (first | refine blk_drewN ?_ _ | refine blk_drew ?_ | refine blk_alloc ?_ _)); refine blk_put (cs := #[.int .i64 t116, .int .i64 t117, .int .i64 t118, .int .i64 0, .int .u8 0]) ?_ 3 _ rfl; (with_reducible repeat (first | refine blk_drewN ?_ _ | refine blk_drew ?_ | refine blk_alloc ?_ _)); refine blk_put (cs := #[.int .i64 t116, .int .i64 t117, .int .i64 0, .int .i64 0, .int .u8 0]) ?_ 2 _ rfl; (with_reducible repeat (first | refine blk_drewN ?_ _ | refine blk_drew ?_ | refine blk_alloc ?_ _)); refine blk_put (cs := #[.int .i64 t116, .int .i64 0, .int .i64 0, .int .i64 0, .int .u8 0]) ?_ 1 _ rfl; (with_reducible repeat (first | refine blk_drewN ?_ _ | refine blk_drew ?_ | refine blk_alloc ?_ _)); refine blk_put (cs := #[.int .i64 0, .int .i64 0, .int .i64 0, .int .i64 0, .int .u8 0]) ?_ 0 _ rfl; (with_reducible repeat (first | refine blk_drewN ?_ _ | refine blk_drew ?_ | refine blk_alloc ?_ _)); exact BK121.out) hb); have n1_ := Aside0.mk (below_step (by repeat (first | (with_reducible first | exact HB.out | apply below_alloc | apply pw_below_drewN | apply below_drew1 | refine below_set ?_ GE121.out) | exact HB.out)) hb); clear BK121; clear HB; have BK121 := n0_; have HB := n1_; clear n0_ n1_; (try clear hb); (try clear hb2); (try clear hk); (try clear hi); have hcz55_0 : w54.cell? ⟨gb121, 0, none⟩ = some (.int .i64 t116) := (blk_cell BK121.out 0).trans rfl; have hcz55_1 : w54.cell? ⟨gb121, 1, none⟩ = some (.int .i64 t117) := (blk_cell BK121.out 1).trans rfl; have hcz55_2 : w54.cell? ⟨gb121, 2, none⟩ = some (.int .i64 t118) := (blk_cell BK121.out 2).trans rfl; have hcz55_3 : w54.cell? ⟨gb121, 3, none⟩ = some (.int .i64 t119) := (blk_cell BK121.out 3).trans rfl; have hcz55_4 : w54.cell? ⟨gb121, 4, none⟩ = some (.int .u8 t120) := (blk_cell BK121.out 4).trans rfl; have hfz55_0 := blk_frozen BK121.out 0; have hfz55_1 := blk_frozen BK121.out 1; have hfz55_2 := blk_frozen BK121.out 2; have hfz55_3 := blk_frozen BK121.out 3; have hfz55_4 := blk_frozen BK121.out 4) | ((with_reducible refine gate_callee (f := 23) rfl ?_); refine goesL_ (some 44) rfl rfl Try.func23 (by kernel_rfl) rfl #[.agg #[.int .i64 t116, .int .i64 t117, .int .i64 t118, .int .i64 t119, .int .u8 t120], .int .i64 (wrap64 (1 + (wrap64 (Int.tmod (IntKind.u64.wrap (a3)) 1000)))), .int .i64 (wrap64 (Int.tmod (IntKind.u64.wrap (a4)) 4))] rfl (by (try simp only [List.map_toArray, List.map_cons, List.map_nil]); first | done | rfl | (simp only [List.length_drop, List.length_take]; rfl)) ?_; (with_reducible refine (meter_Point.calls k t116 t117 t118 t119 t120 (wrap64 (1 + (wrap64 (Int.tmod (IntKind.u64.wrap (a3)) 1000)))) (wrap64 (Int.tmod (IntKind.u64.wrap (a4)) 4)) t124 t125 _ A10.out).mono ?_); rintro e w56 ⟨rfl, hb⟩; refine ⟨_, rfl, ?_⟩; have n0_ := Aside0.mk (blk_below (g := gb121) (o := .cells #[.int .i64 t116, .int .i64 t117, .int .i64 t118, .int .i64 t119, .int .u8 t120] 25 (0, 0)) (by (with_reducible repeat (first | refine blk_drewN ?_ _ | refine blk_drew ?_ | refine blk_alloc ?_ _)); exact BK121.out) hb); have n1_ := Aside0.mk (below_step (by repeat (first | (with_reducible first | exact HB.out | apply below_alloc | apply pw_below_drewN | apply below_drew1 | refine below_set ?_ GE121.out) | exact HB.out)) hb); clear BK121; clear HB; have BK121 := n0_; have HB := n1_; clear n0_ n1_; (try clear hb); (try clear hb2); (try clear hk); (try clear hi); have hcz57_0 : w56.cell? ⟨gb121, 0, none⟩ = some (.int .i64 t116) := (blk_cell BK121.out 0).trans rfl; have hcz57_1 : w56.cell? ⟨gb121, 1, none⟩ = some (.int .i64 t117) := (blk_cell BK121.out 1).trans rfl; have hcz57_2 : w56.cell? ⟨gb121, 2, none⟩ = some (.int .i64 t118) := (blk_cell BK121.out 2).trans rfl; have hcz57_3 : w56.cell? ⟨gb121, 3, none⟩ = some (.int .i64 t119) := (blk_cell BK121.out 3).trans rfl; have hcz57_4 : w56.cell? ⟨gb121, 4, none⟩ = some (.int .u8 t120) := (blk_cell BK121.out 4).trans rfl; have hfz57_0 := blk_frozen BK121.out 0; have hfz57_1 := blk_frozen BK121.out 1; have hfz57_2 := blk_frozen BK121.out 2; have hfz57_3 := blk_frozen BK121.out 3; have hfz57_4 := blk_frozen BK121.out 4) | ((with_reducible refine gate_callee (f := 23) rfl ?_); refine goesL_ (some 53) rfl rfl Try.func23 (by kernel_rfl) rfl #[.agg #[.int .i64 t116, .int .i64 t117, .int .i64 t118, .int .i64 t119, .int .u8 t120], .int .i64 (wrap64 (1 + (wrap64 (Int.tmod (IntKind.u64.wrap (a3)) 1000)))), .int .i64 (Int.tmod (wrap64 ((wrap64 (Int.tmod (IntKind.u64.wrap (a4)) 4)) + 1)) 4)] rfl (by (try simp only [List.map_toArray, List.map_cons, List.map_nil]); first | done | rfl | (simp only [List.length_drop, List.length_take]; rfl)) ?_; (with_reducible refine (meter_Point.calls k t116 t117 t118 t119 t120 (wrap64 (1 + (wrap64 (Int.tmod (IntKind.u64.wrap (a3)) 1000)))) (Int.tmod (wrap64 ((wrap64 (Int.tmod (IntKind.u64.wrap (a4)) 4)) + 1)) 4) t126 t127 _ A11.out).mono ?_); rintro e w58 ⟨rfl, hb⟩; refine ⟨_, rfl, ?_⟩; have n0_ := Aside0.mk (blk_below (g := gb121) (o := .cells #[.int .i64 t116, .int .i64 t117, .int .i64 t118, .int .i64 t119, .int .u8 t120] 25 (0, 0)) (by (with_reducible repeat (first | refine blk_drewN ?_ _ | refine blk_drew ?_ | refine blk_alloc ?_ _)); exact BK121.out) hb); have n1_ := Aside0.mk (below_step (by repeat (first | (with_reducible first | exact HB.out | apply below_alloc | apply pw_below_drewN | apply below_drew1 | refine below_set ?_ GE121.out) | exact HB.out)) hb); clear BK121; clear HB; have BK121 := n0_; have HB := n1_; clear n0_ n1_; (try clear hb); (try clear hb2); (try clear hk); (try clear hi)))
          go_ret
          exact ⟨by first | rfl | (simp [errW_none, errW_some] <;> rfl) | (simp [*, errW_none, errW_some] <;> rfl), by repeat (first | (with_reducible first | exact HB.out | apply below_alloc | apply pw_below_drewN | apply below_drew1 | refine below_set ?_ GE121.out) | exact HB.out)⟩
      · rw [if_neg c13] at H
        have c13b0 : (t125 == 0) = false := beq_eq_false_iff_ne.mpr c13
        have c13b1 : (t125 != 0) = true := bne_iff_ne.mpr c13
        obtain rfl := Option.some.inj H
        go_enter Try.func5, Try.ntmps5
        go_wp2_with (first | ((with_reducible refine gate_callee (f := 20) rfl ?_); refine goesL_ (some 19) rfl rfl Try.func20 (by kernel_rfl) rfl #[] rfl (by (try simp only [List.map_toArray, List.map_cons, List.map_nil]); first | done | rfl | (simp only [List.length_drop, List.length_take]; rfl)) ?_; (with_reducible refine (pylonlaw12_awake.calls k  true _ A6.out).mono ?_); rintro e w59 ⟨rfl, hb⟩; refine ⟨_, rfl, ?_⟩; have n0_ := Aside0.mk (below_step (by repeat (first | (with_reducible first | exact HB.out | apply below_alloc | apply pw_below_drewN | apply below_drew1) | exact HB.out)) hb); clear HB; have HB := n0_; clear n0_; (try clear hb); (try clear hb2); (try clear hk); (try clear hi)) | ((with_reducible refine gate_callee (f := 28) rfl ?_); refine goesL_ (some 24) rfl rfl Try.func28 (by kernel_rfl) rfl #[.int .i64 a0, .int .i64 a1, .int .i64 a2] rfl (by (try simp only [List.map_toArray, List.map_cons, List.map_nil]); first | done | rfl | (simp only [List.length_drop, List.length_take]; rfl)) ?_; (with_reducible refine (pylonlaw12_read.calls a0 a1 a2 t116 t117 t118 t119 t120 _ A8.out).mono ?_); rintro e w60 ⟨rfl, hb⟩; refine ⟨_, rfl, ?_⟩; have n0_ := Aside0.mk (below_step (by repeat (first | (with_reducible first | exact HB.out | apply below_alloc | apply pw_below_drewN | apply below_drew1) | exact HB.out)) hb); clear HB; have HB := n0_; clear n0_; (try clear hb); (try clear hb2); (try clear hk); (try clear hi)) | ((with_reducible refine gate_dst (N := 11) rfl ?_); (try (refine gate_guard (by rfl) ?_; dsimp only)); refine box_event ?hg (N := 11) ?hd (cs := #[.int .i64 0, .int .i64 0, .int .i64 0, .int .i64 0, .int .u8 0]) (t := 25) ?hr ?_; (case hd => rfl); (case hg => rfl); (case hr => first | (go_simp; done) | (go_simp; rfl)); intro gb121 hg w61 hbox hb; have n0_ := Aside0.mk (below_step (by repeat (first | (with_reducible first | exact HB.out | apply below_alloc | apply pw_below_drewN | apply below_drew1) | exact HB.out)) hb); have n1_ := Aside0.mk (hbox); have n2_ := Aside0.mk ((by rw [hg]; exact (below_size (by repeat (first | (with_reducible first | exact HB.out | apply below_alloc | apply pw_below_drewN | apply below_drew1) | exact HB.out))) : w.heap.size ≤ gb121)); have n3_ := Aside0.mk ((by rw [hg]; exact (below_size (by repeat (first | (with_reducible first | exact HB.out | apply below_alloc | apply pw_below_drewN | apply below_drew1) | exact HB.out))) : w.heap.size ≤ gb121)); clear HB; have HB := n0_; have BK121 := n1_; have GW121 := n2_; have GE121 := n3_; clear n0_ n1_ n2_ n3_; clear hb hbox hg; have hcz62_0 : w61.cell? ⟨gb121, 0, none⟩ = some (.int .i64 0) := (blk_cell BK121.out 0).trans rfl; have hcz62_1 : w61.cell? ⟨gb121, 1, none⟩ = some (.int .i64 0) := (blk_cell BK121.out 1).trans rfl; have hcz62_2 : w61.cell? ⟨gb121, 2, none⟩ = some (.int .i64 0) := (blk_cell BK121.out 2).trans rfl; have hcz62_3 : w61.cell? ⟨gb121, 3, none⟩ = some (.int .i64 0) := (blk_cell BK121.out 3).trans rfl; have hcz62_4 : w61.cell? ⟨gb121, 4, none⟩ = some (.int .u8 0) := (blk_cell BK121.out 4).trans rfl; have hfz62_0 := blk_frozen BK121.out 0; have hfz62_1 := blk_frozen BK121.out 1; have hfz62_2 := blk_frozen BK121.out 2; have hfz62_3 := blk_frozen BK121.out 3; have hfz62_4 := blk_frozen BK121.out 4) | ((with_reducible refine gate_callee (f := 23) rfl ?_); refine goesL_ (some 37) rfl rfl Try.func23 (by kernel_rfl) rfl #[.agg #[.int .i64 t116, .int .i64 t117, .int .i64 t118, .int .i64 t119, .int .u8 t120], .int .i64 1, .int .i64 (wrap64 (Int.tmod (IntKind.u64.wrap (a4)) 4))] rfl (by (try simp only [List.map_toArray, List.map_cons, List.map_nil]); first | done | rfl | (simp only [List.length_drop, List.length_take]; rfl)) ?_; (with_reducible refine (meter_Point.calls k t116 t117 t118 t119 t120 1 (wrap64 (Int.tmod (IntKind.u64.wrap (a4)) 4)) t122 t123 _ A9.out).mono ?_); rintro e w63 ⟨rfl, hb⟩; refine ⟨_, rfl, ?_⟩; have n0_ := Aside0.mk (blk_below (g := gb121) (o := .cells #[.int .i64 t116, .int .i64 t117, .int .i64 t118, .int .i64 t119, .int .u8 t120] 25 (0, 0)) (by (with_reducible repeat (first | refine blk_drewN ?_ _ | refine blk_drew ?_ | refine blk_alloc ?_ _)); refine blk_put (cs := #[.int .i64 t116, .int .i64 t117, .int .i64 t118, .int .i64 t119, .int .u8 0]) ?_ 4 _ rfl; (with_reducible repeat (first | refine blk_drewN ?_ _ | refine blk_drew ?_ | refine blk_alloc ?_ _)); refine blk_put (cs := #[.int .i64 t116, .int .i64 t117, .int .i64 t118, .int .i64 0, .int .u8 0]) ?_ 3 _ rfl; (with_reducible repeat (first | refine blk_drewN ?_ _ | refine blk_drew ?_ | refine blk_alloc ?_ _)); refine blk_put (cs := #[.int .i64 t116, .int .i64 t117, .int .i64 0, .int .i64 0, .int .u8 0]) ?_ 2 _ rfl; (with_reducible repeat (first | refine blk_drewN ?_ _ | refine blk_drew ?_ | refine blk_alloc ?_ _)); refine blk_put (cs := #[.int .i64 t116, .int .i64 0, .int .i64 0, .int .i64 0, .int .u8 0]) ?_ 1 _ rfl; (with_reducible repeat (first | refine blk_drewN ?_ _ | refine blk_drew ?_ | refine blk_alloc ?_ _)); refine blk_put (cs := #[.int .i64 0, .int .i64 0, .int .i64 0, .int .i64 0, .int .u8 0]) ?_ 0 _ rfl; (with_reducible repeat (first | refine blk_drewN ?_ _ | refine blk_drew ?_ | refine blk_alloc ?_ _)); exact BK121.out) hb); have n1_ := Aside0.mk (below_step (by repeat (first | (with_reducible first | exact HB.out | apply below_alloc | apply pw_below_drewN | apply below_drew1 | refine below_set ?_ GE121.out) | exact HB.out)) hb); clear BK121; clear HB; have BK121 := n0_; have HB := n1_; clear n0_ n1_; (try clear hb); (try clear hb2); (try clear hk); (try clear hi); have hcz64_0 : w63.cell? ⟨gb121, 0, none⟩ = some (.int .i64 t116) := (blk_cell BK121.out 0).trans rfl; have hcz64_1 : w63.cell? ⟨gb121, 1, none⟩ = some (.int .i64 t117) := (blk_cell BK121.out 1).trans rfl; have hcz64_2 : w63.cell? ⟨gb121, 2, none⟩ = some (.int .i64 t118) := (blk_cell BK121.out 2).trans rfl; have hcz64_3 : w63.cell? ⟨gb121, 3, none⟩ = some (.int .i64 t119) := (blk_cell BK121.out 3).trans rfl; have hcz64_4 : w63.cell? ⟨gb121, 4, none⟩ = some (.int .u8 t120) := (blk_cell BK121.out 4).trans rfl; have hfz64_0 := blk_frozen BK121.out 0; have hfz64_1 := blk_frozen BK121.out 1; have hfz64_2 := blk_frozen BK121.out 2; have hfz64_3 := blk_frozen BK121.out 3; have hfz64_4 := blk_frozen BK121.out 4) | ((with_reducible refine gate_callee (f := 23) rfl ?_); refine goesL_ (some 44) rfl rfl Try.func23 (by kernel_rfl) rfl #[.agg #[.int .i64 t116, .int .i64 t117, .int .i64 t118, .int .i64 t119, .int .u8 t120], .int .i64 (wrap64 (1 + (wrap64 (Int.tmod (IntKind.u64.wrap (a3)) 1000)))), .int .i64 (wrap64 (Int.tmod (IntKind.u64.wrap (a4)) 4))] rfl (by (try simp only [List.map_toArray, List.map_cons, List.map_nil]); first | done | rfl | (simp only [List.length_drop, List.length_take]; rfl)) ?_; (with_reducible refine (meter_Point.calls k t116 t117 t118 t119 t120 (wrap64 (1 + (wrap64 (Int.tmod (IntKind.u64.wrap (a3)) 1000)))) (wrap64 (Int.tmod (IntKind.u64.wrap (a4)) 4)) t124 t125 _ A10.out).mono ?_); rintro e w65 ⟨rfl, hb⟩; refine ⟨_, rfl, ?_⟩; have n0_ := Aside0.mk (blk_below (g := gb121) (o := .cells #[.int .i64 t116, .int .i64 t117, .int .i64 t118, .int .i64 t119, .int .u8 t120] 25 (0, 0)) (by (with_reducible repeat (first | refine blk_drewN ?_ _ | refine blk_drew ?_ | refine blk_alloc ?_ _)); exact BK121.out) hb); have n1_ := Aside0.mk (below_step (by repeat (first | (with_reducible first | exact HB.out | apply below_alloc | apply pw_below_drewN | apply below_drew1 | refine below_set ?_ GE121.out) | exact HB.out)) hb); clear BK121; clear HB; have BK121 := n0_; have HB := n1_; clear n0_ n1_; (try clear hb); (try clear hb2); (try clear hk); (try clear hi); have hcz66_0 : w65.cell? ⟨gb121, 0, none⟩ = some (.int .i64 t116) := (blk_cell BK121.out 0).trans rfl; have hcz66_1 : w65.cell? ⟨gb121, 1, none⟩ = some (.int .i64 t117) := (blk_cell BK121.out 1).trans rfl; have hcz66_2 : w65.cell? ⟨gb121, 2, none⟩ = some (.int .i64 t118) := (blk_cell BK121.out 2).trans rfl; have hcz66_3 : w65.cell? ⟨gb121, 3, none⟩ = some (.int .i64 t119) := (blk_cell BK121.out 3).trans rfl; have hcz66_4 : w65.cell? ⟨gb121, 4, none⟩ = some (.int .u8 t120) := (blk_cell BK121.out 4).trans rfl; have hfz66_0 := blk_frozen BK121.out 0; have hfz66_1 := blk_frozen BK121.out 1; have hfz66_2 := blk_frozen BK121.out 2; have hfz66_3 := blk_frozen BK121.out 3; have hfz66_4 := blk_frozen BK121.out 4) | ((with_reducible refine gate_callee (f := 23) rfl ?_); refine goesL_ (some 53) rfl rfl Try.func23 (by kernel_rfl) rfl #[.agg #[.int .i64 t116, .int .i64 t117, .int .i64 t118, .int .i64 t119, .int .u8 t120], .int .i64 (wrap64 (1 + (wrap64 (Int.tmod (IntKind.u64.wrap (a3)) 1000)))), .int .i64 (Int.tmod (wrap64 ((wrap64 (Int.tmod (IntKind.u64.wrap (a4)) 4)) + 1)) 4)] rfl (by (try simp only [List.map_toArray, List.map_cons, List.map_nil]); first | done | rfl | (simp only [List.length_drop, List.length_take]; rfl)) ?_; (with_reducible refine (meter_Point.calls k t116 t117 t118 t119 t120 (wrap64 (1 + (wrap64 (Int.tmod (IntKind.u64.wrap (a3)) 1000)))) (Int.tmod (wrap64 ((wrap64 (Int.tmod (IntKind.u64.wrap (a4)) 4)) + 1)) 4) t126 t127 _ A11.out).mono ?_); rintro e w67 ⟨rfl, hb⟩; refine ⟨_, rfl, ?_⟩; have n0_ := Aside0.mk (blk_below (g := gb121) (o := .cells #[.int .i64 t116, .int .i64 t117, .int .i64 t118, .int .i64 t119, .int .u8 t120] 25 (0, 0)) (by (with_reducible repeat (first | refine blk_drewN ?_ _ | refine blk_drew ?_ | refine blk_alloc ?_ _)); exact BK121.out) hb); have n1_ := Aside0.mk (below_step (by repeat (first | (with_reducible first | exact HB.out | apply below_alloc | apply pw_below_drewN | apply below_drew1 | refine below_set ?_ GE121.out) | exact HB.out)) hb); clear BK121; clear HB; have BK121 := n0_; have HB := n1_; clear n0_ n1_; (try clear hb); (try clear hb2); (try clear hk); (try clear hi)))
        go_ret
        exact ⟨by first | rfl | (simp [errW_none, errW_some] <;> rfl) | (simp [*, errW_none, errW_some] <;> rfl), by repeat (first | (with_reducible first | exact HB.out | apply below_alloc | apply pw_below_drewN | apply below_drew1 | refine below_set ?_ GE121.out) | exact HB.out)⟩
    · rw [if_neg c12] at H
      have c12b0 : (t123 == 0) = false := beq_eq_false_iff_ne.mpr c12
      have c12b1 : (t123 != 0) = true := bne_iff_ne.mpr c12
      obtain rfl := Option.some.inj H
      go_enter Try.func5, Try.ntmps5
      go_wp2_with (first | ((with_reducible refine gate_callee (f := 20) rfl ?_); refine goesL_ (some 19) rfl rfl Try.func20 (by kernel_rfl) rfl #[] rfl (by (try simp only [List.map_toArray, List.map_cons, List.map_nil]); first | done | rfl | (simp only [List.length_drop, List.length_take]; rfl)) ?_; (with_reducible refine (pylonlaw12_awake.calls k  true _ A6.out).mono ?_); rintro e w68 ⟨rfl, hb⟩; refine ⟨_, rfl, ?_⟩; have n0_ := Aside0.mk (below_step (by repeat (first | (with_reducible first | exact HB.out | apply below_alloc | apply pw_below_drewN | apply below_drew1) | exact HB.out)) hb); clear HB; have HB := n0_; clear n0_; (try clear hb); (try clear hb2); (try clear hk); (try clear hi)) | ((with_reducible refine gate_callee (f := 28) rfl ?_); refine goesL_ (some 24) rfl rfl Try.func28 (by kernel_rfl) rfl #[.int .i64 a0, .int .i64 a1, .int .i64 a2] rfl (by (try simp only [List.map_toArray, List.map_cons, List.map_nil]); first | done | rfl | (simp only [List.length_drop, List.length_take]; rfl)) ?_; (with_reducible refine (pylonlaw12_read.calls a0 a1 a2 t116 t117 t118 t119 t120 _ A8.out).mono ?_); rintro e w69 ⟨rfl, hb⟩; refine ⟨_, rfl, ?_⟩; have n0_ := Aside0.mk (below_step (by repeat (first | (with_reducible first | exact HB.out | apply below_alloc | apply pw_below_drewN | apply below_drew1) | exact HB.out)) hb); clear HB; have HB := n0_; clear n0_; (try clear hb); (try clear hb2); (try clear hk); (try clear hi)) | ((with_reducible refine gate_dst (N := 11) rfl ?_); (try (refine gate_guard (by rfl) ?_; dsimp only)); refine box_event ?hg (N := 11) ?hd (cs := #[.int .i64 0, .int .i64 0, .int .i64 0, .int .i64 0, .int .u8 0]) (t := 25) ?hr ?_; (case hd => rfl); (case hg => rfl); (case hr => first | (go_simp; done) | (go_simp; rfl)); intro gb121 hg w70 hbox hb; have n0_ := Aside0.mk (below_step (by repeat (first | (with_reducible first | exact HB.out | apply below_alloc | apply pw_below_drewN | apply below_drew1) | exact HB.out)) hb); have n1_ := Aside0.mk (hbox); have n2_ := Aside0.mk ((by rw [hg]; exact (below_size (by repeat (first | (with_reducible first | exact HB.out | apply below_alloc | apply pw_below_drewN | apply below_drew1) | exact HB.out))) : w.heap.size ≤ gb121)); have n3_ := Aside0.mk ((by rw [hg]; exact (below_size (by repeat (first | (with_reducible first | exact HB.out | apply below_alloc | apply pw_below_drewN | apply below_drew1) | exact HB.out))) : w.heap.size ≤ gb121)); clear HB; have HB := n0_; have BK121 := n1_; have GW121 := n2_; have GE121 := n3_; clear n0_ n1_ n2_ n3_; clear hb hbox hg; have hcz71_0 : w70.cell? ⟨gb121, 0, none⟩ = some (.int .i64 0) := (blk_cell BK121.out 0).trans rfl; have hcz71_1 : w70.cell? ⟨gb121, 1, none⟩ = some (.int .i64 0) := (blk_cell BK121.out 1).trans rfl; have hcz71_2 : w70.cell? ⟨gb121, 2, none⟩ = some (.int .i64 0) := (blk_cell BK121.out 2).trans rfl; have hcz71_3 : w70.cell? ⟨gb121, 3, none⟩ = some (.int .i64 0) := (blk_cell BK121.out 3).trans rfl; have hcz71_4 : w70.cell? ⟨gb121, 4, none⟩ = some (.int .u8 0) := (blk_cell BK121.out 4).trans rfl; have hfz71_0 := blk_frozen BK121.out 0; have hfz71_1 := blk_frozen BK121.out 1; have hfz71_2 := blk_frozen BK121.out 2; have hfz71_3 := blk_frozen BK121.out 3; have hfz71_4 := blk_frozen BK121.out 4) | ((with_reducible refine gate_callee (f := 23) rfl ?_); refine goesL_ (some 37) rfl rfl Try.func23 (by kernel_rfl) rfl #[.agg #[.int .i64 t116, .int .i64 t117, .int .i64 t118, .int .i64 t119, .int .u8 t120], .int .i64 1, .int .i64 (wrap64 (Int.tmod (IntKind.u64.wrap (a4)) 4))] rfl (by (try simp only [List.map_toArray, List.map_cons, List.map_nil]); first | done | rfl | (simp only [List.length_drop, List.length_take]; rfl)) ?_; (with_reducible refine (meter_Point.calls k t116 t117 t118 t119 t120 1 (wrap64 (Int.tmod (IntKind.u64.wrap (a4)) 4)) t122 t123 _ A9.out).mono ?_); rintro e w72 ⟨rfl, hb⟩; refine ⟨_, rfl, ?_⟩; have n0_ := Aside0.mk (blk_below (g := gb121) (o := .cells #[.int .i64 t116, .int .i64 t117, .int .i64 t118, .int .i64 t119, .int .u8 t120] 25 (0, 0)) (by (with_reducible repeat (first | refine blk_drewN ?_ _ | refine blk_drew ?_ | refine blk_alloc ?_ _)); refine blk_put (cs := #[.int .i64 t116, .int .i64 t117, .int .i64 t118, .int .i64 t119, .int .u8 0]) ?_ 4 _ rfl; (with_reducible repeat (first | refine blk_drewN ?_ _ | refine blk_drew ?_ | refine blk_alloc ?_ _)); refine blk_put (cs := #[.int .i64 t116, .int .i64 t117, .int .i64 t118, .int .i64 0, .int .u8 0]) ?_ 3 _ rfl; (with_reducible repeat (first | refine blk_drewN ?_ _ | refine blk_drew ?_ | refine blk_alloc ?_ _)); refine blk_put (cs := #[.int .i64 t116, .int .i64 t117, .int .i64 0, .int .i64 0, .int .u8 0]) ?_ 2 _ rfl; (with_reducible repeat (first | refine blk_drewN ?_ _ | refine blk_drew ?_ | refine blk_alloc ?_ _)); refine blk_put (cs := #[.int .i64 t116, .int .i64 0, .int .i64 0, .int .i64 0, .int .u8 0]) ?_ 1 _ rfl; (with_reducible repeat (first | refine blk_drewN ?_ _ | refine blk_drew ?_ | refine blk_alloc ?_ _)); refine blk_put (cs := #[.int .i64 0, .int .i64 0, .int .i64 0, .int .i64 0, .int .u8 0]) ?_ 0 _ rfl; (with_reducible repeat (first | refine blk_drewN ?_ _ | refine blk_drew ?_ | refine blk_alloc ?_ _)); exact BK121.out) hb); have n1_ := Aside0.mk (below_step (by repeat (first | (with_reducible first | exact HB.out | apply below_alloc | apply pw_below_drewN | apply below_drew1 | refine below_set ?_ GE121.out) | exact HB.out)) hb); clear BK121; clear HB; have BK121 := n0_; have HB := n1_; clear n0_ n1_; (try clear hb); (try clear hb2); (try clear hk); (try clear hi); have hcz73_0 : w72.cell? ⟨gb121, 0, none⟩ = some (.int .i64 t116) := (blk_cell BK121.out 0).trans rfl; have hcz73_1 : w72.cell? ⟨gb121, 1, none⟩ = some (.int .i64 t117) := (blk_cell BK121.out 1).trans rfl; have hcz73_2 : w72.cell? ⟨gb121, 2, none⟩ = some (.int .i64 t118) := (blk_cell BK121.out 2).trans rfl; have hcz73_3 : w72.cell? ⟨gb121, 3, none⟩ = some (.int .i64 t119) := (blk_cell BK121.out 3).trans rfl; have hcz73_4 : w72.cell? ⟨gb121, 4, none⟩ = some (.int .u8 t120) := (blk_cell BK121.out 4).trans rfl; have hfz73_0 := blk_frozen BK121.out 0; have hfz73_1 := blk_frozen BK121.out 1; have hfz73_2 := blk_frozen BK121.out 2; have hfz73_3 := blk_frozen BK121.out 3; have hfz73_4 := blk_frozen BK121.out 4) | ((with_reducible refine gate_callee (f := 23) rfl ?_); refine goesL_ (some 44) rfl rfl Try.func23 (by kernel_rfl) rfl #[.agg #[.int .i64 t116, .int .i64 t117, .int .i64 t118, .int .i64 t119, .int .u8 t120], .int .i64 (wrap64 (1 + (wrap64 (Int.tmod (IntKind.u64.wrap (a3)) 1000)))), .int .i64 (wrap64 (Int.tmod (IntKind.u64.wrap (a4)) 4))] rfl (by (try simp only [List.map_toArray, List.map_cons, List.map_nil]); first | done | rfl | (simp only [List.length_drop, List.length_take]; rfl)) ?_; (with_reducible refine (meter_Point.calls k t116 t117 t118 t119 t120 (wrap64 (1 + (wrap64 (Int.tmod (IntKind.u64.wrap (a3)) 1000)))) (wrap64 (Int.tmod (IntKind.u64.wrap (a4)) 4)) t124 t125 _ A10.out).mono ?_); rintro e w74 ⟨rfl, hb⟩; refine ⟨_, rfl, ?_⟩; have n0_ := Aside0.mk (blk_below (g := gb121) (o := .cells #[.int .i64 t116, .int .i64 t117, .int .i64 t118, .int .i64 t119, .int .u8 t120] 25 (0, 0)) (by (with_reducible repeat (first | refine blk_drewN ?_ _ | refine blk_drew ?_ | refine blk_alloc ?_ _)); exact BK121.out) hb); have n1_ := Aside0.mk (below_step (by repeat (first | (with_reducible first | exact HB.out | apply below_alloc | apply pw_below_drewN | apply below_drew1 | refine below_set ?_ GE121.out) | exact HB.out)) hb); clear BK121; clear HB; have BK121 := n0_; have HB := n1_; clear n0_ n1_; (try clear hb); (try clear hb2); (try clear hk); (try clear hi); have hcz75_0 : w74.cell? ⟨gb121, 0, none⟩ = some (.int .i64 t116) := (blk_cell BK121.out 0).trans rfl; have hcz75_1 : w74.cell? ⟨gb121, 1, none⟩ = some (.int .i64 t117) := (blk_cell BK121.out 1).trans rfl; have hcz75_2 : w74.cell? ⟨gb121, 2, none⟩ = some (.int .i64 t118) := (blk_cell BK121.out 2).trans rfl; have hcz75_3 : w74.cell? ⟨gb121, 3, none⟩ = some (.int .i64 t119) := (blk_cell BK121.out 3).trans rfl; have hcz75_4 : w74.cell? ⟨gb121, 4, none⟩ = some (.int .u8 t120) := (blk_cell BK121.out 4).trans rfl; have hfz75_0 := blk_frozen BK121.out 0; have hfz75_1 := blk_frozen BK121.out 1; have hfz75_2 := blk_frozen BK121.out 2; have hfz75_3 := blk_frozen BK121.out 3; have hfz75_4 := blk_frozen BK121.out 4) | ((with_reducible refine gate_callee (f := 23) rfl ?_); refine goesL_ (some 53) rfl rfl Try.func23 (by kernel_rfl) rfl #[.agg #[.int .i64 t116, .int .i64 t117, .int .i64 t118, .int .i64 t119, .int .u8 t120], .int .i64 (wrap64 (1 + (wrap64 (Int.tmod (IntKind.u64.wrap (a3)) 1000)))), .int .i64 (Int.tmod (wrap64 ((wrap64 (Int.tmod (IntKind.u64.wrap (a4)) 4)) + 1)) 4)] rfl (by (try simp only [List.map_toArray, List.map_cons, List.map_nil]); first | done | rfl | (simp only [List.length_drop, List.length_take]; rfl)) ?_; (with_reducible refine (meter_Point.calls k t116 t117 t118 t119 t120 (wrap64 (1 + (wrap64 (Int.tmod (IntKind.u64.wrap (a3)) 1000)))) (Int.tmod (wrap64 ((wrap64 (Int.tmod (IntKind.u64.wrap (a4)) 4)) + 1)) 4) t126 t127 _ A11.out).mono ?_); rintro e w76 ⟨rfl, hb⟩; refine ⟨_, rfl, ?_⟩; have n0_ := Aside0.mk (blk_below (g := gb121) (o := .cells #[.int .i64 t116, .int .i64 t117, .int .i64 t118, .int .i64 t119, .int .u8 t120] 25 (0, 0)) (by (with_reducible repeat (first | refine blk_drewN ?_ _ | refine blk_drew ?_ | refine blk_alloc ?_ _)); exact BK121.out) hb); have n1_ := Aside0.mk (below_step (by repeat (first | (with_reducible first | exact HB.out | apply below_alloc | apply pw_below_drewN | apply below_drew1 | refine below_set ?_ GE121.out) | exact HB.out)) hb); clear BK121; clear HB; have BK121 := n0_; have HB := n1_; clear n0_ n1_; (try clear hb); (try clear hb2); (try clear hk); (try clear hi)))
      go_ret
      exact ⟨by first | rfl | (simp [errW_none, errW_some] <;> rfl) | (simp [*, errW_none, errW_some] <;> rfl), by repeat (first | (with_reducible first | exact HB.out | apply below_alloc | apply pw_below_drewN | apply below_drew1 | refine below_set ?_ GE121.out) | exact HB.out)⟩
  · replace c7 := Bool.eq_false_iff.mpr c7
    subst c7
    have H1 : (some false) = some r := by rw [if_neg (show ¬ (false = true) by decide)] at H; exact H
    clear H
    have H := H1
    clear H1
    obtain rfl := Option.some.inj H
    go_enter Try.func5, Try.ntmps5
    go_wp2_with (first | ((with_reducible refine gate_callee (f := 20) rfl ?_); refine goesL_ (some 19) rfl rfl Try.func20 (by kernel_rfl) rfl #[] rfl (by (try simp only [List.map_toArray, List.map_cons, List.map_nil]); first | done | rfl | (simp only [List.length_drop, List.length_take]; rfl)) ?_; (with_reducible refine (pylonlaw12_awake.calls k  false _ A6.out).mono ?_); rintro e w77 ⟨rfl, hb⟩; refine ⟨_, rfl, ?_⟩; have n0_ := Aside0.mk (below_step (by repeat (first | (with_reducible first | exact HB.out | apply below_alloc | apply pw_below_drewN | apply below_drew1) | exact HB.out)) hb); clear HB; have HB := n0_; clear n0_; (try clear hb); (try clear hb2); (try clear hk); (try clear hi)))
    go_ret
    exact ⟨by first | rfl | (simp [errW_none, errW_some] <;> rfl) | (simp [*, errW_none, errW_some] <;> rfl), by repeat (first | (with_reducible first | exact HB.out | apply below_alloc | apply pw_below_drewN | apply below_drew1) | exact HB.out)⟩

/-- THE ONE PURE STATEMENT of pylonlaw12_MeterTurns: yours. -/
def pylonlaw12_MeterTurns.Pure : Prop := ∀ (a0 : Int) (a1 : Int) (a2 : Int) (a3 : Int) (a4 : Int), (Lit.int .i64 a0).wf = true → (Lit.int .i64 a1).wf = true → (Lit.int .i64 a2).wf = true → (Lit.int .i64 a3).wf = true → (Lit.int .i64 a4).wf = true → ∃ k, pylonlaw12_MeterTurns.f k a0 a1 a2 a3 a4 = some true
theorem pylonlaw12_MeterTurns.walk (P : pylonlaw12_MeterTurns.Pure) (a0 : Int) (a1 : Int) (a2 : Int) (a3 : Int) (a4 : Int) (w : World) (w0 : (Lit.int .i64 a0).wf = true) (w1 : (Lit.int .i64 a1).wf = true) (w2 : (Lit.int .i64 a2).wf = true) (w3 : (Lit.int .i64 a3).wf = true) (w4 : (Lit.int .i64 a4).wf = true) :
    Calls Try.prog 5 #[.int .i64 a0, .int .i64 a1, .int .i64 a2, .int .i64 a3, .int .i64 a4] w fun e w' => e = .returned (.bool true) ∧ Below w.heap.size w w' := by
  obtain ⟨k, h⟩ := P a0 a1 a2 a3 a4 w0 w1 w2 w3 w4
  refine (pylonlaw12_MeterTurns.calls k a0 a1 a2 a3 a4 true w h).mono ?_
  rintro e w' ⟨rfl, hd⟩
  exact ⟨rfl, hd⟩

/-! ### pylonlaw12_Z_c: function 30 -/
def pylonlaw12_Z_c.f (a0_0 : Nat) (a0_1 : Nat) : Option (Cx) := some (cx a0_0 a0_1)
set_option maxHeartbeats 8000000 in
set_option maxRecDepth 100000 in
theorem pylonlaw12_Z_c.calls (a0_0 : Nat) (a0_1 : Nat) (r : Cx) (w : World) (h : pylonlaw12_Z_c.f a0_0 a0_1 = some r) :
    Calls Try.prog 30 #[.agg #[.float .f64 a0_0, .float .f64 a0_1]] w fun e w' => e = .returned (.complex .f64 r.re r.im) ∧ Below w.heap.size w w' := by
  have hu47 := Try.underlying47
  have HB := Aside0.mk (Below.refl w.heap.size w)
  have H : (some (cx a0_0 a0_1)) = some r := h
  clear h
  obtain rfl := Option.some.inj H
  go_enter Try.func30, Try.ntmps30
  go_wp2_with (first | ((with_reducible refine gate_dst (N := 1) rfl ?_); refine box_event ?hg (N := 1) ?hd (cs := #[.float .f64 a0_0, .float .f64 a0_1]) (t := 47) ?hr ?_; (case hd => rfl); (case hg => rfl); (case hr => first | (go_simp; done) | (go_simp; rfl)); intro gb129 hg w2 hbox hb; have n0_ := Aside0.mk (below_step (by repeat (first | (with_reducible first | exact HB.out | apply below_alloc | apply pw_below_drewN | apply below_drew1) | exact HB.out)) hb); have n1_ := Aside0.mk (hbox); have n2_ := Aside0.mk ((by rw [hg]; exact (below_size (by repeat (first | (with_reducible first | exact HB.out | apply below_alloc | apply pw_below_drewN | apply below_drew1) | exact HB.out))) : w.heap.size ≤ gb129)); have n3_ := Aside0.mk ((by rw [hg]; exact (below_size (by repeat (first | (with_reducible first | exact HB.out | apply below_alloc | apply pw_below_drewN | apply below_drew1) | exact HB.out))) : w.heap.size ≤ gb129)); clear HB; have HB := n0_; have BK129 := n1_; have GW129 := n2_; have GE129 := n3_; clear n0_ n1_ n2_ n3_; clear hb hbox hg; have hcz3_0 : w2.cell? ⟨gb129, 0, none⟩ = some (.float .f64 a0_0) := (blk_cell BK129.out 0).trans rfl; have hcz3_1 : w2.cell? ⟨gb129, 1, none⟩ = some (.float .f64 a0_1) := (blk_cell BK129.out 1).trans rfl; have hfz3_0 := blk_frozen BK129.out 0; have hfz3_1 := blk_frozen BK129.out 1))
  go_ret
  exact ⟨by first | rfl | (simp [errW_none, errW_some] <;> rfl) | (simp [*, errW_none, errW_some] <;> rfl), by repeat (first | (with_reducible first | exact HB.out | apply below_alloc | apply pw_below_drewN | apply below_drew1 | refine below_set ?_ GE129.out) | exact HB.out)⟩

/-! ### meter_Split: function 31 -/
def meter_Split.f (a0 : Cx) : Option (Int × Int × Int × Int) := (meter_Fits.f a0).bind fun t130 => (if t130 = true then (if f2iok a0.re = true then (if f2iok a0.im = true then (some (mx (f2i a0.re) 0, mx (wrap64 (-(f2i a0.re))) 0, f2i a0.im, 0)) else (none)) else (none)) else (some (0, 0, 0, 5)))
set_option maxHeartbeats 8000000 in
set_option maxRecDepth 100000 in
theorem meter_Split.calls (a0 : Cx) (r1 : Int) (r2 : Int) (r3 : Int) (r4 : Int) (w : World) (h : meter_Split.f a0 = some (r1, r2, r3, r4)) :
    Calls Try.prog 31 #[.complex .f64 a0.re a0.im] w fun e w' => e = .returned (.tuple #[.int .i64 r1, .int .i64 r2, .int .i64 r3, .int .i64 r4]) ∧ Below w.heap.size w w' := by
  have HB := Aside0.mk (Below.refl w.heap.size w)
  have H : ((meter_Fits.f a0).bind fun t130 => (if t130 = true then (if f2iok a0.re = true then (if f2iok a0.im = true then (some (mx (f2i a0.re) 0, mx (wrap64 (-(f2i a0.re))) 0, f2i a0.im, 0)) else (none)) else (none)) else (some (0, 0, 0, 5)))) = some (r1, r2, r3, r4) := h
  clear h
  replace H := Option.bind_eq_some_iff.mp H
  obtain ⟨t130, A20, H⟩ := H
  replace H : (if t130 = true then (if f2iok a0.re = true then (if f2iok a0.im = true then (some (mx (f2i a0.re) 0, mx (wrap64 (-(f2i a0.re))) 0, f2i a0.im, 0)) else (none)) else (none)) else (some (0, 0, 0, 5))) = some (r1, r2, r3, r4) := H
  have A2 := Aside0.mk A20
  clear A20
  by_cases c3 : t130 = true
  · subst c3
    have H1 : (if f2iok a0.re = true then (if f2iok a0.im = true then (some (mx (f2i a0.re) 0, mx (wrap64 (-(f2i a0.re))) 0, f2i a0.im, 0)) else (none)) else (none)) = some (r1, r2, r3, r4) := by rw [if_pos rfl] at H; exact H
    clear H
    have H := H1
    clear H1
    by_cases c4 : f2iok a0.re = true
    · rw [if_pos c4] at H
      have c4b0 := eq_true c4
      have c4b1 : decide (f2iok a0.re = true) = true := decide_eq_true c4
      clear c4
      obtain ⟨ji5, hji5⟩ : ∃ j_ : Int, (mx (f2i a0.re) 0) = j_ := ⟨_, rfl⟩
      replace H : (if f2iok a0.im = true then (some (ji5, mx (wrap64 (-(f2i a0.re))) 0, f2i a0.im, 0)) else (none)) = some (r1, r2, r3, r4) := by first | (rw [hji5] at H; exact H) | (simp only [hji5] at H ⊢; exact H)
      (try rw [hji5] at A2)
      (try (have hji5l : 0 ≤ ji5 := by (rw [← hji5]; unfold mx; (repeat' split) <;> omega)))
      (try (have hji5m : 0 ≤ ji5 := by omega))
      have hji5_ : (if (f2i a0.re) < 0 then 0 else (f2i a0.re)) = ji5 := hji5
      obtain ⟨ji6, hji6⟩ : ∃ j_ : Int, (mx (wrap64 (-(f2i a0.re))) 0) = j_ := ⟨_, rfl⟩
      replace H : (if f2iok a0.im = true then (some (ji5, ji6, f2i a0.im, 0)) else (none)) = some (r1, r2, r3, r4) := by first | (rw [hji6] at H; exact H) | (simp only [hji6] at H ⊢; exact H)
      (try rw [hji6] at A2)
      (try (have hji6l : 0 ≤ ji6 := by (rw [← hji6]; unfold mx; (repeat' split) <;> omega)))
      (try (have hji6m : 0 ≤ ji6 := by omega))
      have hji6_ : (if (wrap64 (-(f2i a0.re))) < 0 then 0 else (wrap64 (-(f2i a0.re)))) = ji6 := hji6
      by_cases c7 : f2iok a0.im = true
      · rw [if_pos c7] at H
        have c7b0 := eq_true c7
        have c7b1 : decide (f2iok a0.im = true) = true := decide_eq_true c7
        clear c7
        simp only [Option.some.injEq, Prod.mk.injEq] at H
        obtain ⟨rfl, rfl, rfl, rfl⟩ := H
        go_enter Try.func31, Try.ntmps31
        go_wp2_with (first | ((with_reducible refine gate_callee (f := 29) rfl ?_); refine goesL_ (some 8) rfl rfl Try.func29 (by kernel_rfl) rfl #[.complex .f64 a0.re a0.im] rfl (by (try simp only [List.map_toArray, List.map_cons, List.map_nil]); first | done | rfl | (simp only [List.length_drop, List.length_take]; rfl)) ?_; (with_reducible refine (meter_Fits.calls a0 true _ A2.out).mono ?_); rintro e w8 ⟨rfl, hb⟩; refine ⟨_, rfl, ?_⟩; have n0_ := Aside0.mk (below_step (by repeat (first | (with_reducible first | exact HB.out | apply below_alloc | apply pw_below_drewN | apply below_drew1) | exact HB.out)) hb); clear HB; have HB := n0_; clear n0_; (try clear hb); (try clear hb2); (try clear hk); (try clear hi)))
        refine bodyPost_ret (results_list (rs := [.tmp 2, .tmp 3, .tmp 4, .tmp 5]) rfl (by simp) (.tmp (.tmp (.tmp (.tmp .nil))))) rfl ?_
        exact ⟨by first | rfl | (simp [errW_none, errW_some] <;> rfl) | (simp only [← hji5, ← hji6]; first | rfl | (simp [errW_none, errW_some] <;> rfl)) | (simp [*, errW_none, errW_some] <;> rfl), by repeat (first | (with_reducible first | exact HB.out | apply below_alloc | apply pw_below_drewN | apply below_drew1) | exact HB.out)⟩
      · rw [if_neg c7] at H
        exact absurd H (by simp)
    · rw [if_neg c4] at H
      exact absurd H (by simp)
  · replace c3 := Bool.eq_false_iff.mpr c3
    subst c3
    have H1 : (some (0, 0, 0, 5)) = some (r1, r2, r3, r4) := by rw [if_neg (show ¬ (false = true) by decide)] at H; exact H
    clear H
    have H := H1
    clear H1
    simp only [Option.some.injEq, Prod.mk.injEq] at H
    obtain ⟨rfl, rfl, rfl, rfl⟩ := H
    go_enter Try.func31, Try.ntmps31
    go_wp2_with (first | ((with_reducible refine gate_callee (f := 29) rfl ?_); refine goesL_ (some 8) rfl rfl Try.func29 (by kernel_rfl) rfl #[.complex .f64 a0.re a0.im] rfl (by (try simp only [List.map_toArray, List.map_cons, List.map_nil]); first | done | rfl | (simp only [List.length_drop, List.length_take]; rfl)) ?_; (with_reducible refine (meter_Fits.calls a0 false _ A2.out).mono ?_); rintro e w9 ⟨rfl, hb⟩; refine ⟨_, rfl, ?_⟩; have n0_ := Aside0.mk (below_step (by repeat (first | (with_reducible first | exact HB.out | apply below_alloc | apply pw_below_drewN | apply below_drew1) | exact HB.out)) hb); clear HB; have HB := n0_; clear n0_; (try clear hb); (try clear hb2); (try clear hk); (try clear hi)))
    refine bodyPost_ret (results_list (rs := [.tmp 2, .tmp 3, .tmp 4, .tmp 5]) rfl (by simp) (.tmp (.tmp (.tmp (.tmp .nil))))) rfl ?_
    exact ⟨by first | rfl | (simp [errW_none, errW_some] <;> rfl) | (simp [*, errW_none, errW_some] <;> rfl), by repeat (first | (with_reducible first | exact HB.out | apply below_alloc | apply pw_below_drewN | apply below_drew1) | exact HB.out)⟩

end Go.Proofs.Ytapimggcnneabaa.PM
