-- Written by a program of this session for this claim (wip/print2.sh). Lean checks it.
import Derived.Test.YtapimggcnneabaaPMAx0
namespace Go.Proofs.Ytapimggcnneabaa.PMA
open Go.Proofs.YtapimggcnneabaaW.PrintWords
attribute [local go_sem high] fx_eql fx_neq fx_lss fx_leq fx_gtr fx_geq fx_add fx_sub fx_mul fx_neg fx_toint cxx_add cxx_sub cxx_mul cxx_eql cxx_neq cxx_pick st_float st_complex
open Go.RowKit Go.Proofs.YtapimggcnneabaaW.PrintWords Go.Proofs.YtapimggcnneabaaW.PrintLast Go.Proofs.YtapimggcnneabaaW.PrintMore
attribute [local go_sem] max2_int min2_int max_two min_two max_three min_three max_four min_four   -- for this text's walks alone
set_option linter.unusedVariables false
set_option linter.unusedSimpArgs false

/-! ### meter_within: function 59 -/
def meter_within.f (a0 : Int) (a1 : Int) (a2 : Int) : Option (Bool) := if a0 ≥ a1 then (some (decide (a0 ≤ a2))) else (some false)
set_option maxHeartbeats 8000000 in
set_option maxRecDepth 100000 in
theorem meter_within.calls (a0 : Int) (a1 : Int) (a2 : Int) (r : Bool) (w : World) (h : meter_within.f a0 a1 a2 = some r) :
  Calls Try.prog 59 #[.int .i64 a0, .int .i64 a1, .int .i64 a2] w fun e w' => e = .returned (.bool r) ∧ Drawn0 w w' := by
 have H : (if a0 ≥ a1 then (some (decide (a0 ≤ a2))) else (some false)) = some r := h
 clear h
 by_cases c4 : a0 ≥ a1
 ·
  rw [if_pos c4] at H
  have c4b0 : decide (a1 ≤ a0) = true := decide_eq_true c4
  clear c4
  obtain rfl := Option.some.inj H
  go_enter Try.func59, Try.ntmps59
  go_wp2
  go_ret
  exact ⟨by first | rfl | (simp; done) | (simp [*]; done), by repeat (first | exact Drawn0.refl _ | apply Drawn0.step)⟩
 ·
  rw [if_neg c4] at H
  have c4b0 : decide (a1 ≤ a0) = false := decide_eq_false c4
  clear c4
  obtain rfl := Option.some.inj H
  go_enter Try.func59, Try.ntmps59
  go_wp2
  go_ret
  exact ⟨by first | rfl | (simp; done) | (simp [*]; done), by repeat (first | exact Drawn0.refl _ | apply Drawn0.step)⟩

/-! ### meter_Point: function 23 -/
def meter_Point.j0 : Nat → Int → Int → Bool → Int → Int → Int → Int → Int → Option (Cx × Int)
 | 0, _, _, _, _, _, _, _, _ => none
 | k + 1, x1, x2, x9, x102000, x102001, x102002, x102003, x102004 => if x9 = true then (some (cx 0 0, 8)) else ((meter_within.f x102001 0 10000000).bind fun t103 => (if t103 = true then ((meter_within.f x102002 0 10000000).bind fun t104 => (if t104 = true then ((meter_within.f x102003 (-10000000) 10000000).bind fun t105 => (if t105 = true then (if cmulok (floatOfInt .f64 (wrap64 (x102001 - x102002))) (floatOfInt .f64 x102003) (floatOfInt .f64 x1) 0 = true then (if 0 ≤ x2 then (if x2 < 4 then (if cmulok (cmulre (floatOfInt .f64 (wrap64 (x102001 - x102002))) (floatOfInt .f64 x102003) (floatOfInt .f64 x1) 0) (cmulim (floatOfInt .f64 (wrap64 (x102001 - x102002))) (floatOfInt .f64 x102003) (floatOfInt .f64 x1) 0) (pk4 x2 4607182418800017408 0 13830554455654793216 0) (pk4 x2 0 4607182418800017408 0 13830554455654793216) = true then (some (cx (cmulre (cmulre (floatOfInt .f64 (wrap64 (x102001 - x102002))) (floatOfInt .f64 x102003) (floatOfInt .f64 x1) 0) (cmulim (floatOfInt .f64 (wrap64 (x102001 - x102002))) (floatOfInt .f64 x102003) (floatOfInt .f64 x1) 0) (pk4 x2 4607182418800017408 0 13830554455654793216 0) (pk4 x2 0 4607182418800017408 0 13830554455654793216)) (cmulim (cmulre (floatOfInt .f64 (wrap64 (x102001 - x102002))) (floatOfInt .f64 x102003) (floatOfInt .f64 x1) 0) (cmulim (floatOfInt .f64 (wrap64 (x102001 - x102002))) (floatOfInt .f64 x102003) (floatOfInt .f64 x1) 0) (pk4 x2 4607182418800017408 0 13830554455654793216 0) (pk4 x2 0 4607182418800017408 0 13830554455654793216)), 0)) else (none)) else (none)) else (none)) else (none)) else (some (cx 0 0, 5)))) else (some (cx 0 0, 5)))) else (some (cx 0 0, 5))))
def meter_Point.f (k : Nat) (a0_0 : Int) (a0_1 : Int) (a0_2 : Int) (a0_3 : Int) (a0_4 : Int) (a1 : Int) (a2 : Int) : Option (Cx × Int) := (meter_within.f a1 1 1000).bind fun t102 => (if t102 = true then (if a2 < 0 then (meter_Point.j0 k a1 a2 (decide (a2 < 0)) a0_0 a0_1 a0_2 a0_3 a0_4) else (meter_Point.j0 k a1 a2 (decide (a2 > 3)) a0_0 a0_1 a0_2 a0_3 a0_4)) else (meter_Point.j0 k a1 a2 (!t102) a0_0 a0_1 a0_2 a0_3 a0_4))
theorem meter_Point.mono_l : ∀ k, (∀ y0 y1 y2 y3 y4 y5 y6 y7, LeO (meter_Point.j0 k y0 y1 y2 y3 y4 y5 y6 y7) (meter_Point.j0 (k + 1) y0 y1 y2 y3 y4 y5 y6 y7))
 | 0 => fun _ _ _ _ _ _ _ _ r h => by simp [meter_Point.j0] at h
 | k + 1 => by
  have ih0 := meter_Point.mono_l k
  ·
   intro y0 y1 y2 y3 y4 y5 y6 y7
   unfold meter_Point.j0
   repeat' first
   | (with_reducible exact ih0 _ _ _ _ _ _ _ _)
   | (with_reducible exact LeO.refl _)
   | (with_reducible exact LeO.none _)
   | (with_reducible refine LeO.ite ?_ ?_)
   | (with_reducible refine LeO.bind ?_ (fun _ => ?_))
   | exact ih0 _ _ _ _ _ _ _ _
   | exact LeO.none _
   | refine LeO.ite ?_ ?_
   | refine LeO.bind ?_ (fun _ => ?_)
theorem meter_Point.mono : ∀ a0 a1 a2 a3 a4 a5 a6 k, LeO (meter_Point.f k a0 a1 a2 a3 a4 a5 a6) (meter_Point.f (k + 1) a0 a1 a2 a3 a4 a5 a6) := by
 intro a0 a1 a2 a3 a4 a5 a6 k
 have ih0 := meter_Point.mono_l k
 unfold meter_Point.f
 repeat' first
   | (with_reducible exact ih0 _ _ _ _ _ _ _ _)
   | (with_reducible exact LeO.refl _)
   | (with_reducible exact LeO.none _)
   | (with_reducible refine LeO.ite ?_ ?_)
   | (with_reducible refine LeO.bind ?_ (fun _ => ?_))
   | exact ih0 _ _ _ _ _ _ _ _
   | exact LeO.none _
   | refine LeO.ite ?_ ?_
   | refine LeO.bind ?_ (fun _ => ?_)
set_option maxHeartbeats 8000000 in
set_option maxRecDepth 100000 in
theorem meter_Point.calls (k : Nat) (a0_0 : Int) (a0_1 : Int) (a0_2 : Int) (a0_3 : Int) (a0_4 : Int) (a1 : Int) (a2 : Int) (r1 : Cx) (r2 : Int) (w : World) (h : meter_Point.f k a0_0 a0_1 a0_2 a0_3 a0_4 a1 a2 = some (r1, r2)) :
  Calls Try.prog 23 #[.agg #[.int .i64 a0_0, .int .i64 a0_1, .int .i64 a0_2, .int .i64 a0_3, .int .u8 a0_4], .int .i64 a1, .int .i64 a2] w fun e w' => e = .returned (.tuple #[.complex .f64 r1.re r1.im, .int .i64 r2]) ∧ Below w.heap.size w w' := by
 have hu25 := Try.underlying25
 have hu58 := Try.underlying58
 have hpk58 := fun w k i a1 a2 b1 b2 c1 c2 d1 d2 => cxx_pick (P := Try.prog) w 58 k i a1 a2 b1 b2 c1 c2 d1 d2 (by kernel_rfl) (by kernel_rfl) (by kernel_rfl) (by kernel_rfl)
 have HB := Aside0.mk (Below.refl w.heap.size w)
 have H : ((meter_within.f a1 1 1000).bind fun t102 => (if t102 = true then (if a2 < 0 then (meter_Point.j0 k a1 a2 (decide (a2 < 0)) a0_0 a0_1 a0_2 a0_3 a0_4) else (meter_Point.j0 k a1 a2 (decide (a2 > 3)) a0_0 a0_1 a0_2 a0_3 a0_4)) else (meter_Point.j0 k a1 a2 (!t102) a0_0 a0_1 a0_2 a0_3 a0_4))) = some (r1, r2) := h
 clear h
 replace H := Option.bind_eq_some_iff.mp H
 obtain ⟨t102, A40, H⟩ := H
 replace H : (if t102 = true then (if a2 < 0 then (meter_Point.j0 k a1 a2 (decide (a2 < 0)) a0_0 a0_1 a0_2 a0_3 a0_4) else (meter_Point.j0 k a1 a2 (decide (a2 > 3)) a0_0 a0_1 a0_2 a0_3 a0_4)) else (meter_Point.j0 k a1 a2 (!t102) a0_0 a0_1 a0_2 a0_3 a0_4)) = some (r1, r2) := H
 have A4 := Aside0.mk A40
 clear A40
 have HC5 := Aside0.mk H
 clear H
 go_enter Try.func23, Try.ntmps23
 go_upto_if 9 with (first | ((with_reducible refine gate_dst (N := 3) rfl ?_); refine box_event ?hg (N := 3) ?hd (cs := #[.int .i64 a0_0, .int .i64 a0_1, .int .i64 a0_2, .int .i64 a0_3, .int .u8 a0_4]) (t := 25) ?hr ?_; (case hd => rfl); (case hg => rfl); (case hr => first | (go_simp; done) | (go_simp; rfl)); intro gb101 hg w6 hbox hb; have n0_ := Aside0.mk (below_step (by repeat (first | (with_reducible first | exact HB.out | apply lA_ | apply lN_ | apply l1_) | exact HB.out)) hb); have n1_ := Aside0.mk (hbox); have n2_ := Aside0.mk ((by rw [hg]; exact (below_size (by repeat (first | (with_reducible first | exact HB.out | apply lA_ | apply lN_ | apply l1_) | exact HB.out))) : w.heap.size ≤ gb101)); have n3_ := Aside0.mk ((by rw [hg]; exact (below_size (by repeat (first | (with_reducible first | exact HB.out | apply lA_ | apply lN_ | apply l1_) | exact HB.out))) : w.heap.size ≤ gb101)); clear HB; have HB := n0_; have BK101 := n1_; have GW101 := n2_; have GE101 := n3_; clear n0_ n1_ n2_ n3_; clear hb hbox hg) | ((with_reducible refine gate_callee (f := 59) rfl ?_); refine goesL_ (some 11) rfl rfl Try.func59 (by kernel_rfl) rfl #[.int .i64 a1, .int .i64 1, .int .i64 1000] rfl (by (try simp only [List.map_toArray, List.map_cons, List.map_nil]); first | done | rfl | (simp only [List.length_drop, List.length_take]; rfl)) ?_; (with_reducible refine (meter_within.calls a1 1 1000 t102 _ A4.out).mono ?_); rintro e w' ⟨rfl, ⟨nd, rfl⟩⟩; refine ⟨_, rfl, ?_⟩))
 (try simp only [Act.put, List.setIfInBounds_toArray, List.set_cons_zero, List.set_cons_succ])
 go_cut [9] (fun v9 wc => ∃ (kq : Nat) (x9_4 : Bool), v9 = .bool x9_4 ∧ Aside0 (meter_Point.j0 kq a1 a2 x9_4 a0_0 a0_1 a0_2 a0_3 a0_4 = some (r1, r2)) ∧ Aside0 (kq ≤ k) ∧ Aside0 (wc.heap[gb101]? = some (.cells #[.int .i64 a0_0, .int .i64 a0_1, .int .i64 a0_2, .int .i64 a0_3, .int .u8 a0_4] 25 (0, 0))) ∧ Aside0 (Below w.heap.size w wc))
 case first =>
  have H := HC5.out
  clear HC5
  by_cases c7 : t102 = true
  ·
   subst c7
   have H1 : (if a2 < 0 then (meter_Point.j0 k a1 a2 (decide (a2 < 0)) a0_0 a0_1 a0_2 a0_3 a0_4) else (meter_Point.j0 k a1 a2 (decide (a2 > 3)) a0_0 a0_1 a0_2 a0_3 a0_4)) = some (r1, r2) := by rw [if_pos rfl] at H; exact H
   clear H
   have H := H1
   clear H1
   by_cases c8 : a2 < 0
   ·
    rw [if_pos c8] at H
    have c8b0 : decide (a2 < 0) = true := decide_eq_true c8
    clear c8
    (first | rw [c8b0] | (simp only [i64_w, i32_w]; rw [c8b0]) | skip)
    have H' := Aside0.mk H
    clear H
    go_wp2
    go_meet
    case rel => exact ⟨_, (decide (a2 < 0)), (by first | rfl | (simp; done) | (simp [*]; done) | (by_cases hdp0_ : a2 < 0 <;> simp [*] <;> done)), H', ⟨by first | omega | exact Nat.le_refl _⟩, ⟨by (with_reducible repeat (first | refine bN_ ?_ _ | refine bD_ ?_ | refine bA_ ?_ _)); exact BK101.out⟩, ⟨by repeat (first | (with_reducible first | exact HB.out | apply lA_ | apply lN_ | apply l1_ | refine lS_ ?_ GE101.out) | exact HB.out)⟩⟩
   ·
    rw [if_neg c8] at H
    have c8b0 : decide (a2 < 0) = false := decide_eq_false c8
    clear c8
    (first | rw [c8b0] | (simp only [i64_w, i32_w]; rw [c8b0]) | skip)
    have H' := Aside0.mk H
    clear H
    go_wp2
    go_meet
    case rel => exact ⟨_, (decide (a2 > 3)), (by first | rfl | (simp; done) | (simp [*]; done) | (by_cases hdp0_ : a2 > 3 <;> simp [*] <;> done)), H', ⟨by first | omega | exact Nat.le_refl _⟩, ⟨by (with_reducible repeat (first | refine bN_ ?_ _ | refine bD_ ?_ | refine bA_ ?_ _)); exact BK101.out⟩, ⟨by repeat (first | (with_reducible first | exact HB.out | apply lA_ | apply lN_ | apply l1_ | refine lS_ ?_ GE101.out) | exact HB.out)⟩⟩
  ·
   replace c7 := Bool.eq_false_iff.mpr c7
   subst c7
   have H1 : (meter_Point.j0 k a1 a2 (!false) a0_0 a0_1 a0_2 a0_3 a0_4) = some (r1, r2) := by rw [if_neg (show ¬ (false = true) by decide)] at H; exact H
   clear H
   have H := H1
   clear H1
   have H' := Aside0.mk H
   clear H
   go_wp2
   go_meet
   case rel => exact ⟨_, (!false), (by first | rfl | (simp; done) | (simp [*]; done)), H', ⟨by first | omega | exact Nat.le_refl _⟩, ⟨by (with_reducible repeat (first | refine bN_ ?_ _ | refine bD_ ?_ | refine bA_ ?_ _)); exact BK101.out⟩, ⟨by repeat (first | (with_reducible first | exact HB.out | apply lA_ | apply lN_ | apply l1_ | refine lS_ ?_ GE101.out) | exact HB.out)⟩⟩
 case rest =>
  clear HC5
  try clear c2
  try clear p2
  try clear c5
  try clear c7
  try clear c8
  try clear c8b0
  obtain ⟨kq, x9_4, rfl, HA, HJ4, BK101, HB⟩ := hcut
  cases kq with
  | zero => exact absurd HA.out (by simp [meter_Point.j0])
  | succ kj4 =>
   have H := HA.out
   clear HA
   simp only [meter_Point.j0] at H
   by_cases c9 : x9_4 = true
   ·
    subst c9
    have H1 : (some (cx 0 0, 8)) = some (r1, r2) := by rw [if_pos rfl] at H; exact H
    clear H
    have H := H1
    clear H1
    simp only [Option.some.injEq, Prod.mk.injEq] at H
    obtain ⟨rfl, rfl⟩ := H
    go_wp2
    go_ret2
    exact ⟨by first | rfl | (simp [errW_none, errW_some] <;> rfl) | (simp [*, errW_none, errW_some] <;> rfl), by repeat (first | (with_reducible first | exact HB.out | apply lA_ | apply lN_ | apply l1_ | refine lS_ ?_ GE101.out) | exact HB.out)⟩
   ·
    replace c9 := Bool.eq_false_iff.mpr c9
    subst c9
    have H1 : ((meter_within.f a0_1 0 10000000).bind fun t103 => (if t103 = true then ((meter_within.f a0_2 0 10000000).bind fun t104 => (if t104 = true then ((meter_within.f a0_3 (-10000000) 10000000).bind fun t105 => (if t105 = true then (if cmulok (floatOfInt .f64 (wrap64 (a0_1 - a0_2))) (floatOfInt .f64 a0_3) (floatOfInt .f64 a1) 0 = true then (if 0 ≤ a2 then (if a2 < 4 then (if cmulok (cmulre (floatOfInt .f64 (wrap64 (a0_1 - a0_2))) (floatOfInt .f64 a0_3) (floatOfInt .f64 a1) 0) (cmulim (floatOfInt .f64 (wrap64 (a0_1 - a0_2))) (floatOfInt .f64 a0_3) (floatOfInt .f64 a1) 0) (pk4 a2 4607182418800017408 0 13830554455654793216 0) (pk4 a2 0 4607182418800017408 0 13830554455654793216) = true then (some (cx (cmulre (cmulre (floatOfInt .f64 (wrap64 (a0_1 - a0_2))) (floatOfInt .f64 a0_3) (floatOfInt .f64 a1) 0) (cmulim (floatOfInt .f64 (wrap64 (a0_1 - a0_2))) (floatOfInt .f64 a0_3) (floatOfInt .f64 a1) 0) (pk4 a2 4607182418800017408 0 13830554455654793216 0) (pk4 a2 0 4607182418800017408 0 13830554455654793216)) (cmulim (cmulre (floatOfInt .f64 (wrap64 (a0_1 - a0_2))) (floatOfInt .f64 a0_3) (floatOfInt .f64 a1) 0) (cmulim (floatOfInt .f64 (wrap64 (a0_1 - a0_2))) (floatOfInt .f64 a0_3) (floatOfInt .f64 a1) 0) (pk4 a2 4607182418800017408 0 13830554455654793216 0) (pk4 a2 0 4607182418800017408 0 13830554455654793216)), 0)) else (none)) else (none)) else (none)) else (none)) else (some (cx 0 0, 5)))) else (some (cx 0 0, 5)))) else (some (cx 0 0, 5)))) = some (r1, r2) := by rw [if_neg (show ¬ (false = true) by decide)] at H; exact H
    clear H
    have H := H1
    clear H1
    replace H := Option.bind_eq_some_iff.mp H
    obtain ⟨t103, A100, H⟩ := H
    replace H : (if t103 = true then ((meter_within.f a0_2 0 10000000).bind fun t104 => (if t104 = true then ((meter_within.f a0_3 (-10000000) 10000000).bind fun t105 => (if t105 = true then (if cmulok (floatOfInt .f64 (wrap64 (a0_1 - a0_2))) (floatOfInt .f64 a0_3) (floatOfInt .f64 a1) 0 = true then (if 0 ≤ a2 then (if a2 < 4 then (if cmulok (cmulre (floatOfInt .f64 (wrap64 (a0_1 - a0_2))) (floatOfInt .f64 a0_3) (floatOfInt .f64 a1) 0) (cmulim (floatOfInt .f64 (wrap64 (a0_1 - a0_2))) (floatOfInt .f64 a0_3) (floatOfInt .f64 a1) 0) (pk4 a2 4607182418800017408 0 13830554455654793216 0) (pk4 a2 0 4607182418800017408 0 13830554455654793216) = true then (some (cx (cmulre (cmulre (floatOfInt .f64 (wrap64 (a0_1 - a0_2))) (floatOfInt .f64 a0_3) (floatOfInt .f64 a1) 0) (cmulim (floatOfInt .f64 (wrap64 (a0_1 - a0_2))) (floatOfInt .f64 a0_3) (floatOfInt .f64 a1) 0) (pk4 a2 4607182418800017408 0 13830554455654793216 0) (pk4 a2 0 4607182418800017408 0 13830554455654793216)) (cmulim (cmulre (floatOfInt .f64 (wrap64 (a0_1 - a0_2))) (floatOfInt .f64 a0_3) (floatOfInt .f64 a1) 0) (cmulim (floatOfInt .f64 (wrap64 (a0_1 - a0_2))) (floatOfInt .f64 a0_3) (floatOfInt .f64 a1) 0) (pk4 a2 4607182418800017408 0 13830554455654793216 0) (pk4 a2 0 4607182418800017408 0 13830554455654793216)), 0)) else (none)) else (none)) else (none)) else (none)) else (some (cx 0 0, 5)))) else (some (cx 0 0, 5)))) else (some (cx 0 0, 5))) = some (r1, r2) := H
    have A10 := Aside0.mk A100
    clear A100
    by_cases c11 : t103 = true
    ·
     subst c11
     have H1 : ((meter_within.f a0_2 0 10000000).bind fun t104 => (if t104 = true then ((meter_within.f a0_3 (-10000000) 10000000).bind fun t105 => (if t105 = true then (if cmulok (floatOfInt .f64 (wrap64 (a0_1 - a0_2))) (floatOfInt .f64 a0_3) (floatOfInt .f64 a1) 0 = true then (if 0 ≤ a2 then (if a2 < 4 then (if cmulok (cmulre (floatOfInt .f64 (wrap64 (a0_1 - a0_2))) (floatOfInt .f64 a0_3) (floatOfInt .f64 a1) 0) (cmulim (floatOfInt .f64 (wrap64 (a0_1 - a0_2))) (floatOfInt .f64 a0_3) (floatOfInt .f64 a1) 0) (pk4 a2 4607182418800017408 0 13830554455654793216 0) (pk4 a2 0 4607182418800017408 0 13830554455654793216) = true then (some (cx (cmulre (cmulre (floatOfInt .f64 (wrap64 (a0_1 - a0_2))) (floatOfInt .f64 a0_3) (floatOfInt .f64 a1) 0) (cmulim (floatOfInt .f64 (wrap64 (a0_1 - a0_2))) (floatOfInt .f64 a0_3) (floatOfInt .f64 a1) 0) (pk4 a2 4607182418800017408 0 13830554455654793216 0) (pk4 a2 0 4607182418800017408 0 13830554455654793216)) (cmulim (cmulre (floatOfInt .f64 (wrap64 (a0_1 - a0_2))) (floatOfInt .f64 a0_3) (floatOfInt .f64 a1) 0) (cmulim (floatOfInt .f64 (wrap64 (a0_1 - a0_2))) (floatOfInt .f64 a0_3) (floatOfInt .f64 a1) 0) (pk4 a2 4607182418800017408 0 13830554455654793216 0) (pk4 a2 0 4607182418800017408 0 13830554455654793216)), 0)) else (none)) else (none)) else (none)) else (none)) else (some (cx 0 0, 5)))) else (some (cx 0 0, 5)))) = some (r1, r2) := by rw [if_pos rfl] at H; exact H
     clear H
     have H := H1
     clear H1
     replace H := Option.bind_eq_some_iff.mp H
     obtain ⟨t104, A120, H⟩ := H
     replace H : (if t104 = true then ((meter_within.f a0_3 (-10000000) 10000000).bind fun t105 => (if t105 = true then (if cmulok (floatOfInt .f64 (wrap64 (a0_1 - a0_2))) (floatOfInt .f64 a0_3) (floatOfInt .f64 a1) 0 = true then (if 0 ≤ a2 then (if a2 < 4 then (if cmulok (cmulre (floatOfInt .f64 (wrap64 (a0_1 - a0_2))) (floatOfInt .f64 a0_3) (floatOfInt .f64 a1) 0) (cmulim (floatOfInt .f64 (wrap64 (a0_1 - a0_2))) (floatOfInt .f64 a0_3) (floatOfInt .f64 a1) 0) (pk4 a2 4607182418800017408 0 13830554455654793216 0) (pk4 a2 0 4607182418800017408 0 13830554455654793216) = true then (some (cx (cmulre (cmulre (floatOfInt .f64 (wrap64 (a0_1 - a0_2))) (floatOfInt .f64 a0_3) (floatOfInt .f64 a1) 0) (cmulim (floatOfInt .f64 (wrap64 (a0_1 - a0_2))) (floatOfInt .f64 a0_3) (floatOfInt .f64 a1) 0) (pk4 a2 4607182418800017408 0 13830554455654793216 0) (pk4 a2 0 4607182418800017408 0 13830554455654793216)) (cmulim (cmulre (floatOfInt .f64 (wrap64 (a0_1 - a0_2))) (floatOfInt .f64 a0_3) (floatOfInt .f64 a1) 0) (cmulim (floatOfInt .f64 (wrap64 (a0_1 - a0_2))) (floatOfInt .f64 a0_3) (floatOfInt .f64 a1) 0) (pk4 a2 4607182418800017408 0 13830554455654793216 0) (pk4 a2 0 4607182418800017408 0 13830554455654793216)), 0)) else (none)) else (none)) else (none)) else (none)) else (some (cx 0 0, 5)))) else (some (cx 0 0, 5))) = some (r1, r2) := H
     have A12 := Aside0.mk A120
     clear A120
     by_cases c13 : t104 = true
     ·
      subst c13
      have H1 : ((meter_within.f a0_3 (-10000000) 10000000).bind fun t105 => (if t105 = true then (if cmulok (floatOfInt .f64 (wrap64 (a0_1 - a0_2))) (floatOfInt .f64 a0_3) (floatOfInt .f64 a1) 0 = true then (if 0 ≤ a2 then (if a2 < 4 then (if cmulok (cmulre (floatOfInt .f64 (wrap64 (a0_1 - a0_2))) (floatOfInt .f64 a0_3) (floatOfInt .f64 a1) 0) (cmulim (floatOfInt .f64 (wrap64 (a0_1 - a0_2))) (floatOfInt .f64 a0_3) (floatOfInt .f64 a1) 0) (pk4 a2 4607182418800017408 0 13830554455654793216 0) (pk4 a2 0 4607182418800017408 0 13830554455654793216) = true then (some (cx (cmulre (cmulre (floatOfInt .f64 (wrap64 (a0_1 - a0_2))) (floatOfInt .f64 a0_3) (floatOfInt .f64 a1) 0) (cmulim (floatOfInt .f64 (wrap64 (a0_1 - a0_2))) (floatOfInt .f64 a0_3) (floatOfInt .f64 a1) 0) (pk4 a2 4607182418800017408 0 13830554455654793216 0) (pk4 a2 0 4607182418800017408 0 13830554455654793216)) (cmulim (cmulre (floatOfInt .f64 (wrap64 (a0_1 - a0_2))) (floatOfInt .f64 a0_3) (floatOfInt .f64 a1) 0) (cmulim (floatOfInt .f64 (wrap64 (a0_1 - a0_2))) (floatOfInt .f64 a0_3) (floatOfInt .f64 a1) 0) (pk4 a2 4607182418800017408 0 13830554455654793216 0) (pk4 a2 0 4607182418800017408 0 13830554455654793216)), 0)) else (none)) else (none)) else (none)) else (none)) else (some (cx 0 0, 5)))) = some (r1, r2) := by rw [if_pos rfl] at H; exact H
      clear H
      have H := H1
      clear H1
      replace H := Option.bind_eq_some_iff.mp H
      obtain ⟨t105, A140, H⟩ := H
      replace H : (if t105 = true then (if cmulok (floatOfInt .f64 (wrap64 (a0_1 - a0_2))) (floatOfInt .f64 a0_3) (floatOfInt .f64 a1) 0 = true then (if 0 ≤ a2 then (if a2 < 4 then (if cmulok (cmulre (floatOfInt .f64 (wrap64 (a0_1 - a0_2))) (floatOfInt .f64 a0_3) (floatOfInt .f64 a1) 0) (cmulim (floatOfInt .f64 (wrap64 (a0_1 - a0_2))) (floatOfInt .f64 a0_3) (floatOfInt .f64 a1) 0) (pk4 a2 4607182418800017408 0 13830554455654793216 0) (pk4 a2 0 4607182418800017408 0 13830554455654793216) = true then (some (cx (cmulre (cmulre (floatOfInt .f64 (wrap64 (a0_1 - a0_2))) (floatOfInt .f64 a0_3) (floatOfInt .f64 a1) 0) (cmulim (floatOfInt .f64 (wrap64 (a0_1 - a0_2))) (floatOfInt .f64 a0_3) (floatOfInt .f64 a1) 0) (pk4 a2 4607182418800017408 0 13830554455654793216 0) (pk4 a2 0 4607182418800017408 0 13830554455654793216)) (cmulim (cmulre (floatOfInt .f64 (wrap64 (a0_1 - a0_2))) (floatOfInt .f64 a0_3) (floatOfInt .f64 a1) 0) (cmulim (floatOfInt .f64 (wrap64 (a0_1 - a0_2))) (floatOfInt .f64 a0_3) (floatOfInt .f64 a1) 0) (pk4 a2 4607182418800017408 0 13830554455654793216 0) (pk4 a2 0 4607182418800017408 0 13830554455654793216)), 0)) else (none)) else (none)) else (none)) else (none)) else (some (cx 0 0, 5))) = some (r1, r2) := H
      have A14 := Aside0.mk A140
      clear A140
      by_cases c15 : t105 = true
      ·
       subst c15
       have H1 : (if cmulok (floatOfInt .f64 (wrap64 (a0_1 - a0_2))) (floatOfInt .f64 a0_3) (floatOfInt .f64 a1) 0 = true then (if 0 ≤ a2 then (if a2 < 4 then (if cmulok (cmulre (floatOfInt .f64 (wrap64 (a0_1 - a0_2))) (floatOfInt .f64 a0_3) (floatOfInt .f64 a1) 0) (cmulim (floatOfInt .f64 (wrap64 (a0_1 - a0_2))) (floatOfInt .f64 a0_3) (floatOfInt .f64 a1) 0) (pk4 a2 4607182418800017408 0 13830554455654793216 0) (pk4 a2 0 4607182418800017408 0 13830554455654793216) = true then (some (cx (cmulre (cmulre (floatOfInt .f64 (wrap64 (a0_1 - a0_2))) (floatOfInt .f64 a0_3) (floatOfInt .f64 a1) 0) (cmulim (floatOfInt .f64 (wrap64 (a0_1 - a0_2))) (floatOfInt .f64 a0_3) (floatOfInt .f64 a1) 0) (pk4 a2 4607182418800017408 0 13830554455654793216 0) (pk4 a2 0 4607182418800017408 0 13830554455654793216)) (cmulim (cmulre (floatOfInt .f64 (wrap64 (a0_1 - a0_2))) (floatOfInt .f64 a0_3) (floatOfInt .f64 a1) 0) (cmulim (floatOfInt .f64 (wrap64 (a0_1 - a0_2))) (floatOfInt .f64 a0_3) (floatOfInt .f64 a1) 0) (pk4 a2 4607182418800017408 0 13830554455654793216 0) (pk4 a2 0 4607182418800017408 0 13830554455654793216)), 0)) else (none)) else (none)) else (none)) else (none)) = some (r1, r2) := by rw [if_pos rfl] at H; exact H
       clear H
       have H := H1
       clear H1
       by_cases c16 : cmulok (floatOfInt .f64 (wrap64 (a0_1 - a0_2))) (floatOfInt .f64 a0_3) (floatOfInt .f64 a1) 0 = true
       ·
        rw [if_pos c16] at H
        have c16b0 := eq_true c16
        have c16b1 : decide (cmulok (floatOfInt .f64 (wrap64 (a0_1 - a0_2))) (floatOfInt .f64 a0_3) (floatOfInt .f64 a1) 0 = true) = true := decide_eq_true c16
        clear c16
        by_cases c17 : 0 ≤ a2
        ·
         rw [if_pos c17] at H
         have c17b0 := eq_true c17
         have c17b1 : decide (0 ≤ a2) = true := decide_eq_true c17
         clear c17
         by_cases c18 : a2 < 4
         ·
          rw [if_pos c18] at H
          have c18b0 := eq_true c18
          have c18b1 : decide (a2 < 4) = true := decide_eq_true c18
          clear c18
          by_cases c19 : cmulok (cmulre (floatOfInt .f64 (wrap64 (a0_1 - a0_2))) (floatOfInt .f64 a0_3) (floatOfInt .f64 a1) 0) (cmulim (floatOfInt .f64 (wrap64 (a0_1 - a0_2))) (floatOfInt .f64 a0_3) (floatOfInt .f64 a1) 0) (pk4 a2 4607182418800017408 0 13830554455654793216 0) (pk4 a2 0 4607182418800017408 0 13830554455654793216) = true
          ·
           rw [if_pos c19] at H
           have c19b0 := eq_true c19
           have c19b1 : decide (cmulok (cmulre (floatOfInt .f64 (wrap64 (a0_1 - a0_2))) (floatOfInt .f64 a0_3) (floatOfInt .f64 a1) 0) (cmulim (floatOfInt .f64 (wrap64 (a0_1 - a0_2))) (floatOfInt .f64 a0_3) (floatOfInt .f64 a1) 0) (pk4 a2 4607182418800017408 0 13830554455654793216 0) (pk4 a2 0 4607182418800017408 0 13830554455654793216) = true) = true := decide_eq_true c19
           clear c19
           simp only [Option.some.injEq, Prod.mk.injEq] at H
           obtain ⟨rfl, rfl⟩ := H
           have hcz20_0 : wc.cell? ⟨gb101, 0, none⟩ = some (.int .i64 a0_0) := (bC_ BK101.out 0).trans rfl
           have hcz20_1 : wc.cell? ⟨gb101, 1, none⟩ = some (.int .i64 a0_1) := (bC_ BK101.out 1).trans rfl
           have hcz20_2 : wc.cell? ⟨gb101, 2, none⟩ = some (.int .i64 a0_2) := (bC_ BK101.out 2).trans rfl
           have hcz20_3 : wc.cell? ⟨gb101, 3, none⟩ = some (.int .i64 a0_3) := (bC_ BK101.out 3).trans rfl
           have hcz20_4 : wc.cell? ⟨gb101, 4, none⟩ = some (.int .u8 a0_4) := (bC_ BK101.out 4).trans rfl
           have hfz20_0 := bZ_ BK101.out 0
           have hfz20_1 := bZ_ BK101.out 1
           have hfz20_2 := bZ_ BK101.out 2
           have hfz20_3 := bZ_ BK101.out 3
           have hfz20_4 := bZ_ BK101.out 4
           go_wp2_with (first | ((with_reducible refine gate_callee (f := 59) rfl ?_); refine goesL_ (some 20) rfl rfl Try.func59 (by kernel_rfl) rfl #[.int .i64 a0_1, .int .i64 0, .int .i64 10000000] rfl (by (try simp only [List.map_toArray, List.map_cons, List.map_nil]); first | done | rfl | (simp only [List.length_drop, List.length_take]; rfl)) ?_; (with_reducible refine (meter_within.calls a0_1 0 10000000 true _ A10.out).mono ?_); rintro e w' ⟨rfl, ⟨nd, rfl⟩⟩; refine ⟨_, rfl, ?_⟩) | ((with_reducible refine gate_callee (f := 59) rfl ?_); refine goesL_ (some 24) rfl rfl Try.func59 (by kernel_rfl) rfl #[.int .i64 a0_2, .int .i64 0, .int .i64 10000000] rfl (by (try simp only [List.map_toArray, List.map_cons, List.map_nil]); first | done | rfl | (simp only [List.length_drop, List.length_take]; rfl)) ?_; (with_reducible refine (meter_within.calls a0_2 0 10000000 true _ A12.out).mono ?_); rintro e w' ⟨rfl, ⟨nd, rfl⟩⟩; refine ⟨_, rfl, ?_⟩) | ((with_reducible refine gate_callee (f := 59) rfl ?_); refine goesL_ (some 28) rfl rfl Try.func59 (by kernel_rfl) rfl #[.int .i64 a0_3, .int .i64 (-10000000), .int .i64 10000000] rfl (by (try simp only [List.map_toArray, List.map_cons, List.map_nil]); first | done | rfl | (simp only [List.length_drop, List.length_take]; rfl)) ?_; (with_reducible refine (meter_within.calls a0_3 (-10000000) 10000000 true _ A14.out).mono ?_); rintro e w' ⟨rfl, ⟨nd, rfl⟩⟩; refine ⟨_, rfl, ?_⟩))
           go_ret2
           exact ⟨by first | rfl | (simp [errW_none, errW_some] <;> rfl) | (simp [*, errW_none, errW_some] <;> rfl), by repeat (first | (with_reducible first | exact HB.out | apply lA_ | apply lN_ | apply l1_ | refine lS_ ?_ GE101.out) | exact HB.out)⟩
          ·
           rw [if_neg c19] at H
           exact absurd H (by simp)
         ·
          rw [if_neg c18] at H
          exact absurd H (by simp)
        ·
         rw [if_neg c17] at H
         exact absurd H (by simp)
       ·
        rw [if_neg c16] at H
        exact absurd H (by simp)
      ·
       replace c15 := Bool.eq_false_iff.mpr c15
       subst c15
       have H1 : (some (cx 0 0, 5)) = some (r1, r2) := by rw [if_neg (show ¬ (false = true) by decide)] at H; exact H
       clear H
       have H := H1
       clear H1
       simp only [Option.some.injEq, Prod.mk.injEq] at H
       obtain ⟨rfl, rfl⟩ := H
       have hcz21_0 : wc.cell? ⟨gb101, 0, none⟩ = some (.int .i64 a0_0) := (bC_ BK101.out 0).trans rfl
       have hcz21_1 : wc.cell? ⟨gb101, 1, none⟩ = some (.int .i64 a0_1) := (bC_ BK101.out 1).trans rfl
       have hcz21_2 : wc.cell? ⟨gb101, 2, none⟩ = some (.int .i64 a0_2) := (bC_ BK101.out 2).trans rfl
       have hcz21_3 : wc.cell? ⟨gb101, 3, none⟩ = some (.int .i64 a0_3) := (bC_ BK101.out 3).trans rfl
       have hcz21_4 : wc.cell? ⟨gb101, 4, none⟩ = some (.int .u8 a0_4) := (bC_ BK101.out 4).trans rfl
       have hfz21_0 := bZ_ BK101.out 0
       have hfz21_1 := bZ_ BK101.out 1
       have hfz21_2 := bZ_ BK101.out 2
       have hfz21_3 := bZ_ BK101.out 3
       have hfz21_4 := bZ_ BK101.out 4
       go_wp2_with (first | ((with_reducible refine gate_callee (f := 59) rfl ?_); refine goesL_ (some 20) rfl rfl Try.func59 (by kernel_rfl) rfl #[.int .i64 a0_1, .int .i64 0, .int .i64 10000000] rfl (by (try simp only [List.map_toArray, List.map_cons, List.map_nil]); first | done | rfl | (simp only [List.length_drop, List.length_take]; rfl)) ?_; (with_reducible refine (meter_within.calls a0_1 0 10000000 true _ A10.out).mono ?_); rintro e w' ⟨rfl, ⟨nd, rfl⟩⟩; refine ⟨_, rfl, ?_⟩) | ((with_reducible refine gate_callee (f := 59) rfl ?_); refine goesL_ (some 24) rfl rfl Try.func59 (by kernel_rfl) rfl #[.int .i64 a0_2, .int .i64 0, .int .i64 10000000] rfl (by (try simp only [List.map_toArray, List.map_cons, List.map_nil]); first | done | rfl | (simp only [List.length_drop, List.length_take]; rfl)) ?_; (with_reducible refine (meter_within.calls a0_2 0 10000000 true _ A12.out).mono ?_); rintro e w' ⟨rfl, ⟨nd, rfl⟩⟩; refine ⟨_, rfl, ?_⟩) | ((with_reducible refine gate_callee (f := 59) rfl ?_); refine goesL_ (some 28) rfl rfl Try.func59 (by kernel_rfl) rfl #[.int .i64 a0_3, .int .i64 (-10000000), .int .i64 10000000] rfl (by (try simp only [List.map_toArray, List.map_cons, List.map_nil]); first | done | rfl | (simp only [List.length_drop, List.length_take]; rfl)) ?_; (with_reducible refine (meter_within.calls a0_3 (-10000000) 10000000 false _ A14.out).mono ?_); rintro e w' ⟨rfl, ⟨nd, rfl⟩⟩; refine ⟨_, rfl, ?_⟩))
       go_ret2
       exact ⟨by first | rfl | (simp [errW_none, errW_some] <;> rfl) | (simp [*, errW_none, errW_some] <;> rfl), by repeat (first | (with_reducible first | exact HB.out | apply lA_ | apply lN_ | apply l1_ | refine lS_ ?_ GE101.out) | exact HB.out)⟩
     ·
      replace c13 := Bool.eq_false_iff.mpr c13
      subst c13
      have H1 : (some (cx 0 0, 5)) = some (r1, r2) := by rw [if_neg (show ¬ (false = true) by decide)] at H; exact H
      clear H
      have H := H1
      clear H1
      simp only [Option.some.injEq, Prod.mk.injEq] at H
      obtain ⟨rfl, rfl⟩ := H
      have hcz22_0 : wc.cell? ⟨gb101, 0, none⟩ = some (.int .i64 a0_0) := (bC_ BK101.out 0).trans rfl
      have hcz22_1 : wc.cell? ⟨gb101, 1, none⟩ = some (.int .i64 a0_1) := (bC_ BK101.out 1).trans rfl
      have hcz22_2 : wc.cell? ⟨gb101, 2, none⟩ = some (.int .i64 a0_2) := (bC_ BK101.out 2).trans rfl
      have hcz22_3 : wc.cell? ⟨gb101, 3, none⟩ = some (.int .i64 a0_3) := (bC_ BK101.out 3).trans rfl
      have hcz22_4 : wc.cell? ⟨gb101, 4, none⟩ = some (.int .u8 a0_4) := (bC_ BK101.out 4).trans rfl
      have hfz22_0 := bZ_ BK101.out 0
      have hfz22_1 := bZ_ BK101.out 1
      have hfz22_2 := bZ_ BK101.out 2
      have hfz22_3 := bZ_ BK101.out 3
      have hfz22_4 := bZ_ BK101.out 4
      go_wp2_with (first | ((with_reducible refine gate_callee (f := 59) rfl ?_); refine goesL_ (some 20) rfl rfl Try.func59 (by kernel_rfl) rfl #[.int .i64 a0_1, .int .i64 0, .int .i64 10000000] rfl (by (try simp only [List.map_toArray, List.map_cons, List.map_nil]); first | done | rfl | (simp only [List.length_drop, List.length_take]; rfl)) ?_; (with_reducible refine (meter_within.calls a0_1 0 10000000 true _ A10.out).mono ?_); rintro e w' ⟨rfl, ⟨nd, rfl⟩⟩; refine ⟨_, rfl, ?_⟩) | ((with_reducible refine gate_callee (f := 59) rfl ?_); refine goesL_ (some 24) rfl rfl Try.func59 (by kernel_rfl) rfl #[.int .i64 a0_2, .int .i64 0, .int .i64 10000000] rfl (by (try simp only [List.map_toArray, List.map_cons, List.map_nil]); first | done | rfl | (simp only [List.length_drop, List.length_take]; rfl)) ?_; (with_reducible refine (meter_within.calls a0_2 0 10000000 false _ A12.out).mono ?_); rintro e w' ⟨rfl, ⟨nd, rfl⟩⟩; refine ⟨_, rfl, ?_⟩))
      go_ret2
      exact ⟨by first | rfl | (simp [errW_none, errW_some] <;> rfl) | (simp [*, errW_none, errW_some] <;> rfl), by repeat (first | (with_reducible first | exact HB.out | apply lA_ | apply lN_ | apply l1_ | refine lS_ ?_ GE101.out) | exact HB.out)⟩
    ·
     replace c11 := Bool.eq_false_iff.mpr c11
     subst c11
     have H1 : (some (cx 0 0, 5)) = some (r1, r2) := by rw [if_neg (show ¬ (false = true) by decide)] at H; exact H
     clear H
     have H := H1
     clear H1
     simp only [Option.some.injEq, Prod.mk.injEq] at H
     obtain ⟨rfl, rfl⟩ := H
     have hcz23_0 : wc.cell? ⟨gb101, 0, none⟩ = some (.int .i64 a0_0) := (bC_ BK101.out 0).trans rfl
     have hcz23_1 : wc.cell? ⟨gb101, 1, none⟩ = some (.int .i64 a0_1) := (bC_ BK101.out 1).trans rfl
     have hcz23_2 : wc.cell? ⟨gb101, 2, none⟩ = some (.int .i64 a0_2) := (bC_ BK101.out 2).trans rfl
     have hcz23_3 : wc.cell? ⟨gb101, 3, none⟩ = some (.int .i64 a0_3) := (bC_ BK101.out 3).trans rfl
     have hcz23_4 : wc.cell? ⟨gb101, 4, none⟩ = some (.int .u8 a0_4) := (bC_ BK101.out 4).trans rfl
     have hfz23_0 := bZ_ BK101.out 0
     have hfz23_1 := bZ_ BK101.out 1
     have hfz23_2 := bZ_ BK101.out 2
     have hfz23_3 := bZ_ BK101.out 3
     have hfz23_4 := bZ_ BK101.out 4
     go_wp2_with (first | ((with_reducible refine gate_callee (f := 59) rfl ?_); refine goesL_ (some 20) rfl rfl Try.func59 (by kernel_rfl) rfl #[.int .i64 a0_1, .int .i64 0, .int .i64 10000000] rfl (by (try simp only [List.map_toArray, List.map_cons, List.map_nil]); first | done | rfl | (simp only [List.length_drop, List.length_take]; rfl)) ?_; (with_reducible refine (meter_within.calls a0_1 0 10000000 false _ A10.out).mono ?_); rintro e w' ⟨rfl, ⟨nd, rfl⟩⟩; refine ⟨_, rfl, ?_⟩))
     go_ret2
     exact ⟨by first | rfl | (simp [errW_none, errW_some] <;> rfl) | (simp [*, errW_none, errW_some] <;> rfl), by repeat (first | (with_reducible first | exact HB.out | apply lA_ | apply lN_ | apply l1_ | refine lS_ ?_ GE101.out) | exact HB.out)⟩

/-! ### pylonlaw12_awake: function 20 -/
def pylonlaw12_awake.f (k : Nat)  : Option (Bool) := (meter_Point.f k 0 100 30 (-5) 0 2 1).bind fun bt106 => (if bt106.2 = 0 then (some (ceq bt106.1.re bt106.1.im 4621819117588971520 4639129828656676864)) else (some false))
theorem pylonlaw12_awake.mono : ∀ k, LeO (pylonlaw12_awake.f k ) (pylonlaw12_awake.f (k + 1) ) := by
 intro  k
 unfold pylonlaw12_awake.f
 repeat' first
   | (with_reducible exact meter_Point.mono _ _ _ _ _ _ _ _)
   | (with_reducible exact LeO.refl _)
   | (with_reducible exact LeO.none _)
   | (with_reducible refine LeO.ite ?_ ?_)
   | (with_reducible refine LeO.bind ?_ (fun _ => ?_))
   | exact meter_Point.mono _ _ _ _ _ _ _ _
   | exact LeO.none _
   | refine LeO.ite ?_ ?_
   | refine LeO.bind ?_ (fun _ => ?_)
set_option maxHeartbeats 8000000 in
set_option maxRecDepth 100000 in
theorem pylonlaw12_awake.calls (k : Nat)  (r : Bool) (w : World) (h : pylonlaw12_awake.f k  = some r) :
  Calls Try.prog 20 #[] w fun e w' => e = .returned (.bool r) ∧ Below w.heap.size w w' := by
 have hu25 := Try.underlying25
 have HB := Aside0.mk (Below.refl w.heap.size w)
 have H : ((meter_Point.f k 0 100 30 (-5) 0 2 1).bind fun bt106 => (if bt106.2 = 0 then (some (ceq bt106.1.re bt106.1.im 4621819117588971520 4639129828656676864)) else (some false))) = some r := h
 clear h
 replace H := Option.bind_eq_some_iff.mp H
 obtain ⟨⟨t106, t107⟩, A10, H⟩ := H
 replace H : (if t107 = 0 then (some (ceq t106.re t106.im 4621819117588971520 4639129828656676864)) else (some false)) = some r := H
 have A1 := Aside0.mk A10
 clear A10
 by_cases c2 : t107 = 0
 ·
  rw [if_pos c2] at H
  have c2b0 : (t107 == 0) = true := beq_iff_eq.mpr c2
  have c2b1 : (t107 != 0) = false := bne_eq_false_iff_eq.mpr c2
  clear c2
  obtain rfl := Option.some.inj H
  go_enter Try.func20, Try.ntmps20
  go_wp2_with (first | ((with_reducible refine gate_callee (f := 23) rfl ?_); refine goesL_ (some 5) rfl rfl Try.func23 (by kernel_rfl) rfl #[.agg #[.int .i64 0, .int .i64 100, .int .i64 30, .int .i64 (-5), .int .u8 0], .int .i64 2, .int .i64 1] rfl (by (try simp only [List.map_toArray, List.map_cons, List.map_nil]); first | done | rfl | (simp only [List.length_drop, List.length_take]; rfl)) ?_; (with_reducible refine (meter_Point.calls k 0 100 30 (-5) 0 2 1 t106 t107 _ A1.out).mono ?_); rintro e w3 ⟨rfl, hb⟩; refine ⟨_, rfl, ?_⟩; have n0_ := Aside0.mk (below_step (by repeat (first | (with_reducible first | exact HB.out | apply lA_ | apply lN_ | apply l1_) | exact HB.out)) hb); clear HB; have HB := n0_; clear n0_; (try clear hb); (try clear hb2); (try clear hk); (try clear hi)))
  go_ret
  exact ⟨by first | rfl | (simp [errW_none, errW_some] <;> rfl) | (simp [*, errW_none, errW_some] <;> rfl), by repeat (first | (with_reducible first | exact HB.out | apply lA_ | apply lN_ | apply l1_) | exact HB.out)⟩
 ·
  rw [if_neg c2] at H
  have c2b0 : (t107 == 0) = false := beq_eq_false_iff_ne.mpr c2
  have c2b1 : (t107 != 0) = true := bne_iff_ne.mpr c2
  obtain rfl := Option.some.inj H
  go_enter Try.func20, Try.ntmps20
  go_wp2_with (first | ((with_reducible refine gate_callee (f := 23) rfl ?_); refine goesL_ (some 5) rfl rfl Try.func23 (by kernel_rfl) rfl #[.agg #[.int .i64 0, .int .i64 100, .int .i64 30, .int .i64 (-5), .int .u8 0], .int .i64 2, .int .i64 1] rfl (by (try simp only [List.map_toArray, List.map_cons, List.map_nil]); first | done | rfl | (simp only [List.length_drop, List.length_take]; rfl)) ?_; (with_reducible refine (meter_Point.calls k 0 100 30 (-5) 0 2 1 t106 t107 _ A1.out).mono ?_); rintro e w4 ⟨rfl, hb⟩; refine ⟨_, rfl, ?_⟩; have n0_ := Aside0.mk (below_step (by repeat (first | (with_reducible first | exact HB.out | apply lA_ | apply lN_ | apply l1_) | exact HB.out)) hb); clear HB; have HB := n0_; clear n0_; (try clear hb); (try clear hb2); (try clear hk); (try clear hi)))
  go_ret
  exact ⟨by first | rfl | (simp [errW_none, errW_some] <;> rfl) | (simp [*, errW_none, errW_some] <;> rfl), by repeat (first | (with_reducible first | exact HB.out | apply lA_ | apply lN_ | apply l1_) | exact HB.out)⟩

/-! ### pylonref12_SameSeries: function 22 -/
def pylonref12_SameSeries.l0 : Nat → List Cx → List Cx → Int → Int → Option (Bool)
 | 0, _, _, _, _ => none
 | k + 1, x0, x1, x12, x13 => if x13 < x12 then (if 0 ≤ x13 then (if x13 < (x0.length : Int) then (if x13 < (x1.length : Int) then (if (ceq (rdOf (cx 0 0) x0 x13).re (rdOf (cx 0 0) x0 x13).im (rdOf (cx 0 0) x1 x13).re (rdOf (cx 0 0) x1 x13).im = true) then (pylonref12_SameSeries.l0 k x0 x1 x12 (wrap64 (x13 + 1))) else (some false)) else (none)) else (none)) else (none)) else (some true)
def pylonref12_SameSeries.f (k : Nat) (l0 : List Cx) (l1 : List Cx) : Option (Bool) := if (l0.length : Int) = (l1.length : Int) then (pylonref12_SameSeries.l0 k l0 l1 (l0.length : Int) 0) else (some false)
theorem pylonref12_SameSeries.mono_l : ∀ k, (∀ y0 y1 y2 y3, LeO (pylonref12_SameSeries.l0 k y0 y1 y2 y3) (pylonref12_SameSeries.l0 (k + 1) y0 y1 y2 y3))
 | 0 => fun _ _ _ _ r h => by simp [pylonref12_SameSeries.l0] at h
 | k + 1 => by
  have ih0 := pylonref12_SameSeries.mono_l k
  ·
   intro y0 y1 y2 y3
   unfold pylonref12_SameSeries.l0
   repeat' first
   | (with_reducible exact ih0 _ _ _ _)
   | (with_reducible exact LeO.refl _)
   | (with_reducible exact LeO.none _)
   | (with_reducible refine LeO.ite ?_ ?_)
   | (with_reducible refine LeO.bind ?_ (fun _ => ?_))
   | exact ih0 _ _ _ _
   | exact LeO.none _
   | refine LeO.ite ?_ ?_
   | refine LeO.bind ?_ (fun _ => ?_)
theorem pylonref12_SameSeries.mono : ∀ a0 a1 k, LeO (pylonref12_SameSeries.f k a0 a1) (pylonref12_SameSeries.f (k + 1) a0 a1) := by
 intro a0 a1 k
 have ih0 := pylonref12_SameSeries.mono_l k
 unfold pylonref12_SameSeries.f
 repeat' first
   | (with_reducible exact ih0 _ _ _ _)
   | (with_reducible exact LeO.refl _)
   | (with_reducible exact LeO.none _)
   | (with_reducible refine LeO.ite ?_ ?_)
   | (with_reducible refine LeO.bind ?_ (fun _ => ?_))
   | exact ih0 _ _ _ _
   | exact LeO.none _
   | refine LeO.ite ?_ ?_
   | refine LeO.bind ?_ (fun _ => ?_)
set_option maxHeartbeats 8000000 in
set_option maxRecDepth 100000 in
theorem pylonref12_SameSeries.calls (k : Nat) (A0 : Option Addr) (c0 : Nat) (l0 : List Cx) (A1 : Option Addr) (c1 : Nat) (l1 : List Cx) (r : Bool) (w : World) (hr0 : Kd.C Kd.c128 w A0 l0.length l0) (hc0 : l0.length ≤ c0) (hr1 : Kd.C Kd.c128 w A1 l1.length l1) (hc1 : l1.length ≤ c1) (h : pylonref12_SameSeries.f k l0 l1 = some r) :
  Calls Try.prog 22 #[.slice A0 l0.length c0, .slice A1 l1.length c1] w fun e w' => e = .returned (.bool r) ∧ Drawn0 w w' := by
 have HR0 := Aside0.mk hr0
 have HC0 := Aside0.mk hc0
 clear hr0 hc0
 have HR1 := Aside0.mk hr1
 have HC1 := Aside0.mk hc1
 clear hr1 hc1
 have H : (if (l0.length : Int) = (l1.length : Int) then (pylonref12_SameSeries.l0 k l0 l1 (l0.length : Int) 0) else (some false)) = some r := h
 clear h
 by_cases c3 : (l0.length : Int) = (l1.length : Int)
 ·
  rw [if_pos c3] at H
  have c3b0 : ((l0.length : Int) == (l1.length : Int)) = true := beq_iff_eq.mpr c3
  have c3b1 : ((l0.length : Int) != (l1.length : Int)) = false := bne_eq_false_iff_eq.mpr c3
  have c3b2 : (l0.length == l1.length) = true := by first | simpa using c3 | (simp at c3 ⊢; omega)
  clear c3
  have H' := Aside0.mk H
  clear H
  go_enter Try.func22, Try.ntmps22
  go_wp2
  repeat (go_quiet (fail); try go_wp2)
  go_loopg [13] k (fun kq v13 w' => ∃ (x13_1 : Int), v13 = .int .i64 x13_1 ∧ Aside0 (pylonref12_SameSeries.l0 kq l0 l1 (l0.length : Int) x13_1 = some r) ∧ Aside0 (kq ≤ k) ∧ Drawn0 w w')
  case atStart => exact ⟨(0), (by first | rfl | (simp; done) | (simp [*]; done)), H', ⟨Nat.le_refl _⟩, by repeat (first | exact Drawn0.refl _ | apply Drawn0.step)⟩
  case round =>
   clear H'
   try clear c1
   try clear c2
   try clear p2
   try clear c3
   try clear c3b0
   try clear c3b1
   try clear c3b2
   obtain ⟨x13_1, rfl, HA, HK1, ⟨m1, rfl⟩⟩ := hrel
   cases gk with
   | zero => exact absurd HA.out (by simp [pylonref12_SameSeries.l0])
   | succ k1 =>
    have H := HA.out
    clear HA
    simp only [pylonref12_SameSeries.l0] at H
    by_cases c4 : x13_1 < (l0.length : Int)
    ·
     rw [if_pos c4] at H
     have c4b0 : decide (x13_1 < (l0.length : Int)) = true := decide_eq_true c4
     clear c4
     by_cases c5 : 0 ≤ x13_1
     ·
      rw [if_pos c5] at H
      have c5b0 : decide (0 ≤ x13_1) = true := decide_eq_true c5
      clear c5
      by_cases c6 : x13_1 < (l0.length : Int)
      ·
       rw [if_pos c6] at H
       have c6b0 : decide (x13_1 < (l0.length : Int)) = true := decide_eq_true c6
       clear c6
       by_cases c7 : x13_1 < (l1.length : Int)
       ·
        rw [if_pos c7] at H
        have c7b0 : decide (x13_1 < (l1.length : Int)) = true := decide_eq_true c7
        clear c7
        by_cases c8 : (ceq (rdOf (cx 0 0) l0 x13_1).re (rdOf (cx 0 0) l0 x13_1).im (rdOf (cx 0 0) l1 x13_1).re (rdOf (cx 0 0) l1 x13_1).im = true)
        ·
         rw [if_pos c8] at H
         have c8b0 : ceq (rdOf (cx 0 0) l0 x13_1).re (rdOf (cx 0 0) l0 x13_1).im (rdOf (cx 0 0) l1 x13_1).re (rdOf (cx 0 0) l1 x13_1).im = true := c8
         clear c8
         have H' := Aside0.mk H
         clear H
         have p108 : 0 ≤ (x13_1 : Int) := of_decide_eq_true (by first | (with_reducible assumption) | assumption)
         have q108 : x13_1 < (l0.length : Int) := of_decide_eq_true (by first | (with_reducible assumption) | assumption)
         obtain ⟨ad108, e108, hx108_0⟩ := Kd.at_c128 HR0.out x13_1 p108 q108
         cases e108
         replace p108 := eq_true p108
         replace q108 := eq_true q108
         have p109 : 0 ≤ (x13_1 : Int) := of_decide_eq_true (by first | (with_reducible assumption) | assumption)
         have q109 : x13_1 < (l1.length : Int) := of_decide_eq_true (by first | (with_reducible assumption) | assumption)
         obtain ⟨ad109, e109, hx109_0⟩ := Kd.at_c128 HR1.out x13_1 p109 q109
         cases e109
         replace p109 := eq_true p109
         replace q109 := eq_true q109
         go_wp2
         repeat (go_quiet (fail); try go_wp2)
         go_roundg k1
         case measure => have := HK1.out; omega
         case rel => exact ⟨(wrap64 (x13_1 + 1)), (by first | rfl | (simp; done) | (simp [*]; done)), H', ⟨by have := HK1.out; omega⟩, by repeat (first | exact Drawn0.refl _ | apply Drawn0.step)⟩
        ·
         rw [if_neg c8] at H
         have c8b0 : ceq (rdOf (cx 0 0) l0 x13_1).re (rdOf (cx 0 0) l0 x13_1).im (rdOf (cx 0 0) l1 x13_1).re (rdOf (cx 0 0) l1 x13_1).im = false := Bool.eq_false_iff.mpr c8
         clear c8
         obtain rfl := Option.some.inj H
         have p108 : 0 ≤ (x13_1 : Int) := of_decide_eq_true (by first | (with_reducible assumption) | assumption)
         have q108 : x13_1 < (l0.length : Int) := of_decide_eq_true (by first | (with_reducible assumption) | assumption)
         obtain ⟨ad108, e108, hx108_0⟩ := Kd.at_c128 HR0.out x13_1 p108 q108
         cases e108
         replace p108 := eq_true p108
         replace q108 := eq_true q108
         have p109 : 0 ≤ (x13_1 : Int) := of_decide_eq_true (by first | (with_reducible assumption) | assumption)
         have q109 : x13_1 < (l1.length : Int) := of_decide_eq_true (by first | (with_reducible assumption) | assumption)
         obtain ⟨ad109, e109, hx109_0⟩ := Kd.at_c128 HR1.out x13_1 p109 q109
         cases e109
         replace p109 := eq_true p109
         replace q109 := eq_true q109
         go_wp2
         repeat (go_quiet (fail); try go_wp2)
         go_ret
         exact ⟨by first | rfl | (simp; done) | (simp [*]; done), by repeat (first | exact Drawn0.refl _ | apply Drawn0.step)⟩
       ·
        rw [if_neg c7] at H
        exact absurd H (by simp)
      ·
       rw [if_neg c6] at H
       exact absurd H (by simp)
     ·
      rw [if_neg c5] at H
      exact absurd H (by simp)
    ·
     rw [if_neg c4] at H
     have c4b0 : decide (x13_1 < (l0.length : Int)) = false := decide_eq_false c4
     clear c4
     obtain rfl := Option.some.inj H
     go_wp2
     repeat (go_quiet (fail); try go_wp2)
     go_ret
     exact ⟨by first | rfl | (simp; done) | (simp [*]; done), by repeat (first | exact Drawn0.refl _ | apply Drawn0.step)⟩
 ·
  rw [if_neg c3] at H
  have c3b0 : ((l0.length : Int) == (l1.length : Int)) = false := beq_eq_false_iff_ne.mpr c3
  have c3b1 : ((l0.length : Int) != (l1.length : Int)) = true := bne_iff_ne.mpr c3
  have c3b2 : (l0.length == l1.length) = false := by first | simpa using c3 | (simp at c3 ⊢; omega)
  obtain rfl := Option.some.inj H
  go_enter Try.func22, Try.ntmps22
  go_wp2
  repeat (go_quiet (fail); try go_wp2)
  go_ret
  exact ⟨by first | rfl | (simp; done) | (simp [*]; done), by repeat (first | exact Drawn0.refl _ | apply Drawn0.step)⟩

/-! ### meter_Series: function 21 -/
def meter_Series.l0 : Nat → Int → Int → List Cx → List (S25) → Int → Int → Option (List Cx × Int)
 | 0, _, _, _, _, _, _ => none
 | k + 1, x1, x2, x8, x19, x20, x21 => if x21 < x20 then (if 0 ≤ x21 then (if x21 < (x19.length : Int) then ((meter_Point.f k ((rd_T25 x19 x21).f0) ((rd_T25 x19 x21).f1) ((rd_T25 x19 x21).f2) ((rd_T25 x19 x21).f3) ((rd_T25 x19 x21).f4) x1 x2).bind fun bt115 => (if bt115.2 = 0 then (if x8.length < 8796093022208 then (meter_Series.l0 k x1 x2 (x8 ++ [bt115.1]) x19 x20 (wrap64 (x21 + 1))) else (none)) else (some (([] : List Cx), bt115.2)))) else (none)) else (none)) else (some (x8, 0))
def meter_Series.f (k : Nat) (l0 : List (S25)) (a1 : Int) (a2 : Int) : Option (List Cx × Int) := if (l0.length : Int) > 40000 then (some (([] : List Cx), 9)) else (if 0 ≤ (l0.length : Int) then (if ((l0.length : Int) : Int).toNat ≤ 17592186044416 then (meter_Series.l0 k a1 a2 (List.replicate 0 (cx 0 0)) l0 (l0.length : Int) 0) else (none)) else (none))
theorem meter_Series.mono_l : ∀ k, (∀ y0 y1 y2 y3 y4 y5, LeO (meter_Series.l0 k y0 y1 y2 y3 y4 y5) (meter_Series.l0 (k + 1) y0 y1 y2 y3 y4 y5))
 | 0 => fun _ _ _ _ _ _ r h => by simp [meter_Series.l0] at h
 | k + 1 => by
  have ih0 := meter_Series.mono_l k
  ·
   intro y0 y1 y2 y3 y4 y5
   unfold meter_Series.l0
   repeat' first
   | (with_reducible exact ih0 _ _ _ _ _ _)
   | (with_reducible exact meter_Point.mono _ _ _ _ _ _ _ _)
   | (with_reducible exact LeO.refl _)
   | (with_reducible exact LeO.none _)
   | (with_reducible refine LeO.ite ?_ ?_)
   | (with_reducible refine LeO.bind ?_ (fun _ => ?_))
   | exact ih0 _ _ _ _ _ _
   | exact meter_Point.mono _ _ _ _ _ _ _ _
   | exact LeO.none _
   | refine LeO.ite ?_ ?_
   | refine LeO.bind ?_ (fun _ => ?_)
theorem meter_Series.mono : ∀ a0 a1 a2 k, LeO (meter_Series.f k a0 a1 a2) (meter_Series.f (k + 1) a0 a1 a2) := by
 intro a0 a1 a2 k
 have ih0 := meter_Series.mono_l k
 unfold meter_Series.f
 repeat' first
   | (with_reducible exact ih0 _ _ _ _ _ _)
   | (with_reducible exact meter_Point.mono _ _ _ _ _ _ _ _)
   | (with_reducible exact LeO.refl _)
   | (with_reducible exact LeO.none _)
   | (with_reducible refine LeO.ite ?_ ?_)
   | (with_reducible refine LeO.bind ?_ (fun _ => ?_))
   | exact ih0 _ _ _ _ _ _
   | exact meter_Point.mono _ _ _ _ _ _ _ _
   | exact LeO.none _
   | refine LeO.ite ?_ ?_
   | refine LeO.bind ?_ (fun _ => ?_)
set_option maxHeartbeats 8000000 in
set_option maxRecDepth 100000 in
theorem meter_Series.calls (k : Nat) (A0 : Option Addr) (c0 : Nat) (l0 : List (S25)) (a1 : Int) (a2 : Int) (r1 : List Cx) (r2 : Int) (w : World) (hr0 : Kd.C k25 w A0 l0.length l0) (hc0 : l0.length ≤ c0) (h : meter_Series.f k l0 a1 a2 = some (r1, r2)) :
  Calls Try.prog 21 #[.slice A0 l0.length c0, .int .i64 a1, .int .i64 a2] w fun e w' => ∃ v0_ : Value, e = .returned (.tuple #[v0_, .int .i64 r2]) ∧ Kd.R Kd.c128 31 w' w.heap.size (fun _ => True) v0_ r1 ∧ Below w.heap.size w w' := by
 have hu25 := Try.underlying25
 have HR0 := Aside0.mk hr0
 have HC0 := Aside0.mk hc0
 clear hr0 hc0
 have HB := Aside0.mk (Below.refl w.heap.size w)
 have H : (if (l0.length : Int) > 40000 then (some (([] : List Cx), 9)) else (if 0 ≤ (l0.length : Int) then (if ((l0.length : Int) : Int).toNat ≤ 17592186044416 then (meter_Series.l0 k a1 a2 (List.replicate 0 (cx 0 0)) l0 (l0.length : Int) 0) else (none)) else (none))) = some (r1, r2) := h
 clear h
 by_cases c4 : (l0.length : Int) > 40000
 ·
  rw [if_pos c4] at H
  have c4b0 : decide (40000 < (l0.length : Int)) = true := decide_eq_true c4
  have c4b1 : decide (40000 < l0.length) = true := decide_eq_true (by omega)
  clear c4
  simp only [Option.some.injEq, Prod.mk.injEq] at H
  obtain ⟨rfl, rfl⟩ := H
  go_enter Try.func21, Try.ntmps21
  go_wp2
  go_ret2
  exact ⟨_, by first | rfl | (simp [errW_none, errW_some] <;> rfl) | (simp [*, errW_none, errW_some] <;> rfl), by first | exact Kd.R_nil _ _ _ _ _ | exact Kd.N_nil _ _ _ _ _ | exact Kd.V_nil _ _ _ _ _ | exact Kd.Q_nil _ _ _ _ _ | exact Kd.S_nil _ _ _ _ _, by repeat (first | (with_reducible first | exact HB.out | apply lA_ | apply lN_ | apply l1_) | exact HB.out)⟩
 ·
  rw [if_neg c4] at H
  have c4b0 : decide (40000 < (l0.length : Int)) = false := decide_eq_false c4
  have c4b1 : decide (40000 < l0.length) = false := decide_eq_false (by omega)
  clear c4
  by_cases c5 : 0 ≤ (l0.length : Int)
  ·
   rw [if_pos c5] at H
   have c5b0 := eq_true c5
   have c5b1 : decide (0 ≤ (l0.length : Int)) = true := decide_eq_true c5
   clear c5
   by_cases c6 : ((l0.length : Int) : Int).toNat ≤ 17592186044416
   ·
    rw [if_pos c6] at H
    have c6b0 := eq_true c6
    have c6b1 : decide (((l0.length : Int) : Int).toNat ≤ 17592186044416) = true := decide_eq_true c6
    clear c6
    obtain ⟨y110, hy110⟩ : ∃ y_ : List Cx, y_ = (List.replicate 0 (cx 0 0)) := ⟨_, rfl⟩
    replace H : (meter_Series.l0 k a1 a2 y110 l0 (l0.length : Int) 0) = some (r1, r2) := by first | (rw [hy110]; with_reducible exact H) | (have H2_ := (Option.bind_some _ _).symm.trans H; rw [hy110]; with_reducible exact H2_) | (have H2_ := (Option.bind_some _ _).symm.trans H; with_reducible exact H2_) | with_reducible exact H | (rw [hy110]; exact H) | exact H
    have Ny110 := Aside0.mk hy110
    clear hy110
    have H' := Aside0.mk H
    clear H
    go_enter Try.func21, Try.ntmps21
    go_wp2_with (first | ((with_reducible refine gate_dst (N := 18) rfl ?_); refine Kd.R_make0 Kd.c128 _ 31 rfl (N := 18) rfl 26 _ _ rfl (l0.length : Int) rfl rfl Try.underlying26 (.complex .f64 0 0) 16 info31 rfl (by decide) (by omega) (cx 0 0) (ok := fun _ => True) (okp := fun _ => True) rfl (fun _ hk => hk) trivial (of_decide_eq_true (by first | (with_reducible assumption) | assumption)) (Nat.le_trans (Nat.mul_le_mul_right _ (of_decide_eq_true (by first | (with_reducible assumption) | assumption) : (l0.length : Int).toNat ≤ 17592186044416)) (by omega)) (Below.refl _ _) (Nat.le_refl _) ?_; intro v111 w7 ho8 hb hg_ hnew_; clear hg_ hnew_; (first | rw [← Ny110.out] at ho8 | (simp only [Int.reduceToNat] at ho8; rw [← Ny110.out] at ho8)); have n0_ := Aside0.mk (Kd.R_lower ho8 (below_size (by repeat (first | (with_reducible first | exact HB.out | apply lA_ | apply lN_ | apply l1_) | exact HB.out)))); have n1_ := Aside0.mk (below_step (by repeat (first | (with_reducible first | exact HB.out | apply lA_ | apply lN_ | apply l1_) | exact HB.out)) hb); clear HB; have HO112 := n0_; have HB := n1_; clear n0_ n1_; clear hb ho8))
    go_loopg [8, 21] k (fun kq v8 v21 w' => ∃ (x8_1 : List Cx) (x21_1 : Int), v21 = .int .i64 x21_1 ∧ Aside0 (meter_Series.l0 kq a1 a2 x8_1 l0 (l0.length : Int) x21_1 = some (r1, r2)) ∧ Aside0 (kq ≤ k) ∧ Aside0 (Kd.R Kd.c128 31 w' w.heap.size (fun _ => True) v8 x8_1) ∧ Aside0 (Below w.heap.size w w'))
    case atStart => exact ⟨(y110), (0), (by first | rfl | (simp; done) | (simp [*]; done)), H', ⟨Nat.le_refl _⟩, ⟨by (with_reducible repeat (first | apply Kd.R_alloc | apply Kd.R_drewN | apply Kd.R_drew)); exact HO112.out⟩, ⟨by repeat (first | (with_reducible first | exact HB.out | apply lA_ | apply lN_ | apply l1_) | exact HB.out)⟩⟩
    case round =>
     clear H'
     try clear c1
     try clear c2
     try clear p2
     try clear c4
     try clear c4b0
     try clear c4b1
     try clear c5
     try clear c5b0
     try clear c5b1
     try clear c6
     try clear c6b0
     try clear c6b1
     obtain ⟨x8_1, x21_1, rfl, HA, HK1, HO_8, HB⟩ := hrel
     cases gk with
     | zero => exact absurd HA.out (by simp [meter_Series.l0])
     | succ k1 =>
      have H := HA.out
      clear HA
      simp only [meter_Series.l0] at H
      by_cases c9 : x21_1 < (l0.length : Int)
      ·
       rw [if_pos c9] at H
       have c9b0 : decide (x21_1 < (l0.length : Int)) = true := decide_eq_true c9
       clear c9
       by_cases c10 : 0 ≤ x21_1
       ·
        rw [if_pos c10] at H
        have c10b0 : decide (0 ≤ x21_1) = true := decide_eq_true c10
        clear c10
        by_cases c11 : x21_1 < (l0.length : Int)
        ·
         rw [if_pos c11] at H
         have c11b0 : decide (x21_1 < (l0.length : Int)) = true := decide_eq_true c11
         clear c11
         replace H := Option.bind_eq_some_iff.mp H
         obtain ⟨⟨t115, t116⟩, A120, H⟩ := H
         replace H : (if t116 = 0 then (if x8_1.length < 8796093022208 then (meter_Series.l0 k1 a1 a2 (x8_1 ++ [t115]) l0 (l0.length : Int) (wrap64 (x21_1 + 1))) else (none)) else (some (([] : List Cx), t116))) = some (r1, r2) := H
         have A12 := Aside0.mk A120
         clear A120
         by_cases c13 : t116 = 0
         ·
          rw [if_pos c13] at H
          have c13b0 : (t116 == 0) = true := beq_iff_eq.mpr c13
          have c13b1 : (t116 != 0) = false := bne_eq_false_iff_eq.mpr c13
          clear c13
          by_cases c14 : x8_1.length < 8796093022208
          ·
           rw [if_pos c14] at H
           have LMc14 := Aside0.mk c14
           clear c14
           obtain ⟨y117, hy117⟩ : ∃ y_ : List Cx, y_ = (x8_1 ++ [t115]) := ⟨_, rfl⟩
           replace H : (meter_Series.l0 k1 a1 a2 y117 l0 (l0.length : Int) (wrap64 (x21_1 + 1))) = some (r1, r2) := by first | (rw [hy117]; with_reducible exact H) | (have H2_ := (Option.bind_some _ _).symm.trans H; rw [hy117]; with_reducible exact H2_) | (have H2_ := (Option.bind_some _ _).symm.trans H; with_reducible exact H2_) | with_reducible exact H | (rw [hy117]; exact H) | exact H
           have Ny117 := Aside0.mk hy117
           clear hy117
           have H' := Aside0.mk H
           clear H
           have p113 : 0 ≤ (x21_1 : Int) := of_decide_eq_true (by first | (with_reducible assumption) | assumption)
           have q113 : x21_1 < (l0.length : Int) := of_decide_eq_true (by first | (with_reducible assumption) | assumption)
           obtain ⟨ad113, e113, hx113_0, hx113_1, hx113_2, hx113_3, hx113_4⟩ := at_T25 HR0.out x21_1 p113 q113
           cases e113
           replace hx113_0 := (HB.out.cell (World.block_lt_of_cell? w _ hx113_0)).trans hx113_0
           replace hx113_1 := (HB.out.cell (World.block_lt_of_cell? w _ hx113_1)).trans hx113_1
           replace hx113_2 := (HB.out.cell (World.block_lt_of_cell? w _ hx113_2)).trans hx113_2
           replace hx113_3 := (HB.out.cell (World.block_lt_of_cell? w _ hx113_3)).trans hx113_3
           replace hx113_4 := (HB.out.cell (World.block_lt_of_cell? w _ hx113_4)).trans hx113_4
           replace p113 := eq_true p113
           replace q113 := eq_true q113
           go_wp2_with (first | ((with_reducible refine gate_dst (N := 10) rfl ?_); refine box_event ?hg (N := 10) ?hd (cs := #[.int .i64 0, .int .i64 0, .int .i64 0, .int .i64 0, .int .u8 0]) (t := 25) ?hr ?_; (case hd => rfl); (case hg => rfl); (case hr => first | (go_simp; done) | (go_simp; rfl)); intro gb114 hg w15 hbox hb; have n0_ := Aside0.mk (Kd.R_below (by (with_reducible repeat (first | apply Kd.R_alloc | apply Kd.R_drewN | apply Kd.R_drew)); exact HO_8.out) hb); have n1_ := Aside0.mk (below_step (by repeat (first | (with_reducible first | exact HB.out | apply lA_ | apply lN_ | apply l1_) | exact HB.out)) hb); have n2_ := Aside0.mk (hbox); have n3_ := Aside0.mk ((by rw [hg]; exact (below_size (by repeat (first | (with_reducible first | exact HB.out | apply lA_ | apply lN_ | apply l1_) | exact HB.out))) : w.heap.size ≤ gb114)); have n4_ := Aside0.mk ((by rw [hg]; exact (below_size (by repeat (first | (with_reducible first | exact HB.out | apply lA_ | apply lN_ | apply l1_) | exact HB.out))) : w.heap.size ≤ gb114)); clear HO_8; clear HB; have HO_8 := n0_; have HB := n1_; have BK114 := n2_; have GW114 := n3_; have GE114 := n4_; clear n0_ n1_ n2_ n3_ n4_; clear hb hbox hg; have hcz16_0 : w15.cell? ⟨gb114, 0, none⟩ = some (.int .i64 0) := (bC_ BK114.out 0).trans rfl; have hcz16_1 : w15.cell? ⟨gb114, 1, none⟩ = some (.int .i64 0) := (bC_ BK114.out 1).trans rfl; have hcz16_2 : w15.cell? ⟨gb114, 2, none⟩ = some (.int .i64 0) := (bC_ BK114.out 2).trans rfl; have hcz16_3 : w15.cell? ⟨gb114, 3, none⟩ = some (.int .i64 0) := (bC_ BK114.out 3).trans rfl; have hcz16_4 : w15.cell? ⟨gb114, 4, none⟩ = some (.int .u8 0) := (bC_ BK114.out 4).trans rfl; have hfz16_0 := bZ_ BK114.out 0; have hfz16_1 := bZ_ BK114.out 1; have hfz16_2 := bZ_ BK114.out 2; have hfz16_3 := bZ_ BK114.out 3; have hfz16_4 := bZ_ BK114.out 4) | ((with_reducible refine gate_callee (f := 23) rfl ?_); refine goesL_ (some 29) rfl rfl Try.func23 (by kernel_rfl) rfl #[.agg #[.int .i64 ((rd_T25 l0 x21_1).f0), .int .i64 ((rd_T25 l0 x21_1).f1), .int .i64 ((rd_T25 l0 x21_1).f2), .int .i64 ((rd_T25 l0 x21_1).f3), .int .u8 ((rd_T25 l0 x21_1).f4)], .int .i64 a1, .int .i64 a2] rfl (by (try simp only [List.map_toArray, List.map_cons, List.map_nil]); first | done | rfl | (simp only [List.length_drop, List.length_take]; rfl)) ?_; (with_reducible refine (meter_Point.calls k1 ((rd_T25 l0 x21_1).f0) ((rd_T25 l0 x21_1).f1) ((rd_T25 l0 x21_1).f2) ((rd_T25 l0 x21_1).f3) ((rd_T25 l0 x21_1).f4) a1 a2 t115 t116 _ A12.out).mono ?_); rintro e w17 ⟨rfl, hb⟩; refine ⟨_, rfl, ?_⟩; have n0_ := Aside0.mk (Kd.R_below (by (with_reducible repeat (first | apply Kd.R_alloc | apply Kd.R_drewN | apply Kd.R_drew)); exact (Kd.R_mono (Kd.R_far (p := ⟨gb114, 4, none⟩) (Kd.R_far (p := ⟨gb114, 3, none⟩) (Kd.R_far (p := ⟨gb114, 2, none⟩) (Kd.R_far (p := ⟨gb114, 1, none⟩) (Kd.R_far (p := ⟨gb114, 0, none⟩) (Kd.R_types HO_8.out BK114.out (by decide)) (fun _ hk => hk.2) (.int .i64 ((rd_T25 l0 x21_1).f0))) (fun _ hk => hk.2) (.int .i64 ((rd_T25 l0 x21_1).f1))) (fun _ hk => hk.2) (.int .i64 ((rd_T25 l0 x21_1).f2))) (fun _ hk => hk.2) (.int .i64 ((rd_T25 l0 x21_1).f3))) (fun _ hk => hk.2) (.int .u8 ((rd_T25 l0 x21_1).f4))) (fun _ h_ => h_.1))) hb); have n1_ := Aside0.mk (bB_ (g := gb114) (o := .cells #[.int .i64 ((rd_T25 l0 x21_1).f0), .int .i64 ((rd_T25 l0 x21_1).f1), .int .i64 ((rd_T25 l0 x21_1).f2), .int .i64 ((rd_T25 l0 x21_1).f3), .int .u8 ((rd_T25 l0 x21_1).f4)] 25 (0, 0)) (by (with_reducible repeat (first | refine bN_ ?_ _ | refine bD_ ?_ | refine bA_ ?_ _)); refine bP_ (cs := #[.int .i64 ((rd_T25 l0 x21_1).f0), .int .i64 ((rd_T25 l0 x21_1).f1), .int .i64 ((rd_T25 l0 x21_1).f2), .int .i64 ((rd_T25 l0 x21_1).f3), .int .u8 0]) ?_ 4 _ rfl; (with_reducible repeat (first | refine bN_ ?_ _ | refine bD_ ?_ | refine bA_ ?_ _)); refine bP_ (cs := #[.int .i64 ((rd_T25 l0 x21_1).f0), .int .i64 ((rd_T25 l0 x21_1).f1), .int .i64 ((rd_T25 l0 x21_1).f2), .int .i64 0, .int .u8 0]) ?_ 3 _ rfl; (with_reducible repeat (first | refine bN_ ?_ _ | refine bD_ ?_ | refine bA_ ?_ _)); refine bP_ (cs := #[.int .i64 ((rd_T25 l0 x21_1).f0), .int .i64 ((rd_T25 l0 x21_1).f1), .int .i64 0, .int .i64 0, .int .u8 0]) ?_ 2 _ rfl; (with_reducible repeat (first | refine bN_ ?_ _ | refine bD_ ?_ | refine bA_ ?_ _)); refine bP_ (cs := #[.int .i64 ((rd_T25 l0 x21_1).f0), .int .i64 0, .int .i64 0, .int .i64 0, .int .u8 0]) ?_ 1 _ rfl; (with_reducible repeat (first | refine bN_ ?_ _ | refine bD_ ?_ | refine bA_ ?_ _)); refine bP_ (cs := #[.int .i64 0, .int .i64 0, .int .i64 0, .int .i64 0, .int .u8 0]) ?_ 0 _ rfl; (with_reducible repeat (first | refine bN_ ?_ _ | refine bD_ ?_ | refine bA_ ?_ _)); exact BK114.out) hb); have n2_ := Aside0.mk (below_step (by repeat (first | (with_reducible first | exact HB.out | apply lA_ | apply lN_ | apply l1_ | refine lS_ ?_ GE114.out) | exact HB.out)) hb); clear HO_8; clear BK114; clear HB; have HO_8 := n0_; have BK114 := n1_; have HB := n2_; clear n0_ n1_ n2_; (try clear hb); (try clear hb2); (try clear hk); (try clear hi)) | ((with_reducible refine gate_builtin (b := .append) (xs := #[.tmp 35, .tmp 37]) rfl ?_); at_builtin; refine Kd.R_append Kd.c128 (w0 := w) w.heap.size rfl (.tmp 35) (.tmp 37) 26 31 (.complex .f64 0 0) 16 rfl Try.underlying26 info31 rfl (by decide) (by omega) u8 x8_1 t115 [.complex .f64 t115.re t115.im] (fun _ => True) (fun _ => False) rfl rfl ?aP (fun _ hk => hk.elim) ?aF ?aO ?aB ?aS ?aL ?_; (case aP => exact rfl); (case aB => exact (by repeat (first | (with_reducible first | exact HB.out | apply lA_ | apply lN_ | apply l1_ | refine lS_ ?_ GE114.out) | exact HB.out))); (case aF => exact (fun _ _ => trivial)); (case aO => exact (by (with_reducible repeat (first | apply Kd.R_alloc | apply Kd.R_drewN | apply Kd.R_drew)); exact HO_8.out)); (case aS => exact (below_size (by repeat (first | (with_reducible first | exact HB.out | apply lA_ | apply lN_ | apply l1_ | refine lS_ ?_ GE114.out) | exact HB.out)))); (case aL => have := LMc14.out; omega); intro v118 w18 ho hb hg hat; rw [← Ny117.out] at ho; have n0_ := Aside0.mk (blk_grown (g := gb114) (o := .cells #[.int .i64 ((rd_T25 l0 x21_1).f0), .int .i64 ((rd_T25 l0 x21_1).f1), .int .i64 ((rd_T25 l0 x21_1).f2), .int .i64 ((rd_T25 l0 x21_1).f3), .int .u8 ((rd_T25 l0 x21_1).f4)] 25 (0, 0)) (by (with_reducible repeat (first | refine bN_ ?_ _ | refine bD_ ?_ | refine bA_ ?_ _)); exact BK114.out) hg (Kd.R_ne HO_8.out BK114.out (by decide))); have n1_ := Aside0.mk (hb); have n2_ := Aside0.mk (ho); clear BK114; clear HB; clear HO_8; have BK114 := n0_; have HB := n1_; have HO119 := n2_; clear n0_ n1_ n2_; clear ho hb hg hat))
           go_roundg k1
           case measure => have := HK1.out; omega
           case rel => exact ⟨(y117), (wrap64 (x21_1 + 1)), (by first | rfl | (simp; done) | (simp [*]; done)), H', ⟨by have := HK1.out; omega⟩, ⟨by (with_reducible repeat (first | apply Kd.R_alloc | apply Kd.R_drewN | apply Kd.R_drew)); exact HO119.out⟩, ⟨by repeat (first | (with_reducible first | exact HB.out | apply lA_ | apply lN_ | apply l1_ | refine lS_ ?_ GE114.out) | exact HB.out)⟩⟩
          ·
           rw [if_neg c14] at H
           exact absurd H (by simp)
         ·
          rw [if_neg c13] at H
          have c13b0 : (t116 == 0) = false := beq_eq_false_iff_ne.mpr c13
          have c13b1 : (t116 != 0) = true := bne_iff_ne.mpr c13
          simp only [Option.some.injEq, Prod.mk.injEq] at H
          obtain ⟨rfl, rfl⟩ := H
          have p113 : 0 ≤ (x21_1 : Int) := of_decide_eq_true (by first | (with_reducible assumption) | assumption)
          have q113 : x21_1 < (l0.length : Int) := of_decide_eq_true (by first | (with_reducible assumption) | assumption)
          obtain ⟨ad113, e113, hx113_0, hx113_1, hx113_2, hx113_3, hx113_4⟩ := at_T25 HR0.out x21_1 p113 q113
          cases e113
          replace hx113_0 := (HB.out.cell (World.block_lt_of_cell? w _ hx113_0)).trans hx113_0
          replace hx113_1 := (HB.out.cell (World.block_lt_of_cell? w _ hx113_1)).trans hx113_1
          replace hx113_2 := (HB.out.cell (World.block_lt_of_cell? w _ hx113_2)).trans hx113_2
          replace hx113_3 := (HB.out.cell (World.block_lt_of_cell? w _ hx113_3)).trans hx113_3
          replace hx113_4 := (HB.out.cell (World.block_lt_of_cell? w _ hx113_4)).trans hx113_4
          replace p113 := eq_true p113
          replace q113 := eq_true q113
          go_wp2_with (first | ((with_reducible refine gate_dst (N := 10) rfl ?_); refine box_event ?hg (N := 10) ?hd (cs := #[.int .i64 0, .int .i64 0, .int .i64 0, .int .i64 0, .int .u8 0]) (t := 25) ?hr ?_; (case hd => rfl); (case hg => rfl); (case hr => first | (go_simp; done) | (go_simp; rfl)); intro gb114 hg w19 hbox hb; have n0_ := Aside0.mk (Kd.R_below (by (with_reducible repeat (first | apply Kd.R_alloc | apply Kd.R_drewN | apply Kd.R_drew)); exact HO_8.out) hb); have n1_ := Aside0.mk (below_step (by repeat (first | (with_reducible first | exact HB.out | apply lA_ | apply lN_ | apply l1_) | exact HB.out)) hb); have n2_ := Aside0.mk (hbox); have n3_ := Aside0.mk ((by rw [hg]; exact (below_size (by repeat (first | (with_reducible first | exact HB.out | apply lA_ | apply lN_ | apply l1_) | exact HB.out))) : w.heap.size ≤ gb114)); have n4_ := Aside0.mk ((by rw [hg]; exact (below_size (by repeat (first | (with_reducible first | exact HB.out | apply lA_ | apply lN_ | apply l1_) | exact HB.out))) : w.heap.size ≤ gb114)); clear HO_8; clear HB; have HO_8 := n0_; have HB := n1_; have BK114 := n2_; have GW114 := n3_; have GE114 := n4_; clear n0_ n1_ n2_ n3_ n4_; clear hb hbox hg; have hcz20_0 : w19.cell? ⟨gb114, 0, none⟩ = some (.int .i64 0) := (bC_ BK114.out 0).trans rfl; have hcz20_1 : w19.cell? ⟨gb114, 1, none⟩ = some (.int .i64 0) := (bC_ BK114.out 1).trans rfl; have hcz20_2 : w19.cell? ⟨gb114, 2, none⟩ = some (.int .i64 0) := (bC_ BK114.out 2).trans rfl; have hcz20_3 : w19.cell? ⟨gb114, 3, none⟩ = some (.int .i64 0) := (bC_ BK114.out 3).trans rfl; have hcz20_4 : w19.cell? ⟨gb114, 4, none⟩ = some (.int .u8 0) := (bC_ BK114.out 4).trans rfl; have hfz20_0 := bZ_ BK114.out 0; have hfz20_1 := bZ_ BK114.out 1; have hfz20_2 := bZ_ BK114.out 2; have hfz20_3 := bZ_ BK114.out 3; have hfz20_4 := bZ_ BK114.out 4) | ((with_reducible refine gate_callee (f := 23) rfl ?_); refine goesL_ (some 29) rfl rfl Try.func23 (by kernel_rfl) rfl #[.agg #[.int .i64 ((rd_T25 l0 x21_1).f0), .int .i64 ((rd_T25 l0 x21_1).f1), .int .i64 ((rd_T25 l0 x21_1).f2), .int .i64 ((rd_T25 l0 x21_1).f3), .int .u8 ((rd_T25 l0 x21_1).f4)], .int .i64 a1, .int .i64 a2] rfl (by (try simp only [List.map_toArray, List.map_cons, List.map_nil]); first | done | rfl | (simp only [List.length_drop, List.length_take]; rfl)) ?_; (with_reducible refine (meter_Point.calls k1 ((rd_T25 l0 x21_1).f0) ((rd_T25 l0 x21_1).f1) ((rd_T25 l0 x21_1).f2) ((rd_T25 l0 x21_1).f3) ((rd_T25 l0 x21_1).f4) a1 a2 t115 t116 _ A12.out).mono ?_); rintro e w21 ⟨rfl, hb⟩; refine ⟨_, rfl, ?_⟩; have n0_ := Aside0.mk (Kd.R_below (by (with_reducible repeat (first | apply Kd.R_alloc | apply Kd.R_drewN | apply Kd.R_drew)); exact (Kd.R_mono (Kd.R_far (p := ⟨gb114, 4, none⟩) (Kd.R_far (p := ⟨gb114, 3, none⟩) (Kd.R_far (p := ⟨gb114, 2, none⟩) (Kd.R_far (p := ⟨gb114, 1, none⟩) (Kd.R_far (p := ⟨gb114, 0, none⟩) (Kd.R_types HO_8.out BK114.out (by decide)) (fun _ hk => hk.2) (.int .i64 ((rd_T25 l0 x21_1).f0))) (fun _ hk => hk.2) (.int .i64 ((rd_T25 l0 x21_1).f1))) (fun _ hk => hk.2) (.int .i64 ((rd_T25 l0 x21_1).f2))) (fun _ hk => hk.2) (.int .i64 ((rd_T25 l0 x21_1).f3))) (fun _ hk => hk.2) (.int .u8 ((rd_T25 l0 x21_1).f4))) (fun _ h_ => h_.1))) hb); have n1_ := Aside0.mk (bB_ (g := gb114) (o := .cells #[.int .i64 ((rd_T25 l0 x21_1).f0), .int .i64 ((rd_T25 l0 x21_1).f1), .int .i64 ((rd_T25 l0 x21_1).f2), .int .i64 ((rd_T25 l0 x21_1).f3), .int .u8 ((rd_T25 l0 x21_1).f4)] 25 (0, 0)) (by (with_reducible repeat (first | refine bN_ ?_ _ | refine bD_ ?_ | refine bA_ ?_ _)); refine bP_ (cs := #[.int .i64 ((rd_T25 l0 x21_1).f0), .int .i64 ((rd_T25 l0 x21_1).f1), .int .i64 ((rd_T25 l0 x21_1).f2), .int .i64 ((rd_T25 l0 x21_1).f3), .int .u8 0]) ?_ 4 _ rfl; (with_reducible repeat (first | refine bN_ ?_ _ | refine bD_ ?_ | refine bA_ ?_ _)); refine bP_ (cs := #[.int .i64 ((rd_T25 l0 x21_1).f0), .int .i64 ((rd_T25 l0 x21_1).f1), .int .i64 ((rd_T25 l0 x21_1).f2), .int .i64 0, .int .u8 0]) ?_ 3 _ rfl; (with_reducible repeat (first | refine bN_ ?_ _ | refine bD_ ?_ | refine bA_ ?_ _)); refine bP_ (cs := #[.int .i64 ((rd_T25 l0 x21_1).f0), .int .i64 ((rd_T25 l0 x21_1).f1), .int .i64 0, .int .i64 0, .int .u8 0]) ?_ 2 _ rfl; (with_reducible repeat (first | refine bN_ ?_ _ | refine bD_ ?_ | refine bA_ ?_ _)); refine bP_ (cs := #[.int .i64 ((rd_T25 l0 x21_1).f0), .int .i64 0, .int .i64 0, .int .i64 0, .int .u8 0]) ?_ 1 _ rfl; (with_reducible repeat (first | refine bN_ ?_ _ | refine bD_ ?_ | refine bA_ ?_ _)); refine bP_ (cs := #[.int .i64 0, .int .i64 0, .int .i64 0, .int .i64 0, .int .u8 0]) ?_ 0 _ rfl; (with_reducible repeat (first | refine bN_ ?_ _ | refine bD_ ?_ | refine bA_ ?_ _)); exact BK114.out) hb); have n2_ := Aside0.mk (below_step (by repeat (first | (with_reducible first | exact HB.out | apply lA_ | apply lN_ | apply l1_ | refine lS_ ?_ GE114.out) | exact HB.out)) hb); clear HO_8; clear BK114; clear HB; have HO_8 := n0_; have BK114 := n1_; have HB := n2_; clear n0_ n1_ n2_; (try clear hb); (try clear hb2); (try clear hk); (try clear hi)))
          go_ret2
          exact ⟨_, by first | rfl | (simp [errW_none, errW_some] <;> rfl) | (simp [*, errW_none, errW_some] <;> rfl), by first | exact Kd.R_nil _ _ _ _ _ | exact Kd.N_nil _ _ _ _ _ | exact Kd.V_nil _ _ _ _ _ | exact Kd.Q_nil _ _ _ _ _ | exact Kd.S_nil _ _ _ _ _, by repeat (first | (with_reducible first | exact HB.out | apply lA_ | apply lN_ | apply l1_ | refine lS_ ?_ GE114.out) | exact HB.out)⟩
        ·
         rw [if_neg c11] at H
         exact absurd H (by simp)
       ·
        rw [if_neg c10] at H
        exact absurd H (by simp)
      ·
       rw [if_neg c9] at H
       have c9b0 : decide (x21_1 < (l0.length : Int)) = false := decide_eq_false c9
       clear c9
       simp only [Option.some.injEq, Prod.mk.injEq] at H
       obtain ⟨rfl, rfl⟩ := H
       go_wp2
       go_ret2
       exact ⟨_, by first | rfl | (simp [errW_none, errW_some] <;> rfl) | (simp [*, errW_none, errW_some] <;> rfl), by (with_reducible repeat (first | apply Kd.R_alloc | apply Kd.R_drewN | apply Kd.R_drew)); exact HO_8.out, by repeat (first | (with_reducible first | exact HB.out | apply lA_ | apply lN_ | apply l1_) | exact HB.out)⟩
   ·
    rw [if_neg c6] at H
    exact absurd H (by simp)
  ·
   rw [if_neg c5] at H
   exact absurd H (by simp)

-- NOT PRINTED: function 83 (math_archTrunc)

-- NOT PRINTED: function 96 (math_Float64frombits)

-- NOT PRINTED: function 97 (math_Float64bits)

/-! ### math_Abs: function 82 -/
def math_Abs.f (a0 : Nat) : Option (Nat) := some (u2f (Go.bits .andNot .u64 (f2u a0) 9223372036854775808))
set_option maxHeartbeats 8000000 in
set_option maxRecDepth 100000 in
theorem math_Abs.calls (a0 : Nat) (r : Nat) (w : World) (h : math_Abs.f a0 = some r) :
  Calls Try.prog 82 #[.float .f64 a0] w fun e w' => e = .returned (.float .f64 r) ∧ Drawn0 w w' := by
 have hx96 := @ext96
 have hx97 := @ext97
 have H : (some (u2f (Go.bits .andNot .u64 (f2u a0) 9223372036854775808))) = some r := h
 clear h
 obtain rfl := Option.some.inj H
 go_enter Try.func82, Try.ntmps82
 go_wp2
 go_ret
 exact ⟨by first | rfl | (simp; done) | (simp [*]; done), by repeat (first | exact Drawn0.refl _ | apply Drawn0.step)⟩

/-! ### math_Copysign: function 98 -/
def math_Copysign.f (a0 : Nat) (a1 : Nat) : Option (Nat) := some (u2f (Go.bits .or .u64 (Go.bits .andNot .u64 (f2u a0) 9223372036854775808) (Go.bits .and .u64 (f2u a1) 9223372036854775808)))
set_option maxHeartbeats 8000000 in
set_option maxRecDepth 100000 in
theorem math_Copysign.calls (a0 : Nat) (a1 : Nat) (r : Nat) (w : World) (h : math_Copysign.f a0 a1 = some r) :
  Calls Try.prog 98 #[.float .f64 a0, .float .f64 a1] w fun e w' => e = .returned (.float .f64 r) ∧ Drawn0 w w' := by
 have hx96 := @ext96
 have hx97 := @ext97
 have H : (some (u2f (Go.bits .or .u64 (Go.bits .andNot .u64 (f2u a0) 9223372036854775808) (Go.bits .and .u64 (f2u a1) 9223372036854775808)))) = some r := h
 clear h
 obtain rfl := Option.some.inj H
 go_enter Try.func98, Try.ntmps98
 go_wp2
 go_ret
 exact ⟨by first | rfl | (simp; done) | (simp [*]; done), by repeat (first | exact Drawn0.refl _ | apply Drawn0.step)⟩

/-! ### math_trunc: function 84 -/
def math_trunc.f (a0 : Nat) : Option (Nat) := (math_Abs.f a0).bind fun t120 => (if flt t120 4607182418800017408 = true then ((math_Copysign.f 0 a0).bind fun t121 => (some t121)) else (if (IntKind.u64.wrap ((Go.bits .and .u64 ((f2u a0) / 4503599627370496) 2047) - 1023)) < 52 then (if 0 ≤ (IntKind.u64.wrap (52 - (IntKind.u64.wrap ((Go.bits .and .u64 ((f2u a0) / 4503599627370496) 2047) - 1023)))) then (some (u2f (Go.bits .andNot .u64 (f2u a0) (IntKind.u64.wrap ((shl .u64 1 (IntKind.u64.wrap (52 - (IntKind.u64.wrap ((Go.bits .and .u64 ((f2u a0) / 4503599627370496) 2047) - 1023))))) - 1))))) else (none)) else (some (u2f (f2u a0)))))
set_option maxHeartbeats 8000000 in
set_option maxRecDepth 100000 in
theorem math_trunc.calls (a0 : Nat) (r : Nat) (w : World) (h : math_trunc.f a0 = some r) :
  Calls Try.prog 84 #[.float .f64 a0] w fun e w' => e = .returned (.float .f64 r) ∧ Drawn0 w w' := by
 have hx96 := @ext96
 have hx97 := @ext97
 have H : ((math_Abs.f a0).bind fun t120 => (if flt t120 4607182418800017408 = true then ((math_Copysign.f 0 a0).bind fun t121 => (some t121)) else (if (IntKind.u64.wrap ((Go.bits .and .u64 ((f2u a0) / 4503599627370496) 2047) - 1023)) < 52 then (if 0 ≤ (IntKind.u64.wrap (52 - (IntKind.u64.wrap ((Go.bits .and .u64 ((f2u a0) / 4503599627370496) 2047) - 1023)))) then (some (u2f (Go.bits .andNot .u64 (f2u a0) (IntKind.u64.wrap ((shl .u64 1 (IntKind.u64.wrap (52 - (IntKind.u64.wrap ((Go.bits .and .u64 ((f2u a0) / 4503599627370496) 2047) - 1023))))) - 1))))) else (none)) else (some (u2f (f2u a0)))))) = some r := h
 clear h
 replace H := Option.bind_eq_some_iff.mp H
 obtain ⟨t120, A20, H⟩ := H
 replace H : (if flt t120 4607182418800017408 = true then ((math_Copysign.f 0 a0).bind fun t121 => (some t121)) else (if (IntKind.u64.wrap ((Go.bits .and .u64 ((f2u a0) / 4503599627370496) 2047) - 1023)) < 52 then (if 0 ≤ (IntKind.u64.wrap (52 - (IntKind.u64.wrap ((Go.bits .and .u64 ((f2u a0) / 4503599627370496) 2047) - 1023)))) then (some (u2f (Go.bits .andNot .u64 (f2u a0) (IntKind.u64.wrap ((shl .u64 1 (IntKind.u64.wrap (52 - (IntKind.u64.wrap ((Go.bits .and .u64 ((f2u a0) / 4503599627370496) 2047) - 1023))))) - 1))))) else (none)) else (some (u2f (f2u a0))))) = some r := H
 have A2 := Aside0.mk A20
 clear A20
 by_cases c3 : flt t120 4607182418800017408 = true
 ·
  rw [if_pos c3] at H
  have c3b0 : flt t120 4607182418800017408 = true := c3
  clear c3
  replace H := Option.bind_eq_some_iff.mp H
  obtain ⟨t121, A40, H⟩ := H
  replace H : (some t121) = some r := H
  have A4 := Aside0.mk A40
  clear A40
  obtain rfl := Option.some.inj H
  go_enter Try.func84, Try.ntmps84
  go_wp2_with (first | ((with_reducible refine gate_callee (f := 82) rfl ?_); refine goesL_ (some 6) rfl rfl Try.func82 (by kernel_rfl) rfl #[.float .f64 a0] rfl (by (try simp only [List.map_toArray, List.map_cons, List.map_nil]); first | done | rfl | (simp only [List.length_drop, List.length_take]; rfl)) ?_; (with_reducible refine (math_Abs.calls a0 t120 _ A2.out).mono ?_); rintro e w' ⟨rfl, ⟨nd, rfl⟩⟩; refine ⟨_, rfl, ?_⟩) | ((with_reducible refine gate_callee (f := 98) rfl ?_); refine goesL_ (some 9) rfl rfl Try.func98 (by kernel_rfl) rfl #[.float .f64 0, .float .f64 a0] rfl (by (try simp only [List.map_toArray, List.map_cons, List.map_nil]); first | done | rfl | (simp only [List.length_drop, List.length_take]; rfl)) ?_; (with_reducible refine (math_Copysign.calls 0 a0 t121 _ A4.out).mono ?_); rintro e w' ⟨rfl, ⟨nd, rfl⟩⟩; refine ⟨_, rfl, ?_⟩))
  go_ret
  exact ⟨by first | rfl | (simp; done) | (simp [*]; done), by repeat (first | exact Drawn0.refl _ | apply Drawn0.step)⟩
 ·
  rw [if_neg c3] at H
  have c3b0 : flt t120 4607182418800017408 = false := Bool.eq_false_iff.mpr c3
  clear c3
  by_cases c5 : (IntKind.u64.wrap ((Go.bits .and .u64 ((f2u a0) / 4503599627370496) 2047) - 1023)) < 52
  ·
   rw [if_pos c5] at H
   have c5b0 : decide ((IntKind.u64.wrap ((Go.bits .and .u64 ((f2u a0) / 4503599627370496) 2047) - 1023)) < 52) = true := decide_eq_true c5
   clear c5
   obtain ⟨ji6, hji6⟩ : ∃ j_ : Int, (IntKind.u64.wrap (52 - (IntKind.u64.wrap ((Go.bits .and .u64 ((f2u a0) / 4503599627370496) 2047) - 1023)))) = j_ := ⟨_, rfl⟩
   replace H : (if 0 ≤ (ji6) then (some (u2f (Go.bits .andNot .u64 (f2u a0) (IntKind.u64.wrap ((shl .u64 1 (ji6)) - 1))))) else (none)) = some r := by first | (rw [hji6] at H; exact H) | (simp only [hji6] at H ⊢; exact H)
   (try rw [hji6] at A2)
   by_cases c7 : 0 ≤ (ji6)
   ·
    rw [if_pos c7] at H
    have c7b0 := eq_true c7
    have c7b1 : decide (0 ≤ (ji6)) = true := decide_eq_true c7
    clear c7
    obtain ⟨ji8, hji8⟩ : ∃ j_ : Int, (shl .u64 1 (ji6)) = j_ := ⟨_, rfl⟩
    replace H : (some (u2f (Go.bits .andNot .u64 (f2u a0) (IntKind.u64.wrap ((ji8) - 1))))) = some r := by first | (rw [hji8] at H; exact H) | (simp only [hji8] at H ⊢; exact H)
    (try rw [hji8] at A2)
    have hji8_ : (IntKind.u64.wrap (1 * 2 ^ min (ji6).toNat 64)) = ji8 := hji8
    have hji8z : (ji6) ≤ 64 → (IntKind.u64.wrap (1 * 2 ^ (ji6).toNat)) = ji8 := shl_small hji8
    have hji8u : (IntKind.u64.wrap (2 ^ min (ji6).toNat 64)) = ji8 := by have h_ := hji8_; rw [Int.one_mul] at h_; exact h_
    have hji8v : (ji6) ≤ 64 → (IntKind.u64.wrap (2 ^ (ji6).toNat)) = ji8 := fun hle_ => by have h_ := hji8z hle_; rw [Int.one_mul] at h_; exact h_
    obtain rfl := Option.some.inj H
    go_enter Try.func84, Try.ntmps84
    go_wp2_with (first | ((with_reducible refine gate_callee (f := 82) rfl ?_); refine goesL_ (some 6) rfl rfl Try.func82 (by kernel_rfl) rfl #[.float .f64 a0] rfl (by (try simp only [List.map_toArray, List.map_cons, List.map_nil]); first | done | rfl | (simp only [List.length_drop, List.length_take]; rfl)) ?_; (with_reducible refine (math_Abs.calls a0 t120 _ A2.out).mono ?_); rintro e w' ⟨rfl, ⟨nd, rfl⟩⟩; refine ⟨_, rfl, ?_⟩))
    go_ret
    exact ⟨by first | rfl | (simp; done) | (simp only [← hji6, ← hji8] <;> (first | rfl | simp)) | (simp [*]; done), by repeat (first | exact Drawn0.refl _ | apply Drawn0.step)⟩
   ·
    rw [if_neg c7] at H
    exact absurd H (by simp)
  ·
   rw [if_neg c5] at H
   have c5b0 : decide ((IntKind.u64.wrap ((Go.bits .and .u64 ((f2u a0) / 4503599627370496) 2047) - 1023)) < 52) = false := decide_eq_false c5
   clear c5
   obtain rfl := Option.some.inj H
   go_enter Try.func84, Try.ntmps84
   go_wp2_with (first | ((with_reducible refine gate_callee (f := 82) rfl ?_); refine goesL_ (some 6) rfl rfl Try.func82 (by kernel_rfl) rfl #[.float .f64 a0] rfl (by (try simp only [List.map_toArray, List.map_cons, List.map_nil]); first | done | rfl | (simp only [List.length_drop, List.length_take]; rfl)) ?_; (with_reducible refine (math_Abs.calls a0 t120 _ A2.out).mono ?_); rintro e w' ⟨rfl, ⟨nd, rfl⟩⟩; refine ⟨_, rfl, ?_⟩))
   go_ret
   exact ⟨by first | rfl | (simp; done) | (simp [*]; done), by repeat (first | exact Drawn0.refl _ | apply Drawn0.step)⟩

/-! ### math_Trunc: function 66 -/
def math_Trunc.f (a0 : Nat) : Option (Nat) := if ftruncok a0 = true then (some (ftrunc a0)) else (none)
set_option maxHeartbeats 8000000 in
set_option maxRecDepth 100000 in
theorem math_Trunc.calls (a0 : Nat) (r : Nat) (w : World) (h : math_Trunc.f a0 = some r) :
  Calls Try.prog 66 #[.float .f64 a0] w fun e w' => e = .returned (.float .f64 r) ∧ Drawn0 w w' := by
 have hx83 := @ext83
 have H : (if ftruncok a0 = true then (some (ftrunc a0)) else (none)) = some r := h
 clear h
 by_cases c2 : ftruncok a0 = true
 ·
  rw [if_pos c2] at H
  have c2b0 := eq_true c2
  have c2b1 : decide (ftruncok a0 = true) = true := decide_eq_true c2
  clear c2
  obtain rfl := Option.some.inj H
  go_enter Try.func66, Try.ntmps66
  go_wp2
  go_ret
  exact ⟨by first | rfl | (simp; done) | (simp [*]; done), by repeat (first | exact Drawn0.refl _ | apply Drawn0.step)⟩
 ·
  rw [if_neg c2] at H
  exact absurd H (by simp)

/-! ### meter_whole: function 62 -/
def meter_whole.f (a0 : Nat) : Option (Bool) := (math_Abs.f a0).bind fun t122 => (if fle t122 4756540486875873280 = true then ((math_Trunc.f a0).bind fun t123 => (some (feq t123 a0))) else (some false))
set_option maxHeartbeats 8000000 in
set_option maxRecDepth 100000 in
theorem meter_whole.calls (a0 : Nat) (r : Bool) (w : World) (h : meter_whole.f a0 = some r) :
  Calls Try.prog 62 #[.float .f64 a0] w fun e w' => e = .returned (.bool r) ∧ Drawn0 w w' := by
 have H : ((math_Abs.f a0).bind fun t122 => (if fle t122 4756540486875873280 = true then ((math_Trunc.f a0).bind fun t123 => (some (feq t123 a0))) else (some false))) = some r := h
 clear h
 replace H := Option.bind_eq_some_iff.mp H
 obtain ⟨t122, A20, H⟩ := H
 replace H : (if fle t122 4756540486875873280 = true then ((math_Trunc.f a0).bind fun t123 => (some (feq t123 a0))) else (some false)) = some r := H
 have A2 := Aside0.mk A20
 clear A20
 by_cases c3 : fle t122 4756540486875873280 = true
 ·
  rw [if_pos c3] at H
  have c3b0 : fle t122 4756540486875873280 = true := c3
  clear c3
  replace H := Option.bind_eq_some_iff.mp H
  obtain ⟨t123, A40, H⟩ := H
  replace H : (some (feq t123 a0)) = some r := H
  have A4 := Aside0.mk A40
  clear A40
  obtain rfl := Option.some.inj H
  go_enter Try.func62, Try.ntmps62
  go_wp2_with (first | ((with_reducible refine gate_callee (f := 82) rfl ?_); refine goesL_ (some 4) rfl rfl Try.func82 (by kernel_rfl) rfl #[.float .f64 a0] rfl (by (try simp only [List.map_toArray, List.map_cons, List.map_nil]); first | done | rfl | (simp only [List.length_drop, List.length_take]; rfl)) ?_; (with_reducible refine (math_Abs.calls a0 t122 _ A2.out).mono ?_); rintro e w' ⟨rfl, ⟨nd, rfl⟩⟩; refine ⟨_, rfl, ?_⟩) | (go_at_call 66; (with_reducible refine (math_Trunc.calls a0 t123 _ A4.out).mono ?_); rintro e w' ⟨rfl, ⟨nd, rfl⟩⟩))
  go_ret
  exact ⟨by first | rfl | (simp; done) | (simp [*]; done), by repeat (first | exact Drawn0.refl _ | apply Drawn0.step)⟩
 ·
  rw [if_neg c3] at H
  have c3b0 : fle t122 4756540486875873280 = false := Bool.eq_false_iff.mpr c3
  clear c3
  obtain rfl := Option.some.inj H
  go_enter Try.func62, Try.ntmps62
  go_wp2_with (first | ((with_reducible refine gate_callee (f := 82) rfl ?_); refine goesL_ (some 4) rfl rfl Try.func82 (by kernel_rfl) rfl #[.float .f64 a0] rfl (by (try simp only [List.map_toArray, List.map_cons, List.map_nil]); first | done | rfl | (simp only [List.length_drop, List.length_take]; rfl)) ?_; (with_reducible refine (math_Abs.calls a0 t122 _ A2.out).mono ?_); rintro e w' ⟨rfl, ⟨nd, rfl⟩⟩; refine ⟨_, rfl, ?_⟩))
  go_ret
  exact ⟨by first | rfl | (simp; done) | (simp [*]; done), by repeat (first | exact Drawn0.refl _ | apply Drawn0.step)⟩

/-! ### meter_Fits: function 29 -/
def meter_Fits.f (a0 : Cx) : Option (Bool) := (meter_whole.f a0.re).bind fun t124 => (if t124 = true then ((meter_whole.f a0.im).bind fun t125 => (some t125)) else (some false))
set_option maxHeartbeats 8000000 in
set_option maxRecDepth 100000 in
theorem meter_Fits.calls (a0 : Cx) (r : Bool) (w : World) (h : meter_Fits.f a0 = some r) :
  Calls Try.prog 29 #[.complex .f64 a0.re a0.im] w fun e w' => e = .returned (.bool r) ∧ Below w.heap.size w w' := by
 have HB := Aside0.mk (Below.refl w.heap.size w)
 have H : ((meter_whole.f a0.re).bind fun t124 => (if t124 = true then ((meter_whole.f a0.im).bind fun t125 => (some t125)) else (some false))) = some r := h
 clear h
 replace H := Option.bind_eq_some_iff.mp H
 obtain ⟨t124, A20, H⟩ := H
 replace H : (if t124 = true then ((meter_whole.f a0.im).bind fun t125 => (some t125)) else (some false)) = some r := H
 have A2 := Aside0.mk A20
 clear A20
 by_cases c3 : t124 = true
 ·
  subst c3
  have H1 : ((meter_whole.f a0.im).bind fun t125 => (some t125)) = some r := by rw [if_pos rfl] at H; exact H
  clear H
  have H := H1
  clear H1
  replace H := Option.bind_eq_some_iff.mp H
  obtain ⟨t125, A40, H⟩ := H
  replace H : (some t125) = some r := H
  have A4 := Aside0.mk A40
  clear A40
  obtain rfl := Option.some.inj H
  go_enter Try.func29, Try.ntmps29
  go_wp2_with (first | ((with_reducible refine gate_callee (f := 62) rfl ?_); refine goesL_ (some 5) rfl rfl Try.func62 (by kernel_rfl) rfl #[.float .f64 a0.re] rfl (by (try simp only [List.map_toArray, List.map_cons, List.map_nil]); first | done | rfl | (simp only [List.length_drop, List.length_take]; rfl)) ?_; (with_reducible refine (meter_whole.calls a0.re true _ A2.out).mono ?_); rintro e w' ⟨rfl, ⟨nd, rfl⟩⟩; refine ⟨_, rfl, ?_⟩) | (go_at_call 62; (with_reducible refine (meter_whole.calls a0.im t125 _ A4.out).mono ?_); rintro e w' ⟨rfl, ⟨nd, rfl⟩⟩))
  go_ret
  exact ⟨by first | rfl | (simp [errW_none, errW_some] <;> rfl) | (simp [*, errW_none, errW_some] <;> rfl), by repeat (first | (with_reducible first | exact HB.out | apply lA_ | apply lN_ | apply l1_) | exact HB.out)⟩
 ·
  replace c3 := Bool.eq_false_iff.mpr c3
  subst c3
  have H1 : (some false) = some r := by rw [if_neg (show ¬ (false = true) by decide)] at H; exact H
  clear H
  have H := H1
  clear H1
  obtain rfl := Option.some.inj H
  go_enter Try.func29, Try.ntmps29
  go_wp2_with (first | ((with_reducible refine gate_callee (f := 62) rfl ?_); refine goesL_ (some 5) rfl rfl Try.func62 (by kernel_rfl) rfl #[.float .f64 a0.re] rfl (by (try simp only [List.map_toArray, List.map_cons, List.map_nil]); first | done | rfl | (simp only [List.length_drop, List.length_take]; rfl)) ?_; (with_reducible refine (meter_whole.calls a0.re false _ A2.out).mono ?_); rintro e w' ⟨rfl, ⟨nd, rfl⟩⟩; refine ⟨_, rfl, ?_⟩))
  go_ret
  exact ⟨by first | rfl | (simp [errW_none, errW_some] <;> rfl) | (simp [*, errW_none, errW_some] <;> rfl), by repeat (first | (with_reducible first | exact HB.out | apply lA_ | apply lN_ | apply l1_) | exact HB.out)⟩

/-! ### pylonlaw12_Z_c: function 30 -/
def pylonlaw12_Z_c.f (a0_0 : Nat) (a0_1 : Nat) : Option (Cx) := some (cx a0_0 a0_1)
set_option maxHeartbeats 8000000 in
set_option maxRecDepth 100000 in
theorem pylonlaw12_Z_c.calls (a0_0 : Nat) (a0_1 : Nat) (r : Cx) (w : World) (h : pylonlaw12_Z_c.f a0_0 a0_1 = some r) :
  Calls Try.prog 30 #[.agg #[.float .f64 a0_0, .float .f64 a0_1]] w fun e w' => e = .returned (.complex .f64 r.re r.im) ∧ Below w.heap.size w w' := by
 have hu47 := Try.underlying47
 have HB := Aside0.mk (Below.refl w.heap.size w)
 have H : (some (cx a0_0 a0_1)) = some r := h
 clear h
 obtain rfl := Option.some.inj H
 go_enter Try.func30, Try.ntmps30
 go_wp2_with (first | ((with_reducible refine gate_dst (N := 1) rfl ?_); refine box_event ?hg (N := 1) ?hd (cs := #[.float .f64 a0_0, .float .f64 a0_1]) (t := 47) ?hr ?_; (case hd => rfl); (case hg => rfl); (case hr => first | (go_simp; done) | (go_simp; rfl)); intro gb126 hg w2 hbox hb; have n0_ := Aside0.mk (below_step (by repeat (first | (with_reducible first | exact HB.out | apply lA_ | apply lN_ | apply l1_) | exact HB.out)) hb); have n1_ := Aside0.mk (hbox); have n2_ := Aside0.mk ((by rw [hg]; exact (below_size (by repeat (first | (with_reducible first | exact HB.out | apply lA_ | apply lN_ | apply l1_) | exact HB.out))) : w.heap.size ≤ gb126)); have n3_ := Aside0.mk ((by rw [hg]; exact (below_size (by repeat (first | (with_reducible first | exact HB.out | apply lA_ | apply lN_ | apply l1_) | exact HB.out))) : w.heap.size ≤ gb126)); clear HB; have HB := n0_; have BK126 := n1_; have GW126 := n2_; have GE126 := n3_; clear n0_ n1_ n2_ n3_; clear hb hbox hg; have hcz3_0 : w2.cell? ⟨gb126, 0, none⟩ = some (.float .f64 a0_0) := (bC_ BK126.out 0).trans rfl; have hcz3_1 : w2.cell? ⟨gb126, 1, none⟩ = some (.float .f64 a0_1) := (bC_ BK126.out 1).trans rfl; have hfz3_0 := bZ_ BK126.out 0; have hfz3_1 := bZ_ BK126.out 1))
 go_ret
 exact ⟨by first | rfl | (simp [errW_none, errW_some] <;> rfl) | (simp [*, errW_none, errW_some] <;> rfl), by repeat (first | (with_reducible first | exact HB.out | apply lA_ | apply lN_ | apply l1_ | refine lS_ ?_ GE126.out) | exact HB.out)⟩

end Go.Proofs.Ytapimggcnneabaa.PMA
