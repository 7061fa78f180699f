-- Written by a program of this session for this claim (wip/print2.sh). Lean checks it.
import Derived.Test.YtofedlghaopciaaGreatDoorPAx0
namespace Go.Proofs.YtofedlghaopciaaGreatDoor.PA
open Go.Proofs.YtofedlghaopciaaGreatDoorW.PrintWords
attribute [local go_sem high] fx_eql fx_neq fx_lss fx_leq fx_gtr fx_geq fx_add fx_sub fx_mul fx_neg fx_toint cxx_add cxx_sub cxx_mul cxx_eql cxx_neq cxx_pick st_float st_complex
open Go.RowKit Go.Proofs.YtofedlghaopciaaGreatDoorW.PrintWords Go.Proofs.YtofedlghaopciaaGreatDoorW.PrintLast Go.Proofs.YtofedlghaopciaaGreatDoorW.PrintMore
attribute [local go_sem] max2_int min2_int max_two min_two max_three min_three max_four min_four   -- for this text's walks alone
set_option linter.unusedVariables false
set_option linter.unusedSimpArgs false

/-! ### pylonref02_whole: function 72 -/
def pylonref02_whole.f (a0 : Nat) (a1 : Int) : Option (Int × Bool) := if fge a0 (fneg (floatOfInt .f64 a1)) = true then (if (fle a0 (floatOfInt .f64 a1) = true) then (if f2iok a0 = true then (some (f2i a0, feq (floatOfInt .f64 (f2i a0)) a0)) else (none)) else (some (0, false))) else (some (0, false))
set_option maxHeartbeats 8000000 in
set_option maxRecDepth 100000 in
theorem pylonref02_whole.calls (a0 : Nat) (a1 : Int) (r1 : Int) (r2 : Bool) (w : World) (h : pylonref02_whole.f a0 a1 = some (r1, r2)) :
  Calls Tryz.prog 72 #[.float .f64 a0, .int .i64 a1] w fun e w' => e = .returned (.tuple #[.int .i64 r1, .bool r2]) ∧ Drawn0 w w' := by
 have H : (if fge a0 (fneg (floatOfInt .f64 a1)) = true then (if (fle a0 (floatOfInt .f64 a1) = true) then (if f2iok a0 = true then (some (f2i a0, feq (floatOfInt .f64 (f2i a0)) a0)) else (none)) else (some (0, false))) else (some (0, false))) = some (r1, r2) := h
 clear h
 by_cases c3 : fge a0 (fneg (floatOfInt .f64 a1)) = true
 ·
  rw [if_pos c3] at H
  have c3b0 : fge a0 (fneg (floatOfInt .f64 a1)) = true := c3
  clear c3
  by_cases c4 : (fle a0 (floatOfInt .f64 a1) = true)
  ·
   rw [if_pos c4] at H
   have c4b0 : fle a0 (floatOfInt .f64 a1) = true := c4
   clear c4
   by_cases c5 : f2iok a0 = true
   ·
    rw [if_pos c5] at H
    have c5b0 := eq_true c5
    have c5b1 : decide (f2iok a0 = true) = true := decide_eq_true c5
    clear c5
    simp only [Option.some.injEq, Prod.mk.injEq] at H
    obtain ⟨rfl, rfl⟩ := H
    go_enter Tryz.func72, Tryz.ntmps72
    go_wp2
    go_ret2
    exact ⟨by first | rfl | (simp; done) | (simp [*]; done), by repeat (first | exact Drawn0.refl _ | apply Drawn0.step)⟩
   ·
    rw [if_neg c5] at H
    exact absurd H (by simp)
  ·
   rw [if_neg c4] at H
   have c4b0 : fle a0 (floatOfInt .f64 a1) = false := Bool.eq_false_iff.mpr c4
   clear c4
   simp only [Option.some.injEq, Prod.mk.injEq] at H
   obtain ⟨rfl, rfl⟩ := H
   go_enter Tryz.func72, Tryz.ntmps72
   go_wp2
   go_ret2
   exact ⟨by first | rfl | (simp; done) | (simp [*]; done), by repeat (first | exact Drawn0.refl _ | apply Drawn0.step)⟩
 ·
  rw [if_neg c3] at H
  have c3b0 : fge a0 (fneg (floatOfInt .f64 a1)) = false := Bool.eq_false_iff.mpr c3
  clear c3
  simp only [Option.some.injEq, Prod.mk.injEq] at H
  obtain ⟨rfl, rfl⟩ := H
  go_enter Tryz.func72, Tryz.ntmps72
  go_wp2
  go_ret2
  exact ⟨by first | rfl | (simp; done) | (simp [*]; done), by repeat (first | exact Drawn0.refl _ | apply Drawn0.step)⟩

/-! ### pylonref02_Within: function 46 -/
def pylonref02_Within.f (a0 : Cx) (a1 : Int) : Option (Int × Int × Bool) := (pylonref02_whole.f a0.re a1).bind fun bt286 => ((pylonref02_whole.f a0.im a1).bind fun bt288 => (if bt286.2 = true then (some (bt286.1, bt288.1, bt288.2)) else (some (bt286.1, bt288.1, false))))
set_option maxHeartbeats 8000000 in
set_option maxRecDepth 100000 in
theorem pylonref02_Within.calls (a0 : Cx) (a1 : Int) (r1 : Int) (r2 : Int) (r3 : Bool) (w : World) (h : pylonref02_Within.f a0 a1 = some (r1, r2, r3)) :
  Calls Tryz.prog 46 #[.complex .f64 a0.re a0.im, .int .i64 a1] w fun e w' => e = .returned (.tuple #[.agg #[.int .i64 r1, .int .i64 r2], .bool r3]) ∧ Below w.heap.size w w' := by
 have hu59 := Tryz.underlying59
 have HB := Aside0.mk (Below.refl w.heap.size w)
 have H : ((pylonref02_whole.f a0.re a1).bind fun bt286 => ((pylonref02_whole.f a0.im a1).bind fun bt288 => (if bt286.2 = true then (some (bt286.1, bt288.1, bt288.2)) else (some (bt286.1, bt288.1, false))))) = some (r1, r2, r3) := h
 clear h
 replace H := Option.bind_eq_some_iff.mp H
 obtain ⟨⟨t286, t287⟩, A30, H⟩ := H
 replace H : ((pylonref02_whole.f a0.im a1).bind fun bt288 => (if t287 = true then (some (t286, bt288.1, bt288.2)) else (some (t286, bt288.1, false)))) = some (r1, r2, r3) := H
 have A3 := Aside0.mk A30
 clear A30
 replace H := Option.bind_eq_some_iff.mp H
 obtain ⟨⟨t288, t289⟩, A40, H⟩ := H
 replace H : (if t287 = true then (some (t286, t288, t289)) else (some (t286, t288, false))) = some (r1, r2, r3) := H
 have A4 := Aside0.mk A40
 clear A40
 by_cases c5 : t287 = true
 ·
  subst c5
  have H1 : (some (t286, t288, t289)) = some (r1, r2, r3) := by rw [if_pos rfl] at H; exact H
  clear H
  have H := H1
  clear H1
  simp only [Option.some.injEq, Prod.mk.injEq] at H
  obtain ⟨rfl, rfl, rfl⟩ := H
  go_enter Tryz.func46, Tryz.ntmps46
  go_wp2_with (first | ((with_reducible refine gate_dst (N := 4) rfl ?_); refine box_event ?hg (N := 4) ?hd (cs := #[.int .i64 0, .int .i64 0]) (t := 59) ?hr ?_; (case hd => rfl); (case hg => rfl); (case hr => first | (go_simp; done) | (go_simp; rfl)); intro gb285 hg w6 hbox hb; have BK285 := Aside0.mk (hbox); have GW285 := Aside0.mk ((ge_ hg : w.heap.size ≤ gb285)); have GE285 := Aside0.mk ((ge_ hg : w.heap.size ≤ gb285)); replace HB := Aside0.mk (bst_ hb); clear hb hbox hg) | ((with_reducible refine gate_callee (f := 72) rfl ?_); refine gL_ (some 14) Tryz.func72 #[.float .f64 a0.re, .int .i64 a1] ?_; (with_reducible refine (pylonref02_whole.calls a0.re a1 t286 true _ A3.out).mono ?_); rintro e w' ⟨rfl, ⟨nd, rfl⟩⟩; refine ⟨_, rfl, ?_⟩; (try (rw [drewN_self w6]; generalize hq_ : World.drewN w6 _ = w6; have n0_ : Aside0 (w6.heap[gb285]? = some (.cells #[.int .i64 0, .int .i64 0] 59 (0, 0))) := ⟨by rw [← hq_]; exact (by (with_reducible repeat (first | refine blk_drewN ?_ _ | refine blk_drew ?_ | refine blk_alloc ?_ _)); exact BK285.out)⟩; have n1_ : Aside0 (Below w.heap.size w w6) := ⟨by rw [← hq_]; exact bl_⟩; clear BK285 HB hq_; have BK285 := n0_; have HB := n1_; clear n0_ n1_))) | ((with_reducible refine gate_callee (f := 72) rfl ?_); refine gL_ (some 21) Tryz.func72 #[.float .f64 a0.im, .int .i64 a1] ?_; (with_reducible refine (pylonref02_whole.calls a0.im a1 t288 t289 _ A4.out).mono ?_); rintro e w' ⟨rfl, ⟨nd, rfl⟩⟩; refine ⟨_, rfl, ?_⟩; (try (rw [drewN_self w6]; generalize hq_ : World.drewN w6 _ = w6; have n0_ : Aside0 (w6.heap[gb285]? = some (.cells #[.int .i64 0, .int .i64 0] 59 (0, 0))) := ⟨by rw [← hq_]; exact (by (with_reducible repeat (first | refine blk_drewN ?_ _ | refine blk_drew ?_ | refine blk_alloc ?_ _)); exact BK285.out)⟩; have n1_ : Aside0 (Below w.heap.size w w6) := ⟨by rw [← hq_]; exact bl_⟩; clear BK285 HB hq_; have BK285 := n0_; have HB := n1_; clear n0_ n1_)); have hcz7_0 : w6.cell? ⟨gb285, 0, none⟩ = some (.int .i64 0) := (blk_cell BK285.out 0).trans rfl; have hcz7_1 : w6.cell? ⟨gb285, 1, none⟩ = some (.int .i64 0) := (blk_cell BK285.out 1).trans rfl; have hfz7_0 := blk_frozen BK285.out 0; have hfz7_1 := blk_frozen BK285.out 1))
  refine bodyPost_ret (results_ct rfl _ _ gb285 59 #[.int .i64 t286, .int .i64 t288] (0, 0) _ rfl (by (with_reducible repeat (first | refine blk_drewN ?_ _ | refine blk_drew ?_ | refine blk_alloc ?_ _)); refine blk_put (cs := #[.int .i64 t286, .int .i64 0]) ?_ 1 _ rfl; (with_reducible repeat (first | refine blk_drewN ?_ _ | refine blk_drew ?_ | refine blk_alloc ?_ _)); refine blk_put (cs := #[.int .i64 0, .int .i64 0]) ?_ 0 _ rfl; (with_reducible repeat (first | refine blk_drewN ?_ _ | refine blk_drew ?_ | refine blk_alloc ?_ _)); exact BK285.out) Tryz.underlying59 rfl (by kernel_rfl)) rfl ?_
  exact fin_
 ·
  replace c5 := Bool.eq_false_iff.mpr c5
  subst c5
  have H1 : (some (t286, t288, false)) = some (r1, r2, r3) := by rw [if_neg (show ¬ (false = true) by decide)] at H; exact H
  clear H
  have H := H1
  clear H1
  simp only [Option.some.injEq, Prod.mk.injEq] at H
  obtain ⟨rfl, rfl, rfl⟩ := H
  go_enter Tryz.func46, Tryz.ntmps46
  go_wp2_with (first | ((with_reducible refine gate_dst (N := 4) rfl ?_); refine box_event ?hg (N := 4) ?hd (cs := #[.int .i64 0, .int .i64 0]) (t := 59) ?hr ?_; (case hd => rfl); (case hg => rfl); (case hr => first | (go_simp; done) | (go_simp; rfl)); intro gb285 hg w8 hbox hb; have BK285 := Aside0.mk (hbox); have GW285 := Aside0.mk ((ge_ hg : w.heap.size ≤ gb285)); have GE285 := Aside0.mk ((ge_ hg : w.heap.size ≤ gb285)); replace HB := Aside0.mk (bst_ hb); clear hb hbox hg) | ((with_reducible refine gate_callee (f := 72) rfl ?_); refine gL_ (some 14) Tryz.func72 #[.float .f64 a0.re, .int .i64 a1] ?_; (with_reducible refine (pylonref02_whole.calls a0.re a1 t286 false _ A3.out).mono ?_); rintro e w' ⟨rfl, ⟨nd, rfl⟩⟩; refine ⟨_, rfl, ?_⟩; (try (rw [drewN_self w8]; generalize hq_ : World.drewN w8 _ = w8; have n0_ : Aside0 (w8.heap[gb285]? = some (.cells #[.int .i64 0, .int .i64 0] 59 (0, 0))) := ⟨by rw [← hq_]; exact (by (with_reducible repeat (first | refine blk_drewN ?_ _ | refine blk_drew ?_ | refine blk_alloc ?_ _)); exact BK285.out)⟩; have n1_ : Aside0 (Below w.heap.size w w8) := ⟨by rw [← hq_]; exact bl_⟩; clear BK285 HB hq_; have BK285 := n0_; have HB := n1_; clear n0_ n1_))) | ((with_reducible refine gate_callee (f := 72) rfl ?_); refine gL_ (some 21) Tryz.func72 #[.float .f64 a0.im, .int .i64 a1] ?_; (with_reducible refine (pylonref02_whole.calls a0.im a1 t288 t289 _ A4.out).mono ?_); rintro e w' ⟨rfl, ⟨nd, rfl⟩⟩; refine ⟨_, rfl, ?_⟩; (try (rw [drewN_self w8]; generalize hq_ : World.drewN w8 _ = w8; have n0_ : Aside0 (w8.heap[gb285]? = some (.cells #[.int .i64 0, .int .i64 0] 59 (0, 0))) := ⟨by rw [← hq_]; exact (by (with_reducible repeat (first | refine blk_drewN ?_ _ | refine blk_drew ?_ | refine blk_alloc ?_ _)); exact BK285.out)⟩; have n1_ : Aside0 (Below w.heap.size w w8) := ⟨by rw [← hq_]; exact bl_⟩; clear BK285 HB hq_; have BK285 := n0_; have HB := n1_; clear n0_ n1_)); have hcz9_0 : w8.cell? ⟨gb285, 0, none⟩ = some (.int .i64 0) := (blk_cell BK285.out 0).trans rfl; have hcz9_1 : w8.cell? ⟨gb285, 1, none⟩ = some (.int .i64 0) := (blk_cell BK285.out 1).trans rfl; have hfz9_0 := blk_frozen BK285.out 0; have hfz9_1 := blk_frozen BK285.out 1))
  refine bodyPost_ret (results_ct rfl _ _ gb285 59 #[.int .i64 t286, .int .i64 t288] (0, 0) _ rfl (by (with_reducible repeat (first | refine blk_drewN ?_ _ | refine blk_drew ?_ | refine blk_alloc ?_ _)); refine blk_put (cs := #[.int .i64 t286, .int .i64 0]) ?_ 1 _ rfl; (with_reducible repeat (first | refine blk_drewN ?_ _ | refine blk_drew ?_ | refine blk_alloc ?_ _)); refine blk_put (cs := #[.int .i64 0, .int .i64 0]) ?_ 0 _ rfl; (with_reducible repeat (first | refine blk_drewN ?_ _ | refine blk_drew ?_ | refine blk_alloc ?_ _)); exact BK285.out) Tryz.underlying59 rfl (by kernel_rfl)) rfl ?_
  exact fin_

/-! ### pylonref02_Fits: function 23 -/
def pylonref02_Fits.f (a0 : Cx) : Option (Int × Int × Bool) := (pylonref02_Within.f a0 33554432).bind fun bt291 => (some (bt291.1, bt291.2.1, bt291.2.2))
set_option maxHeartbeats 8000000 in
set_option maxRecDepth 100000 in
theorem pylonref02_Fits.calls (a0 : Cx) (r1 : Int) (r2 : Int) (r3 : Bool) (w : World) (h : pylonref02_Fits.f a0 = some (r1, r2, r3)) :
  Calls Tryz.prog 23 #[.complex .f64 a0.re a0.im] w fun e w' => e = .returned (.tuple #[.agg #[.int .i64 r1, .int .i64 r2], .bool r3]) ∧ Below w.heap.size w w' := by
 have hu59 := Tryz.underlying59
 have HB := Aside0.mk (Below.refl w.heap.size w)
 have H : ((pylonref02_Within.f a0 33554432).bind fun bt291 => (some (bt291.1, bt291.2.1, bt291.2.2))) = some (r1, r2, r3) := h
 clear h
 replace H := Option.bind_eq_some_iff.mp H
 obtain ⟨⟨t291, t292, t293⟩, A20, H⟩ := H
 replace H : (some (t291, t292, t293)) = some (r1, r2, r3) := H
 have A2 := Aside0.mk A20
 clear A20
 simp only [Option.some.injEq, Prod.mk.injEq] at H
 obtain ⟨rfl, rfl, rfl⟩ := H
 go_enter Tryz.func23, Tryz.ntmps23
 go_wp2_with (first | ((with_reducible refine gate_dst (N := 2) rfl ?_); refine box_event ?hg (N := 2) ?hd (cs := #[.int .i64 0, .int .i64 0]) (t := 59) ?hr ?_; (case hd => rfl); (case hg => rfl); (case hr => first | (go_simp; done) | (go_simp; rfl)); intro gb290 hg w3 hbox hb; have BK290 := Aside0.mk (hbox); have GW290 := Aside0.mk ((ge_ hg : w.heap.size ≤ gb290)); have GE290 := Aside0.mk ((ge_ hg : w.heap.size ≤ gb290)); replace HB := Aside0.mk (bst_ hb); clear hb hbox hg) | ((with_reducible refine gate_callee (f := 46) rfl ?_); refine gL_ (some 5) Tryz.func46 #[.complex .f64 a0.re a0.im, .int .i64 33554432] ?_; (with_reducible refine (pylonref02_Within.calls a0 33554432 t291 t292 t293 _ A2.out).mono ?_); rintro e w4 ⟨rfl, hb⟩; refine ⟨_, rfl, ?_⟩; replace BK290 := Aside0.mk (blk_below (g := gb290) (o := .cells #[.int .i64 0, .int .i64 0] 59 (0, 0)) (by (with_reducible repeat (first | refine blk_drewN ?_ _ | refine blk_drew ?_ | refine blk_alloc ?_ _)); exact BK290.out) hb); replace HB := Aside0.mk (bst_ hb); (try clear hb); (try clear hb2); (try clear hk); (try clear hi); have hcz5_0 : w4.cell? ⟨gb290, 0, none⟩ = some (.int .i64 0) := (blk_cell BK290.out 0).trans rfl; have hcz5_1 : w4.cell? ⟨gb290, 1, none⟩ = some (.int .i64 0) := (blk_cell BK290.out 1).trans rfl; have hfz5_0 := blk_frozen BK290.out 0; have hfz5_1 := blk_frozen BK290.out 1))
 refine bodyPost_ret (results_ct rfl _ _ gb290 59 #[.int .i64 t291, .int .i64 t292] (0, 0) _ rfl (by (with_reducible repeat (first | refine blk_drewN ?_ _ | refine blk_drew ?_ | refine blk_alloc ?_ _)); refine blk_put (cs := #[.int .i64 t291, .int .i64 0]) ?_ 1 _ rfl; (with_reducible repeat (first | refine blk_drewN ?_ _ | refine blk_drew ?_ | refine blk_alloc ?_ _)); refine blk_put (cs := #[.int .i64 0, .int .i64 0]) ?_ 0 _ rfl; (with_reducible repeat (first | refine blk_drewN ?_ _ | refine blk_drew ?_ | refine blk_alloc ?_ _)); exact BK290.out) Tryz.underlying59 rfl (by kernel_rfl)) rfl ?_
 exact fin_

/-! ### pylonref02_Made: function 47 -/
def pylonref02_Made.f (a0_0 : Int) (a0_1 : Int) : Option (Cx) := some (cx (floatOfInt .f64 a0_0) (floatOfInt .f64 a0_1))
set_option maxHeartbeats 8000000 in
set_option maxRecDepth 100000 in
theorem pylonref02_Made.calls (a0_0 : Int) (a0_1 : Int) (r : Cx) (w : World) (h : pylonref02_Made.f a0_0 a0_1 = some r) :
  Calls Tryz.prog 47 #[.agg #[.int .i64 a0_0, .int .i64 a0_1]] w fun e w' => e = .returned (.complex .f64 r.re r.im) ∧ Below w.heap.size w w' := by
 have hu59 := Tryz.underlying59
 have HB := Aside0.mk (Below.refl w.heap.size w)
 have H : (some (cx (floatOfInt .f64 a0_0) (floatOfInt .f64 a0_1))) = some r := h
 clear h
 obtain rfl := Option.some.inj H
 go_enter Tryz.func47, Tryz.ntmps47
 go_wp2_with (first | ((with_reducible refine gate_dst (N := 1) rfl ?_); refine box_event ?hg (N := 1) ?hd (cs := #[.int .i64 a0_0, .int .i64 a0_1]) (t := 59) ?hr ?_; (case hd => rfl); (case hg => rfl); (case hr => first | (go_simp; done) | (go_simp; rfl)); intro gb294 hg w2 hbox hb; have BK294 := Aside0.mk (hbox); have GW294 := Aside0.mk ((ge_ hg : w.heap.size ≤ gb294)); have GE294 := Aside0.mk ((ge_ hg : w.heap.size ≤ gb294)); replace HB := Aside0.mk (bst_ hb); clear hb hbox hg; have hcz3_0 : w2.cell? ⟨gb294, 0, none⟩ = some (.int .i64 a0_0) := (blk_cell BK294.out 0).trans rfl; have hcz3_1 : w2.cell? ⟨gb294, 1, none⟩ = some (.int .i64 a0_1) := (blk_cell BK294.out 1).trans rfl; have hfz3_0 := blk_frozen BK294.out 0; have hfz3_1 := blk_frozen BK294.out 1))
 go_ret
 exact fin_

/-! ### pylonref02_Of: function 24 -/
def pylonref02_Of.f (a0 : Int) (a1 : Int) : Option (Cx × Int) := if a0 < (-33554432) then (some (cx 0 0, 5)) else (if a0 > 33554432 then (some (cx 0 0, 5)) else (if a1 < (-33554432) then (some (cx 0 0, 5)) else (if a1 > 33554432 then (some (cx 0 0, 5)) else ((pylonref02_Made.f a0 a1).bind fun t295 => (some (t295, 0))))))
set_option maxHeartbeats 8000000 in
set_option maxRecDepth 100000 in
theorem pylonref02_Of.calls (a0 : Int) (a1 : Int) (r1 : Cx) (r2 : Int) (w : World) (h : pylonref02_Of.f a0 a1 = some (r1, r2)) :
  Calls Tryz.prog 24 #[.int .i64 a0, .int .i64 a1] w fun e w' => e = .returned (.tuple #[.complex .f64 r1.re r1.im, .int .i64 r2]) ∧ Below w.heap.size w w' := by
 have hu59 := Tryz.underlying59
 have HB := Aside0.mk (Below.refl w.heap.size w)
 have H : (if a0 < (-33554432) then (some (cx 0 0, 5)) else (if a0 > 33554432 then (some (cx 0 0, 5)) else (if a1 < (-33554432) then (some (cx 0 0, 5)) else (if a1 > 33554432 then (some (cx 0 0, 5)) else ((pylonref02_Made.f a0 a1).bind fun t295 => (some (t295, 0))))))) = some (r1, r2) := h
 clear h
 by_cases c3 : a0 < (-33554432)
 ·
  rw [if_pos c3] at H
  have c3b0 : decide (a0 < (-33554432)) = true := decide_eq_true c3
  clear c3
  simp only [Option.some.injEq, Prod.mk.injEq] at H
  obtain ⟨rfl, rfl⟩ := H
  go_enter Tryz.func24, Tryz.ntmps24
  go_wp2
  go_ret2
  exact fin_
 ·
  rw [if_neg c3] at H
  have c3b0 : decide (a0 < (-33554432)) = false := decide_eq_false c3
  clear c3
  by_cases c4 : a0 > 33554432
  ·
   rw [if_pos c4] at H
   have c4b0 : decide (33554432 < a0) = true := decide_eq_true c4
   clear c4
   simp only [Option.some.injEq, Prod.mk.injEq] at H
   obtain ⟨rfl, rfl⟩ := H
   go_enter Tryz.func24, Tryz.ntmps24
   go_wp2
   go_ret2
   exact fin_
  ·
   rw [if_neg c4] at H
   have c4b0 : decide (33554432 < a0) = false := decide_eq_false c4
   clear c4
   by_cases c5 : a1 < (-33554432)
   ·
    rw [if_pos c5] at H
    have c5b0 : decide (a1 < (-33554432)) = true := decide_eq_true c5
    clear c5
    simp only [Option.some.injEq, Prod.mk.injEq] at H
    obtain ⟨rfl, rfl⟩ := H
    go_enter Tryz.func24, Tryz.ntmps24
    go_wp2
    go_ret2
    exact fin_
   ·
    rw [if_neg c5] at H
    have c5b0 : decide (a1 < (-33554432)) = false := decide_eq_false c5
    clear c5
    by_cases c6 : a1 > 33554432
    ·
     rw [if_pos c6] at H
     have c6b0 : decide (33554432 < a1) = true := decide_eq_true c6
     clear c6
     simp only [Option.some.injEq, Prod.mk.injEq] at H
     obtain ⟨rfl, rfl⟩ := H
     go_enter Tryz.func24, Tryz.ntmps24
     go_wp2
     go_ret2
     exact fin_
    ·
     rw [if_neg c6] at H
     have c6b0 : decide (33554432 < a1) = false := decide_eq_false c6
     clear c6
     replace H := Option.bind_eq_some_iff.mp H
     obtain ⟨t295, A70, H⟩ := H
     replace H : (some (t295, 0)) = some (r1, r2) := H
     have A7 := Aside0.mk A70
     clear A70
     simp only [Option.some.injEq, Prod.mk.injEq] at H
     obtain ⟨rfl, rfl⟩ := H
     go_enter Tryz.func24, Tryz.ntmps24
     go_wp2_with (first | ((with_reducible refine gate_callee (f := 47) rfl ?_); refine gL_ (some 23) Tryz.func47 #[.agg #[.int .i64 a0, .int .i64 a1]] ?_; (with_reducible refine (pylonref02_Made.calls a0 a1 t295 _ A7.out).mono ?_); rintro e w8 ⟨rfl, hb⟩; refine ⟨_, rfl, ?_⟩; replace HB := Aside0.mk (bst_ hb); (try clear hb); (try clear hb2); (try clear hk); (try clear hi)))
     go_ret2
     exact fin_

/-! ### pylonref02_plus: function 48 -/
def pylonref02_plus.f (a0_0 : Int) (a0_1 : Int) (a1_0 : Int) (a1_1 : Int) : Option (Int × Int) := some (wrap64 (a0_0 + a1_0), wrap64 (a0_1 + a1_1))
set_option maxHeartbeats 8000000 in
set_option maxRecDepth 100000 in
theorem pylonref02_plus.calls (a0_0 : Int) (a0_1 : Int) (a1_0 : Int) (a1_1 : Int) (r1 : Int) (r2 : Int) (w : World) (h : pylonref02_plus.f a0_0 a0_1 a1_0 a1_1 = some (r1, r2)) :
  Calls Tryz.prog 48 #[.agg #[.int .i64 a0_0, .int .i64 a0_1], .agg #[.int .i64 a1_0, .int .i64 a1_1]] w fun e w' => e = .returned (.agg #[.int .i64 r1, .int .i64 r2]) ∧ Below w.heap.size w w' := by
 have hu59 := Tryz.underlying59
 have HB := Aside0.mk (Below.refl w.heap.size w)
 have H : (some (wrap64 (a0_0 + a1_0), wrap64 (a0_1 + a1_1))) = some (r1, r2) := h
 clear h
 simp only [Option.some.injEq, Prod.mk.injEq] at H
 obtain ⟨rfl, rfl⟩ := H
 go_enter Tryz.func48, Tryz.ntmps48
 go_wp2_with (first | ((with_reducible refine gate_dst (N := 2) rfl ?_); refine box_event ?hg (N := 2) ?hd (cs := #[.int .i64 a0_0, .int .i64 a0_1]) (t := 59) ?hr ?_; (case hd => rfl); (case hg => rfl); (case hr => first | (go_simp; done) | (go_simp; rfl)); intro gb296 hg w3 hbox hb; have BK296 := Aside0.mk (hbox); have GW296 := Aside0.mk ((ge_ hg : w.heap.size ≤ gb296)); have GE296 := Aside0.mk ((ge_ hg : w.heap.size ≤ gb296)); replace HB := Aside0.mk (bst_ hb); clear hb hbox hg) | ((with_reducible refine gate_dst (N := 3) rfl ?_); refine box_event ?hg (N := 3) ?hd (cs := #[.int .i64 a1_0, .int .i64 a1_1]) (t := 59) ?hr ?_; (case hd => rfl); (case hg => rfl); (case hr => first | (go_simp; done) | (go_simp; rfl)); intro gb297 hg w4 hbox hb; have BK297 := Aside0.mk (hbox); have GW297 := Aside0.mk ((ge_ hg : w.heap.size ≤ gb297)); have GE297 := Aside0.mk ((ge_ hg : w.heap.size ≤ gb297)); have NB296_297 := Aside0.mk ((nl_ hg (by (with_reducible repeat (first | refine blk_drewN ?_ _ | refine blk_drew ?_ | refine blk_alloc ?_ _)); exact BK296.out) : gb296 ≠ gb297)); have NB297_296 := Aside0.mk ((ng_ hg (by (with_reducible repeat (first | refine blk_drewN ?_ _ | refine blk_drew ?_ | refine blk_alloc ?_ _)); exact BK296.out) : gb297 ≠ gb296)); replace BK296 := Aside0.mk (blk_below (g := gb296) (o := .cells #[.int .i64 a0_0, .int .i64 a0_1] 59 (0, 0)) (by (with_reducible repeat (first | refine blk_drewN ?_ _ | refine blk_drew ?_ | refine blk_alloc ?_ _)); exact BK296.out) hb); replace HB := Aside0.mk (bst_ hb); clear hb hbox hg) | ((with_reducible refine gate_dst (N := 4) rfl ?_); refine box_event ?hg (N := 4) ?hd (cs := #[.int .i64 0, .int .i64 0]) (t := 59) ?hr ?_; (case hd => rfl); (case hg => rfl); (case hr => first | (go_simp; done) | (go_simp; rfl)); intro gb298 hg w5 hbox hb; have BK298 := Aside0.mk (hbox); have GW298 := Aside0.mk ((ge_ hg : w.heap.size ≤ gb298)); have GE298 := Aside0.mk ((ge_ hg : w.heap.size ≤ gb298)); have NB296_298 := Aside0.mk ((nl_ hg (by (with_reducible repeat (first | refine blk_drewN ?_ _ | refine blk_drew ?_ | refine blk_alloc ?_ _)); exact BK296.out) : gb296 ≠ gb298)); have NB298_296 := Aside0.mk ((ng_ hg (by (with_reducible repeat (first | refine blk_drewN ?_ _ | refine blk_drew ?_ | refine blk_alloc ?_ _)); exact BK296.out) : gb298 ≠ gb296)); have NB297_298 := Aside0.mk ((nl_ hg (by (with_reducible repeat (first | refine blk_drewN ?_ _ | refine blk_drew ?_ | refine blk_alloc ?_ _)); exact BK297.out) : gb297 ≠ gb298)); have NB298_297 := Aside0.mk ((ng_ hg (by (with_reducible repeat (first | refine blk_drewN ?_ _ | refine blk_drew ?_ | refine blk_alloc ?_ _)); exact BK297.out) : gb298 ≠ gb297)); replace BK296 := Aside0.mk (blk_below (g := gb296) (o := .cells #[.int .i64 a0_0, .int .i64 a0_1] 59 (0, 0)) (by (with_reducible repeat (first | refine blk_drewN ?_ _ | refine blk_drew ?_ | refine blk_alloc ?_ _)); exact BK296.out) hb); replace BK297 := Aside0.mk (blk_below (g := gb297) (o := .cells #[.int .i64 a1_0, .int .i64 a1_1] 59 (0, 0)) (by (with_reducible repeat (first | refine blk_drewN ?_ _ | refine blk_drew ?_ | refine blk_alloc ?_ _)); exact BK297.out) hb); replace HB := Aside0.mk (bst_ hb); clear hb hbox hg; have hnb6 := NB296_297.out; have hnc6 := NB297_296.out; have hnb7 := NB296_298.out; have hnc7 := NB298_296.out; have hcz8_0 : w5.cell? ⟨gb296, 0, none⟩ = some (.int .i64 a0_0) := (blk_cell BK296.out 0).trans rfl; have hcz8_1 : w5.cell? ⟨gb296, 1, none⟩ = some (.int .i64 a0_1) := (blk_cell BK296.out 1).trans rfl; have hfz8_0 := blk_frozen BK296.out 0; have hfz8_1 := blk_frozen BK296.out 1; have hnb9 := NB297_298.out; have hnc9 := NB298_297.out; have hcz10_0 : w5.cell? ⟨gb297, 0, none⟩ = some (.int .i64 a1_0) := (blk_cell BK297.out 0).trans rfl; have hcz10_1 : w5.cell? ⟨gb297, 1, none⟩ = some (.int .i64 a1_1) := (blk_cell BK297.out 1).trans rfl; have hfz10_0 := blk_frozen BK297.out 0; have hfz10_1 := blk_frozen BK297.out 1; have hcz11_0 : w5.cell? ⟨gb298, 0, none⟩ = some (.int .i64 0) := (blk_cell BK298.out 0).trans rfl; have hcz11_1 : w5.cell? ⟨gb298, 1, none⟩ = some (.int .i64 0) := (blk_cell BK298.out 1).trans rfl; have hfz11_0 := blk_frozen BK298.out 0; have hfz11_1 := blk_frozen BK298.out 1))
 refine bodyPost_ret (results_cell_row rfl _ _ gb298 59 #[.int .i64 (wrap64 (a0_0 + a1_0)), .int .i64 (wrap64 (a0_1 + a1_1))] (0, 0) _ rfl (by (with_reducible repeat (first | refine blk_drewN ?_ _ | refine blk_drew ?_ | refine blk_alloc ?_ _)); refine blk_put (cs := #[.int .i64 (wrap64 (a0_0 + a1_0)), .int .i64 0]) ?_ 1 _ rfl; (with_reducible repeat (first | refine blk_drewN ?_ _ | refine blk_drew ?_ | refine blk_alloc ?_ _)); refine blk_put (cs := #[.int .i64 0, .int .i64 0]) ?_ 0 _ rfl; (with_reducible repeat (first | refine blk_drewN ?_ _ | refine blk_drew ?_ | refine blk_alloc ?_ _)); exact BK298.out) Tryz.underlying59 rfl (by kernel_rfl)) rfl ?_
 exact fin_

/-! ### pylonref02_times: function 49 -/
def pylonref02_times.f (a0_0 : Int) (a0_1 : Int) (a1_0 : Int) (a1_1 : Int) : Option (Int × Int) := some (wrap64 ((wrap64 (a0_0 * a1_0)) - (wrap64 (a0_1 * a1_1))), wrap64 ((wrap64 (a0_0 * a1_1)) + (wrap64 (a0_1 * a1_0))))
set_option maxHeartbeats 8000000 in
set_option maxRecDepth 100000 in
theorem pylonref02_times.calls (a0_0 : Int) (a0_1 : Int) (a1_0 : Int) (a1_1 : Int) (r1 : Int) (r2 : Int) (w : World) (h : pylonref02_times.f a0_0 a0_1 a1_0 a1_1 = some (r1, r2)) :
  Calls Tryz.prog 49 #[.agg #[.int .i64 a0_0, .int .i64 a0_1], .agg #[.int .i64 a1_0, .int .i64 a1_1]] w fun e w' => e = .returned (.agg #[.int .i64 r1, .int .i64 r2]) ∧ Below w.heap.size w w' := by
 have hu59 := Tryz.underlying59
 have HB := Aside0.mk (Below.refl w.heap.size w)
 have H : (some (wrap64 ((wrap64 (a0_0 * a1_0)) - (wrap64 (a0_1 * a1_1))), wrap64 ((wrap64 (a0_0 * a1_1)) + (wrap64 (a0_1 * a1_0))))) = some (r1, r2) := h
 clear h
 simp only [Option.some.injEq, Prod.mk.injEq] at H
 obtain ⟨rfl, rfl⟩ := H
 go_enter Tryz.func49, Tryz.ntmps49
 go_wp2_with (first | ((with_reducible refine gate_dst (N := 2) rfl ?_); refine box_event ?hg (N := 2) ?hd (cs := #[.int .i64 a0_0, .int .i64 a0_1]) (t := 59) ?hr ?_; (case hd => rfl); (case hg => rfl); (case hr => first | (go_simp; done) | (go_simp; rfl)); intro gb299 hg w3 hbox hb; have BK299 := Aside0.mk (hbox); have GW299 := Aside0.mk ((ge_ hg : w.heap.size ≤ gb299)); have GE299 := Aside0.mk ((ge_ hg : w.heap.size ≤ gb299)); replace HB := Aside0.mk (bst_ hb); clear hb hbox hg) | ((with_reducible refine gate_dst (N := 3) rfl ?_); refine box_event ?hg (N := 3) ?hd (cs := #[.int .i64 a1_0, .int .i64 a1_1]) (t := 59) ?hr ?_; (case hd => rfl); (case hg => rfl); (case hr => first | (go_simp; done) | (go_simp; rfl)); intro gb300 hg w4 hbox hb; have BK300 := Aside0.mk (hbox); have GW300 := Aside0.mk ((ge_ hg : w.heap.size ≤ gb300)); have GE300 := Aside0.mk ((ge_ hg : w.heap.size ≤ gb300)); have NB299_300 := Aside0.mk ((nl_ hg (by (with_reducible repeat (first | refine blk_drewN ?_ _ | refine blk_drew ?_ | refine blk_alloc ?_ _)); exact BK299.out) : gb299 ≠ gb300)); have NB300_299 := Aside0.mk ((ng_ hg (by (with_reducible repeat (first | refine blk_drewN ?_ _ | refine blk_drew ?_ | refine blk_alloc ?_ _)); exact BK299.out) : gb300 ≠ gb299)); replace BK299 := Aside0.mk (blk_below (g := gb299) (o := .cells #[.int .i64 a0_0, .int .i64 a0_1] 59 (0, 0)) (by (with_reducible repeat (first | refine blk_drewN ?_ _ | refine blk_drew ?_ | refine blk_alloc ?_ _)); exact BK299.out) hb); replace HB := Aside0.mk (bst_ hb); clear hb hbox hg) | ((with_reducible refine gate_dst (N := 4) rfl ?_); refine box_event ?hg (N := 4) ?hd (cs := #[.int .i64 0, .int .i64 0]) (t := 59) ?hr ?_; (case hd => rfl); (case hg => rfl); (case hr => first | (go_simp; done) | (go_simp; rfl)); intro gb301 hg w5 hbox hb; have BK301 := Aside0.mk (hbox); have GW301 := Aside0.mk ((ge_ hg : w.heap.size ≤ gb301)); have GE301 := Aside0.mk ((ge_ hg : w.heap.size ≤ gb301)); have NB299_301 := Aside0.mk ((nl_ hg (by (with_reducible repeat (first | refine blk_drewN ?_ _ | refine blk_drew ?_ | refine blk_alloc ?_ _)); exact BK299.out) : gb299 ≠ gb301)); have NB301_299 := Aside0.mk ((ng_ hg (by (with_reducible repeat (first | refine blk_drewN ?_ _ | refine blk_drew ?_ | refine blk_alloc ?_ _)); exact BK299.out) : gb301 ≠ gb299)); have NB300_301 := Aside0.mk ((nl_ hg (by (with_reducible repeat (first | refine blk_drewN ?_ _ | refine blk_drew ?_ | refine blk_alloc ?_ _)); exact BK300.out) : gb300 ≠ gb301)); have NB301_300 := Aside0.mk ((ng_ hg (by (with_reducible repeat (first | refine blk_drewN ?_ _ | refine blk_drew ?_ | refine blk_alloc ?_ _)); exact BK300.out) : gb301 ≠ gb300)); replace BK299 := Aside0.mk (blk_below (g := gb299) (o := .cells #[.int .i64 a0_0, .int .i64 a0_1] 59 (0, 0)) (by (with_reducible repeat (first | refine blk_drewN ?_ _ | refine blk_drew ?_ | refine blk_alloc ?_ _)); exact BK299.out) hb); replace BK300 := Aside0.mk (blk_below (g := gb300) (o := .cells #[.int .i64 a1_0, .int .i64 a1_1] 59 (0, 0)) (by (with_reducible repeat (first | refine blk_drewN ?_ _ | refine blk_drew ?_ | refine blk_alloc ?_ _)); exact BK300.out) hb); replace HB := Aside0.mk (bst_ hb); clear hb hbox hg; have hnb6 := NB299_300.out; have hnc6 := NB300_299.out; have hnb7 := NB299_301.out; have hnc7 := NB301_299.out; have hcz8_0 : w5.cell? ⟨gb299, 0, none⟩ = some (.int .i64 a0_0) := (blk_cell BK299.out 0).trans rfl; have hcz8_1 : w5.cell? ⟨gb299, 1, none⟩ = some (.int .i64 a0_1) := (blk_cell BK299.out 1).trans rfl; have hfz8_0 := blk_frozen BK299.out 0; have hfz8_1 := blk_frozen BK299.out 1; have hnb9 := NB300_301.out; have hnc9 := NB301_300.out; have hcz10_0 : w5.cell? ⟨gb300, 0, none⟩ = some (.int .i64 a1_0) := (blk_cell BK300.out 0).trans rfl; have hcz10_1 : w5.cell? ⟨gb300, 1, none⟩ = some (.int .i64 a1_1) := (blk_cell BK300.out 1).trans rfl; have hfz10_0 := blk_frozen BK300.out 0; have hfz10_1 := blk_frozen BK300.out 1; have hcz11_0 : w5.cell? ⟨gb301, 0, none⟩ = some (.int .i64 0) := (blk_cell BK301.out 0).trans rfl; have hcz11_1 : w5.cell? ⟨gb301, 1, none⟩ = some (.int .i64 0) := (blk_cell BK301.out 1).trans rfl; have hfz11_0 := blk_frozen BK301.out 0; have hfz11_1 := blk_frozen BK301.out 1))
 refine bodyPost_ret (results_cell_row rfl _ _ gb301 59 #[.int .i64 (wrap64 ((wrap64 (a0_0 * a1_0)) - (wrap64 (a0_1 * a1_1)))), .int .i64 (wrap64 ((wrap64 (a0_0 * a1_1)) + (wrap64 (a0_1 * a1_0))))] (0, 0) _ rfl (by (with_reducible repeat (first | refine blk_drewN ?_ _ | refine blk_drew ?_ | refine blk_alloc ?_ _)); refine blk_put (cs := #[.int .i64 (wrap64 ((wrap64 (a0_0 * a1_0)) - (wrap64 (a0_1 * a1_1)))), .int .i64 0]) ?_ 1 _ rfl; (with_reducible repeat (first | refine blk_drewN ?_ _ | refine blk_drew ?_ | refine blk_alloc ?_ _)); refine blk_put (cs := #[.int .i64 0, .int .i64 0]) ?_ 0 _ rfl; (with_reducible repeat (first | refine blk_drewN ?_ _ | refine blk_drew ?_ | refine blk_alloc ?_ _)); exact BK301.out) Tryz.underlying59 rfl (by kernel_rfl)) rfl ?_
 exact fin_

/-! ### pylonref02_conj: function 50 -/
def pylonref02_conj.f (a0_0 : Int) (a0_1 : Int) : Option (Int × Int) := some (a0_0, wrap64 (-a0_1))
set_option maxHeartbeats 8000000 in
set_option maxRecDepth 100000 in
theorem pylonref02_conj.calls (a0_0 : Int) (a0_1 : Int) (r1 : Int) (r2 : Int) (w : World) (h : pylonref02_conj.f a0_0 a0_1 = some (r1, r2)) :
  Calls Tryz.prog 50 #[.agg #[.int .i64 a0_0, .int .i64 a0_1]] w fun e w' => e = .returned (.agg #[.int .i64 r1, .int .i64 r2]) ∧ Below w.heap.size w w' := by
 have hu59 := Tryz.underlying59
 have HB := Aside0.mk (Below.refl w.heap.size w)
 have H : (some (a0_0, wrap64 (-a0_1))) = some (r1, r2) := h
 clear h
 simp only [Option.some.injEq, Prod.mk.injEq] at H
 obtain ⟨rfl, rfl⟩ := H
 go_enter Tryz.func50, Tryz.ntmps50
 go_wp2_with (first | ((with_reducible refine gate_dst (N := 1) rfl ?_); refine box_event ?hg (N := 1) ?hd (cs := #[.int .i64 a0_0, .int .i64 a0_1]) (t := 59) ?hr ?_; (case hd => rfl); (case hg => rfl); (case hr => first | (go_simp; done) | (go_simp; rfl)); intro gb302 hg w2 hbox hb; have BK302 := Aside0.mk (hbox); have GW302 := Aside0.mk ((ge_ hg : w.heap.size ≤ gb302)); have GE302 := Aside0.mk ((ge_ hg : w.heap.size ≤ gb302)); replace HB := Aside0.mk (bst_ hb); clear hb hbox hg) | ((with_reducible refine gate_dst (N := 2) rfl ?_); refine box_event ?hg (N := 2) ?hd (cs := #[.int .i64 0, .int .i64 0]) (t := 59) ?hr ?_; (case hd => rfl); (case hg => rfl); (case hr => first | (go_simp; done) | (go_simp; rfl)); intro gb303 hg w3 hbox hb; have BK303 := Aside0.mk (hbox); have GW303 := Aside0.mk ((ge_ hg : w.heap.size ≤ gb303)); have GE303 := Aside0.mk ((ge_ hg : w.heap.size ≤ gb303)); have NB302_303 := Aside0.mk ((nl_ hg (by (with_reducible repeat (first | refine blk_drewN ?_ _ | refine blk_drew ?_ | refine blk_alloc ?_ _)); exact BK302.out) : gb302 ≠ gb303)); have NB303_302 := Aside0.mk ((ng_ hg (by (with_reducible repeat (first | refine blk_drewN ?_ _ | refine blk_drew ?_ | refine blk_alloc ?_ _)); exact BK302.out) : gb303 ≠ gb302)); replace BK302 := Aside0.mk (blk_below (g := gb302) (o := .cells #[.int .i64 a0_0, .int .i64 a0_1] 59 (0, 0)) (by (with_reducible repeat (first | refine blk_drewN ?_ _ | refine blk_drew ?_ | refine blk_alloc ?_ _)); exact BK302.out) hb); replace HB := Aside0.mk (bst_ hb); clear hb hbox hg; have hnb4 := NB302_303.out; have hnc4 := NB303_302.out; have hcz5_0 : w3.cell? ⟨gb302, 0, none⟩ = some (.int .i64 a0_0) := (blk_cell BK302.out 0).trans rfl; have hcz5_1 : w3.cell? ⟨gb302, 1, none⟩ = some (.int .i64 a0_1) := (blk_cell BK302.out 1).trans rfl; have hfz5_0 := blk_frozen BK302.out 0; have hfz5_1 := blk_frozen BK302.out 1; have hcz6_0 : w3.cell? ⟨gb303, 0, none⟩ = some (.int .i64 0) := (blk_cell BK303.out 0).trans rfl; have hcz6_1 : w3.cell? ⟨gb303, 1, none⟩ = some (.int .i64 0) := (blk_cell BK303.out 1).trans rfl; have hfz6_0 := blk_frozen BK303.out 0; have hfz6_1 := blk_frozen BK303.out 1))
 refine bodyPost_ret (results_cell_row rfl _ _ gb303 59 #[.int .i64 a0_0, .int .i64 (wrap64 (-a0_1))] (0, 0) _ rfl (by (with_reducible repeat (first | refine blk_drewN ?_ _ | refine blk_drew ?_ | refine blk_alloc ?_ _)); refine blk_put (cs := #[.int .i64 a0_0, .int .i64 0]) ?_ 1 _ rfl; (with_reducible repeat (first | refine blk_drewN ?_ _ | refine blk_drew ?_ | refine blk_alloc ?_ _)); refine blk_put (cs := #[.int .i64 0, .int .i64 0]) ?_ 0 _ rfl; (with_reducible repeat (first | refine blk_drewN ?_ _ | refine blk_drew ?_ | refine blk_alloc ?_ _)); exact BK303.out) Tryz.underlying59 rfl (by kernel_rfl)) rfl ?_
 exact fin_

/-! ### pylonref02_Phases: function 26 -/
mutual
def pylonref02_Phases.j0 : Nat → List Cx → List Cx → Bool → Option (Cx × Int)
 | 0, _, _, _ => none
 | k + 1, x0, x1, x21 => if x21 = true then (some (cx 0 0, 8)) else (pylonref02_Phases.l0 k x0 x1 (x0.length : Int) 0 0 0)
def pylonref02_Phases.l0 : Nat → List Cx → List Cx → Int → Int → Int → Int → Option (Cx × Int)
 | 0, _, _, _, _, _, _ => none
 | k + 1, x0, x1, x24, x25, x305000, x305001 => if x25 < x24 then (if 0 ≤ x25 then (if x25 < (x0.length : Int) then ((pylonref02_Fits.f (rdOf (cx 0 0) x0 x25)).bind fun bt307 => (if x25 < (x1.length : Int) then ((pylonref02_Fits.f (rdOf (cx 0 0) x1 x25)).bind fun bt312 => (if bt307.2.2 = true then (pylonref02_Phases.j2 k x0 x1 x24 x25 (!bt312.2.2) x305000 x305001 bt307.1 bt307.2.1 bt312.1 bt312.2.1) else (pylonref02_Phases.j2 k x0 x1 x24 x25 true x305000 x305001 bt307.1 bt307.2.1 bt312.1 bt312.2.1))) else (none))) else (none)) else (none)) else ((pylonref02_Made.f x305000 x305001).bind fun t305 => (some (t305, 0)))
def pylonref02_Phases.j2 : Nat → List Cx → List Cx → Int → Int → Bool → Int → Int → Int → Int → Int → Int → Option (Cx × Int)
 | 0, _, _, _, _, _, _, _, _, _, _, _ => none
 | k + 1, x0, x1, x24, x25, x49, x305000, x305001, x311000, x311001, x316000, x316001 => if x49 = true then (some (cx 0 0, 5)) else ((pylonref02_conj.f x316000 x316001).bind fun bt316 => ((pylonref02_times.f x311000 x311001 bt316.1 bt316.2).bind fun bt318 => ((pylonref02_plus.f x305000 x305001 bt318.1 bt318.2).bind fun bt320 => (pylonref02_Phases.l0 k x0 x1 x24 (wrap64 (x25 + 1)) bt320.1 bt320.2))))
end
def pylonref02_Phases.f (k : Nat) (l0 : List Cx) (l1 : List Cx) : Option (Cx × Int) := if (l0.length : Int) = (l1.length : Int) then (pylonref02_Phases.j0 k l0 l1 (decide ((l0.length : Int) > 4))) else (pylonref02_Phases.j0 k l0 l1 true)
theorem pylonref02_Phases.mono_l : ∀ k, (∀ y0 y1 y2, LeO (pylonref02_Phases.j0 k y0 y1 y2) (pylonref02_Phases.j0 (k + 1) y0 y1 y2)) ∧ (∀ y0 y1 y2 y3 y4 y5, LeO (pylonref02_Phases.l0 k y0 y1 y2 y3 y4 y5) (pylonref02_Phases.l0 (k + 1) y0 y1 y2 y3 y4 y5)) ∧ (∀ y0 y1 y2 y3 y4 y5 y6 y7 y8 y9 y10, LeO (pylonref02_Phases.j2 k y0 y1 y2 y3 y4 y5 y6 y7 y8 y9 y10) (pylonref02_Phases.j2 (k + 1) y0 y1 y2 y3 y4 y5 y6 y7 y8 y9 y10))
 | 0 => ⟨fun _ _ _ r h => by simp [pylonref02_Phases.j0] at h, fun _ _ _ _ _ _ r h => by simp [pylonref02_Phases.l0] at h, fun _ _ _ _ _ _ _ _ _ _ _ r h => by simp [pylonref02_Phases.j2] at h⟩
 | k + 1 => by
  obtain ⟨ih0, ih1, ih2⟩ := pylonref02_Phases.mono_l k
  refine ⟨?_, ?_, ?_⟩
  ·
   intro y0 y1 y2
   unfold pylonref02_Phases.j0
   repeat' first
   | (with_reducible exact ih0 _ _ _)
   | (with_reducible exact ih1 _ _ _ _ _ _)
   | (with_reducible exact ih2 _ _ _ _ _ _ _ _ _ _ _)
   | (with_reducible exact LeO.refl _)
   | (with_reducible exact LeO.none _)
   | (with_reducible refine LeO.ite ?_ ?_)
   | (with_reducible refine LeO.bind ?_ (fun _ => ?_))
   | exact ih0 _ _ _
   | exact ih1 _ _ _ _ _ _
   | exact ih2 _ _ _ _ _ _ _ _ _ _ _
   | exact LeO.none _
   | refine LeO.ite ?_ ?_
   | refine LeO.bind ?_ (fun _ => ?_)
  ·
   intro y0 y1 y2 y3 y4 y5
   unfold pylonref02_Phases.l0
   repeat' first
   | (with_reducible exact ih0 _ _ _)
   | (with_reducible exact ih1 _ _ _ _ _ _)
   | (with_reducible exact ih2 _ _ _ _ _ _ _ _ _ _ _)
   | (with_reducible exact LeO.refl _)
   | (with_reducible exact LeO.none _)
   | (with_reducible refine LeO.ite ?_ ?_)
   | (with_reducible refine LeO.bind ?_ (fun _ => ?_))
   | exact ih0 _ _ _
   | exact ih1 _ _ _ _ _ _
   | exact ih2 _ _ _ _ _ _ _ _ _ _ _
   | exact LeO.none _
   | refine LeO.ite ?_ ?_
   | refine LeO.bind ?_ (fun _ => ?_)
  ·
   intro y0 y1 y2 y3 y4 y5 y6 y7 y8 y9 y10
   unfold pylonref02_Phases.j2
   repeat' first
   | (with_reducible exact ih0 _ _ _)
   | (with_reducible exact ih1 _ _ _ _ _ _)
   | (with_reducible exact ih2 _ _ _ _ _ _ _ _ _ _ _)
   | (with_reducible exact LeO.refl _)
   | (with_reducible exact LeO.none _)
   | (with_reducible refine LeO.ite ?_ ?_)
   | (with_reducible refine LeO.bind ?_ (fun _ => ?_))
   | exact ih0 _ _ _
   | exact ih1 _ _ _ _ _ _
   | exact ih2 _ _ _ _ _ _ _ _ _ _ _
   | exact LeO.none _
   | refine LeO.ite ?_ ?_
   | refine LeO.bind ?_ (fun _ => ?_)
theorem pylonref02_Phases.mono : ∀ a0 a1 k, LeO (pylonref02_Phases.f k a0 a1) (pylonref02_Phases.f (k + 1) a0 a1) := by
 intro a0 a1 k
 obtain ⟨ih0, ih1, ih2⟩ := pylonref02_Phases.mono_l k
 unfold pylonref02_Phases.f
 repeat' first
   | (with_reducible exact ih0 _ _ _)
   | (with_reducible exact ih1 _ _ _ _ _ _)
   | (with_reducible exact ih2 _ _ _ _ _ _ _ _ _ _ _)
   | (with_reducible exact LeO.refl _)
   | (with_reducible exact LeO.none _)
   | (with_reducible refine LeO.ite ?_ ?_)
   | (with_reducible refine LeO.bind ?_ (fun _ => ?_))
   | exact ih0 _ _ _
   | exact ih1 _ _ _ _ _ _
   | exact ih2 _ _ _ _ _ _ _ _ _ _ _
   | exact LeO.none _
   | refine LeO.ite ?_ ?_
   | refine LeO.bind ?_ (fun _ => ?_)
set_option maxHeartbeats 8000000 in
set_option maxRecDepth 100000 in
theorem pylonref02_Phases.calls (k : Nat) (A0 : Option Addr) (c0 : Nat) (l0 : List Cx) (A1 : Option Addr) (c1 : Nat) (l1 : List Cx) (r1 : Cx) (r2 : Int) (w : World) (hr0 : Kd.C Kd.c128 w A0 l0.length l0) (hc0 : l0.length ≤ c0) (hr1 : Kd.C Kd.c128 w A1 l1.length l1) (hc1 : l1.length ≤ c1) (h : pylonref02_Phases.f k l0 l1 = some (r1, r2)) :
  Calls Tryz.prog 26 #[.slice A0 l0.length c0, .slice A1 l1.length c1] w fun e w' => e = .returned (.tuple #[.complex .f64 r1.re r1.im, .int .i64 r2]) ∧ Below w.heap.size w w' := by
 have hu59 := Tryz.underlying59
 have HR0 := Aside0.mk hr0
 have HC0 := Aside0.mk hc0
 clear hr0 hc0
 have HR1 := Aside0.mk hr1
 have HC1 := Aside0.mk hc1
 clear hr1 hc1
 have HB := Aside0.mk (Below.refl w.heap.size w)
 have H : (if (l0.length : Int) = (l1.length : Int) then (pylonref02_Phases.j0 k l0 l1 (decide ((l0.length : Int) > 4))) else (pylonref02_Phases.j0 k l0 l1 true)) = some (r1, r2) := h
 clear h
 have HC3 := Aside0.mk H
 clear H
 go_enter Tryz.func26, Tryz.ntmps26
 go_upto_region 1 with (fail)
 go_cut [21] (fun v21 wc => ∃ (kq : Nat) (x21_2 : Bool), v21 = .bool x21_2 ∧ Aside0 (pylonref02_Phases.j0 kq l0 l1 x21_2 = some (r1, r2)) ∧ Aside0 (kq ≤ k) ∧ Aside0 (Below w.heap.size w wc))
 case first =>
  have H := HC3.out
  clear HC3
  by_cases c4 : (l0.length : Int) = (l1.length : Int)
  ·
   rw [if_pos c4] at H
   obtain ⟨c4b0, c4b1⟩ := eqT_ c4
   have c4b2 : (l0.length == l1.length) = true := by first | simpa using c4 | (simp at c4 ⊢; omega)
   clear c4
   (first | rw [c4b0] | (simp only [i64_w, i32_w]; rw [c4b0]) | skip)
   have H' := Aside0.mk H
   clear H
   go_wp2
   go_meet
   case rel => exact ⟨_, (decide ((l0.length : Int) > 4)), (by first | rfl | (simp; done) | (simp [*]; done) | (by_cases hdp0_ : (l0.length : Int) > 4 <;> simp [*] <;> done)), H', ⟨by first | omega | exact Nat.le_refl _⟩, ⟨bl_⟩⟩
  ·
   rw [if_neg c4] at H
   obtain ⟨c4b0, c4b1⟩ := eqF_ c4
   have c4b2 : (l0.length == l1.length) = false := by first | simpa using c4 | (simp at c4 ⊢; omega)
   (first | rw [c4b0] | (simp only [i64_w, i32_w]; rw [c4b0]) | skip)
   have H' := Aside0.mk H
   clear H
   go_wp2
   go_meet
   case rel => exact ⟨_, (true), (by first | rfl | (simp; done) | (simp [*]; done)), H', ⟨by first | omega | exact Nat.le_refl _⟩, ⟨bl_⟩⟩
 case rest =>
  clear HC3
  try clear c1
  try clear c2
  try clear p2
  try clear c4
  try clear c4b0
  try clear c4b1
  try clear c4b2
  obtain ⟨kq, x21_2, rfl, HA, HJ2, HB⟩ := hcut
  cases kq with
  | zero => exact absurd HA.out (by simp [pylonref02_Phases.j0])
  | succ kj2 =>
   have H := HA.out
   clear HA
   simp only [pylonref02_Phases.j0] at H
   by_cases c5 : x21_2 = true
   ·
    subst c5
    have H1 : (some (cx 0 0, 8)) = some (r1, r2) := by rw [if_pos rfl] at H; exact H
    clear H
    have H := H1
    clear H1
    simp only [Option.some.injEq, Prod.mk.injEq] at H
    obtain ⟨rfl, rfl⟩ := H
    go_wp2
    go_ret2
    exact fin_
   ·
    replace c5 := Bool.eq_false_iff.mpr c5
    subst c5
    have H1 : (pylonref02_Phases.l0 kj2 l0 l1 (l0.length : Int) 0 0 0) = some (r1, r2) := by rw [if_neg (show ¬ (false = true) by decide)] at H; exact H
    clear H
    have H := H1
    clear H1
    have H' := Aside0.mk H
    clear H
    go_wp2_with (first | ((with_reducible refine gate_dst (N := 6) rfl ?_); (try (refine gate_guard (by rfl) ?_; dsimp only)); refine box_event ?hg (N := 6) ?hd (cs := #[.int .i64 0, .int .i64 0]) (t := 59) ?hr ?_; (case hd => rfl); (case hg => rfl); (case hr => first | (go_simp; done) | (go_simp; rfl)); intro gb304 hg w6 hbox hb; have BK304 := Aside0.mk (hbox); have GW304 := Aside0.mk ((ge_ hg : w.heap.size ≤ gb304)); have GE304 := Aside0.mk ((ge_ hg : w.heap.size ≤ gb304)); replace HB := Aside0.mk (bst_ hb); clear hb hbox hg; have hcz7_0 : w6.cell? ⟨gb304, 0, none⟩ = some (.int .i64 0) := (blk_cell BK304.out 0).trans rfl; have hcz7_1 : w6.cell? ⟨gb304, 1, none⟩ = some (.int .i64 0) := (blk_cell BK304.out 1).trans rfl; have hfz7_0 := blk_frozen BK304.out 0; have hfz7_1 := blk_frozen BK304.out 1))
    go_loopg [25] kj2 (fun kq v25 w' => ∃ (x25_2 : Int) (x305000_2 : Int) (x305001_2 : Int), v25 = .int .i64 x25_2 ∧ Aside0 (pylonref02_Phases.l0 kq l0 l1 (l0.length : Int) x25_2 x305000_2 x305001_2 = some (r1, r2)) ∧ Aside0 (kq ≤ kj2) ∧ Aside0 (w'.heap[gb304]? = some (.cells #[.int .i64 x305000_2, .int .i64 x305001_2] 59 (0, 0))) ∧ Aside0 (Below w.heap.size w w'))
    case atStart => exact ⟨(0), (0), (0), (by first | rfl | (simp; done) | (simp [*]; done)), H', ⟨Nat.le_refl _⟩, ⟨by (with_reducible repeat (first | refine blk_drewN ?_ _ | refine blk_drew ?_ | refine blk_alloc ?_ _)); refine blk_put (cs := #[.int .i64 0, .int .i64 0]) ?_ 1 _ rfl; (with_reducible repeat (first | refine blk_drewN ?_ _ | refine blk_drew ?_ | refine blk_alloc ?_ _)); refine blk_put (cs := #[.int .i64 0, .int .i64 0]) ?_ 0 _ rfl; (with_reducible repeat (first | refine blk_drewN ?_ _ | refine blk_drew ?_ | refine blk_alloc ?_ _)); exact BK304.out⟩, ⟨bl_⟩⟩
    case round =>
     clear H'
     try clear c1
     try clear c2
     try clear p2
     try clear c4
     try clear c4b0
     try clear c4b1
     try clear c4b2
     try clear c5
     try clear hcz7_0
     try clear hcz7_1
     try clear hfz7_0
     try clear hfz7_1
     try clear p2
     obtain ⟨x25_2, x305000_2, x305001_2, rfl, HA, HK2, BK304, HB⟩ := hrel
     cases gk with
     | zero => exact absurd HA.out (by simp [pylonref02_Phases.l0])
     | succ k2 =>
      have H := HA.out
      clear HA
      simp only [pylonref02_Phases.l0] at H
      by_cases c8 : x25_2 < (l0.length : Int)
      ·
       rw [if_pos c8] at H
       have c8b0 : decide (x25_2 < (l0.length : Int)) = true := decide_eq_true c8
       clear c8
       by_cases c9 : 0 ≤ x25_2
       ·
        rw [if_pos c9] at H
        have c9b0 : decide (0 ≤ x25_2) = true := decide_eq_true c9
        clear c9
        by_cases c10 : x25_2 < (l0.length : Int)
        ·
         rw [if_pos c10] at H
         have c10b0 : decide (x25_2 < (l0.length : Int)) = true := decide_eq_true c10
         clear c10
         replace H := Option.bind_eq_some_iff.mp H
         obtain ⟨⟨t307, t308, t309⟩, A110, H⟩ := H
         replace H : (if x25_2 < (l1.length : Int) then ((pylonref02_Fits.f (rdOf (cx 0 0) l1 x25_2)).bind fun bt312 => (if t309 = true then (pylonref02_Phases.j2 k2 l0 l1 (l0.length : Int) x25_2 (!bt312.2.2) x305000_2 x305001_2 t307 t308 bt312.1 bt312.2.1) else (pylonref02_Phases.j2 k2 l0 l1 (l0.length : Int) x25_2 true x305000_2 x305001_2 t307 t308 bt312.1 bt312.2.1))) else (none)) = some (r1, r2) := H
         have A11 := Aside0.mk A110
         clear A110
         by_cases c12 : x25_2 < (l1.length : Int)
         ·
          rw [if_pos c12] at H
          have c12b0 : decide (x25_2 < (l1.length : Int)) = true := decide_eq_true c12
          clear c12
          replace H := Option.bind_eq_some_iff.mp H
          obtain ⟨⟨t312, t313, t314⟩, A130, H⟩ := H
          replace H : (if t309 = true then (pylonref02_Phases.j2 k2 l0 l1 (l0.length : Int) x25_2 (!t314) x305000_2 x305001_2 t307 t308 t312 t313) else (pylonref02_Phases.j2 k2 l0 l1 (l0.length : Int) x25_2 true x305000_2 x305001_2 t307 t308 t312 t313)) = some (r1, r2) := H
          have A13 := Aside0.mk A130
          clear A130
          have HC14 := Aside0.mk H
          clear H
          have p306 : 0 ≤ (x25_2 : Int) := of_decide_eq_true (by first | (with_reducible assumption) | assumption)
          have q306 : x25_2 < (l0.length : Int) := of_decide_eq_true (by first | (with_reducible assumption) | assumption)
          obtain ⟨ad306, e306, hx306_0⟩ := Kd.at_c128 HR0.out x25_2 p306 q306
          cases e306
          replace hx306_0 := (HB.out.cell (World.block_lt_of_cell? w _ hx306_0)).trans hx306_0
          replace p306 := eq_true p306
          replace q306 := eq_true q306
          go_upto_region 9 with (first | ((with_reducible refine gate_callee (f := 23) rfl ?_); refine gL_ (some 33) Tryz.func23 #[.complex .f64 (rdOf (cx 0 0) l0 x25_2).re (rdOf (cx 0 0) l0 x25_2).im] ?_; (with_reducible refine (pylonref02_Fits.calls (rdOf (cx 0 0) l0 x25_2) t307 t308 t309 _ A11.out).mono ?_); rintro e w15 ⟨rfl, hb⟩; refine ⟨_, rfl, ?_⟩; replace BK304 := Aside0.mk (blk_below (g := gb304) (o := .cells #[.int .i64 x305000_2, .int .i64 x305001_2] 59 (0, 0)) (by (with_reducible repeat (first | refine blk_drewN ?_ _ | refine blk_drew ?_ | refine blk_alloc ?_ _)); exact BK304.out) hb); replace HB := Aside0.mk (bst_ hb); (try clear hb); (try clear hb2); (try clear hk); (try clear hi)) | ((with_reducible refine gate_dst (N := 8) rfl ?_); (try (refine gate_guard (by rfl) ?_; dsimp only)); refine box_event ?hg (N := 8) ?hd (cs := #[.int .i64 0, .int .i64 0]) (t := 59) ?hr ?_; (case hd => rfl); (case hg => rfl); (case hr => first | (go_simp; done) | (go_simp; rfl)); intro gb310 hg w16 hbox hb; have BK310 := Aside0.mk (hbox); have GW310 := Aside0.mk ((ge_ hg : w.heap.size ≤ gb310)); have GE310 := Aside0.mk ((ge_ hg : w.heap.size ≤ gb310)); have NB304_310 := Aside0.mk ((nl_ hg (by (with_reducible repeat (first | refine blk_drewN ?_ _ | refine blk_drew ?_ | refine blk_alloc ?_ _)); exact BK304.out) : gb304 ≠ gb310)); have NB310_304 := Aside0.mk ((ng_ hg (by (with_reducible repeat (first | refine blk_drewN ?_ _ | refine blk_drew ?_ | refine blk_alloc ?_ _)); exact BK304.out) : gb310 ≠ gb304)); replace BK304 := Aside0.mk (blk_below (g := gb304) (o := .cells #[.int .i64 x305000_2, .int .i64 x305001_2] 59 (0, 0)) (by (with_reducible repeat (first | refine blk_drewN ?_ _ | refine blk_drew ?_ | refine blk_alloc ?_ _)); exact BK304.out) hb); replace HB := Aside0.mk (bst_ hb); clear hb hbox hg; have hnb17 := NB310_304.out; have hnc17 := NB304_310.out; have hcz18_0 : w16.cell? ⟨gb310, 0, none⟩ = some (.int .i64 0) := (blk_cell BK310.out 0).trans rfl; have hcz18_1 : w16.cell? ⟨gb310, 1, none⟩ = some (.int .i64 0) := (blk_cell BK310.out 1).trans rfl; have hfz18_0 := blk_frozen BK310.out 0; have hfz18_1 := blk_frozen BK310.out 1; have p311 : 0 ≤ (x25_2 : Int) := of_decide_eq_true (by first | (with_reducible assumption) | assumption); have q311 : x25_2 < (l1.length : Int) := of_decide_eq_true (by first | (with_reducible assumption) | assumption); obtain ⟨ad311, e311, hx311_0⟩ := Kd.at_c128 HR1.out x25_2 p311 q311; cases e311; have hn311_0 : ad311.block ≠ gb310 := Nat.ne_of_lt (Nat.lt_of_lt_of_le (by have := World.block_lt_of_cell? _ _ hx311_0; first | rwa [add_block] at this | exact this) GW310.out); have hn311_1 : ad311.block ≠ gb310 := Nat.ne_of_lt (Nat.lt_of_lt_of_le (by have := World.block_lt_of_cell? _ _ hx311_0; first | rwa [add_block] at this | exact this) GW310.out); replace hx311_0 := (HB.out.cell (World.block_lt_of_cell? w _ hx311_0)).trans hx311_0; replace hx311_0 := (cell_far (p := ⟨gb310, 0, none⟩) (by first | (rw [add_block]; exact hn311_0) | (show (Addr.add _ _).block ≠ _; rw [add_block]; exact hn311_0) | exact hn311_0) (.int .i64 t307)).trans hx311_0; replace hx311_0 := (cell_far (p := ⟨gb310, 1, none⟩) (by first | (rw [add_block]; exact hn311_1) | (show (Addr.add _ _).block ≠ _; rw [add_block]; exact hn311_1) | exact hn311_1) (.int .i64 t308)).trans hx311_0; clear hn311_0; clear hn311_1; replace p311 := eq_true p311; replace q311 := eq_true q311) | ((with_reducible refine gate_callee (f := 23) rfl ?_); refine gL_ (some 41) Tryz.func23 #[.complex .f64 (rdOf (cx 0 0) l1 x25_2).re (rdOf (cx 0 0) l1 x25_2).im] ?_; (with_reducible refine (pylonref02_Fits.calls (rdOf (cx 0 0) l1 x25_2) t312 t313 t314 _ A13.out).mono ?_); rintro e w19 ⟨rfl, hb⟩; refine ⟨_, rfl, ?_⟩; replace BK304 := Aside0.mk (blk_below (g := gb304) (o := .cells #[.int .i64 x305000_2, .int .i64 x305001_2] 59 (0, 0)) (by (with_reducible repeat (first | refine blk_drewN ?_ _ | refine blk_drew ?_ | refine blk_alloc ?_ _)); refine blk_far ?_ NB304_310.out _; (with_reducible repeat (first | refine blk_drewN ?_ _ | refine blk_drew ?_ | refine blk_alloc ?_ _)); refine blk_far ?_ NB304_310.out _; (with_reducible repeat (first | refine blk_drewN ?_ _ | refine blk_drew ?_ | refine blk_alloc ?_ _)); exact BK304.out) hb); replace BK310 := Aside0.mk (blk_below (g := gb310) (o := .cells #[.int .i64 t307, .int .i64 t308] 59 (0, 0)) (by (with_reducible repeat (first | refine blk_drewN ?_ _ | refine blk_drew ?_ | refine blk_alloc ?_ _)); refine blk_put (cs := #[.int .i64 t307, .int .i64 0]) ?_ 1 _ rfl; (with_reducible repeat (first | refine blk_drewN ?_ _ | refine blk_drew ?_ | refine blk_alloc ?_ _)); refine blk_put (cs := #[.int .i64 0, .int .i64 0]) ?_ 0 _ rfl; (with_reducible repeat (first | refine blk_drewN ?_ _ | refine blk_drew ?_ | refine blk_alloc ?_ _)); exact BK310.out) hb); replace HB := Aside0.mk (bst_ hb); (try clear hb); (try clear hb2); (try clear hk); (try clear hi)) | ((with_reducible refine gate_dst (N := 10) rfl ?_); (try (refine gate_guard (by rfl) ?_; dsimp only)); refine box_event ?hg (N := 10) ?hd (cs := #[.int .i64 0, .int .i64 0]) (t := 59) ?hr ?_; (case hd => rfl); (case hg => rfl); (case hr => first | (go_simp; done) | (go_simp; rfl)); intro gb315 hg w20 hbox hb; have BK315 := Aside0.mk (hbox); have GW315 := Aside0.mk ((ge_ hg : w.heap.size ≤ gb315)); have GE315 := Aside0.mk ((ge_ hg : w.heap.size ≤ gb315)); have NB304_315 := Aside0.mk ((nl_ hg (by (with_reducible repeat (first | refine blk_drewN ?_ _ | refine blk_drew ?_ | refine blk_alloc ?_ _)); exact BK304.out) : gb304 ≠ gb315)); have NB315_304 := Aside0.mk ((ng_ hg (by (with_reducible repeat (first | refine blk_drewN ?_ _ | refine blk_drew ?_ | refine blk_alloc ?_ _)); exact BK304.out) : gb315 ≠ gb304)); have NB310_315 := Aside0.mk ((nl_ hg (by (with_reducible repeat (first | refine blk_drewN ?_ _ | refine blk_drew ?_ | refine blk_alloc ?_ _)); exact BK310.out) : gb310 ≠ gb315)); have NB315_310 := Aside0.mk ((ng_ hg (by (with_reducible repeat (first | refine blk_drewN ?_ _ | refine blk_drew ?_ | refine blk_alloc ?_ _)); exact BK310.out) : gb315 ≠ gb310)); replace BK304 := Aside0.mk (blk_below (g := gb304) (o := .cells #[.int .i64 x305000_2, .int .i64 x305001_2] 59 (0, 0)) (by (with_reducible repeat (first | refine blk_drewN ?_ _ | refine blk_drew ?_ | refine blk_alloc ?_ _)); exact BK304.out) hb); replace BK310 := Aside0.mk (blk_below (g := gb310) (o := .cells #[.int .i64 t307, .int .i64 t308] 59 (0, 0)) (by (with_reducible repeat (first | refine blk_drewN ?_ _ | refine blk_drew ?_ | refine blk_alloc ?_ _)); exact BK310.out) hb); replace HB := Aside0.mk (bst_ hb); clear hb hbox hg; have hnb21 := NB315_304.out; have hnc21 := NB304_315.out; have hnb22 := NB315_310.out; have hnc22 := NB310_315.out; have hcz23_0 : w20.cell? ⟨gb315, 0, none⟩ = some (.int .i64 0) := (blk_cell BK315.out 0).trans rfl; have hcz23_1 : w20.cell? ⟨gb315, 1, none⟩ = some (.int .i64 0) := (blk_cell BK315.out 1).trans rfl; have hfz23_0 := blk_frozen BK315.out 0; have hfz23_1 := blk_frozen BK315.out 1))
          (try simp only [Act.put, List.setIfInBounds_toArray, List.set_cons_zero, List.set_cons_succ])
          go_cut [49] (fun v49 wc => ∃ (kq : Nat) (x49_13 : Bool), v49 = .bool x49_13 ∧ Aside0 (pylonref02_Phases.j2 kq l0 l1 (l0.length : Int) x25_2 x49_13 x305000_2 x305001_2 t307 t308 t312 t313 = some (r1, r2)) ∧ Aside0 (kq ≤ k2) ∧ Aside0 (wc.heap[gb304]? = some (.cells #[.int .i64 x305000_2, .int .i64 x305001_2] 59 (0, 0))) ∧ Aside0 (wc.heap[gb310]? = some (.cells #[.int .i64 t307, .int .i64 t308] 59 (0, 0))) ∧ Aside0 (wc.heap[gb315]? = some (.cells #[.int .i64 t312, .int .i64 t313] 59 (0, 0))) ∧ Aside0 (Below w.heap.size w wc))
          case first =>
           have H := HC14.out
           clear HC14
           by_cases c24 : t309 = true
           ·
            subst c24
            have H1 : (pylonref02_Phases.j2 k2 l0 l1 (l0.length : Int) x25_2 (!t314) x305000_2 x305001_2 t307 t308 t312 t313) = some (r1, r2) := by rw [if_pos rfl] at H; exact H
            clear H
            have H := H1
            clear H1
            have H' := Aside0.mk H
            clear H
            go_wp2
            go_meet
            case rel => exact ⟨_, (!t314), (by first | rfl | (simp; done) | (simp [*]; done)), H', ⟨by have := HJ2.out; have := HK2.out; first | omega | exact Nat.le_refl _⟩, ⟨by (with_reducible repeat (first | refine blk_drewN ?_ _ | refine blk_drew ?_ | refine blk_alloc ?_ _)); refine blk_far ?_ NB304_315.out _; (with_reducible repeat (first | refine blk_drewN ?_ _ | refine blk_drew ?_ | refine blk_alloc ?_ _)); refine blk_far ?_ NB304_315.out _; (with_reducible repeat (first | refine blk_drewN ?_ _ | refine blk_drew ?_ | refine blk_alloc ?_ _)); exact BK304.out⟩, ⟨by (with_reducible repeat (first | refine blk_drewN ?_ _ | refine blk_drew ?_ | refine blk_alloc ?_ _)); refine blk_far ?_ NB310_315.out _; (with_reducible repeat (first | refine blk_drewN ?_ _ | refine blk_drew ?_ | refine blk_alloc ?_ _)); refine blk_far ?_ NB310_315.out _; (with_reducible repeat (first | refine blk_drewN ?_ _ | refine blk_drew ?_ | refine blk_alloc ?_ _)); exact BK310.out⟩, ⟨by (with_reducible repeat (first | refine blk_drewN ?_ _ | refine blk_drew ?_ | refine blk_alloc ?_ _)); refine blk_put (cs := #[.int .i64 t312, .int .i64 0]) ?_ 1 _ rfl; (with_reducible repeat (first | refine blk_drewN ?_ _ | refine blk_drew ?_ | refine blk_alloc ?_ _)); refine blk_put (cs := #[.int .i64 0, .int .i64 0]) ?_ 0 _ rfl; (with_reducible repeat (first | refine blk_drewN ?_ _ | refine blk_drew ?_ | refine blk_alloc ?_ _)); exact BK315.out⟩, ⟨bl_⟩⟩
           ·
            replace c24 := Bool.eq_false_iff.mpr c24
            subst c24
            have H1 : (pylonref02_Phases.j2 k2 l0 l1 (l0.length : Int) x25_2 true x305000_2 x305001_2 t307 t308 t312 t313) = some (r1, r2) := by rw [if_neg (show ¬ (false = true) by decide)] at H; exact H
            clear H
            have H := H1
            clear H1
            have H' := Aside0.mk H
            clear H
            go_wp2
            go_meet
            case rel => exact ⟨_, (true), (by first | rfl | (simp; done) | (simp [*]; done)), H', ⟨by have := HJ2.out; have := HK2.out; first | omega | exact Nat.le_refl _⟩, ⟨by (with_reducible repeat (first | refine blk_drewN ?_ _ | refine blk_drew ?_ | refine blk_alloc ?_ _)); refine blk_far ?_ NB304_315.out _; (with_reducible repeat (first | refine blk_drewN ?_ _ | refine blk_drew ?_ | refine blk_alloc ?_ _)); refine blk_far ?_ NB304_315.out _; (with_reducible repeat (first | refine blk_drewN ?_ _ | refine blk_drew ?_ | refine blk_alloc ?_ _)); exact BK304.out⟩, ⟨by (with_reducible repeat (first | refine blk_drewN ?_ _ | refine blk_drew ?_ | refine blk_alloc ?_ _)); refine blk_far ?_ NB310_315.out _; (with_reducible repeat (first | refine blk_drewN ?_ _ | refine blk_drew ?_ | refine blk_alloc ?_ _)); refine blk_far ?_ NB310_315.out _; (with_reducible repeat (first | refine blk_drewN ?_ _ | refine blk_drew ?_ | refine blk_alloc ?_ _)); exact BK310.out⟩, ⟨by (with_reducible repeat (first | refine blk_drewN ?_ _ | refine blk_drew ?_ | refine blk_alloc ?_ _)); refine blk_put (cs := #[.int .i64 t312, .int .i64 0]) ?_ 1 _ rfl; (with_reducible repeat (first | refine blk_drewN ?_ _ | refine blk_drew ?_ | refine blk_alloc ?_ _)); refine blk_put (cs := #[.int .i64 0, .int .i64 0]) ?_ 0 _ rfl; (with_reducible repeat (first | refine blk_drewN ?_ _ | refine blk_drew ?_ | refine blk_alloc ?_ _)); exact BK315.out⟩, ⟨bl_⟩⟩
          case rest =>
           clear HC14
           try clear c1
           try clear c2
           try clear p2
           try clear p3
           try clear q3
           try clear hx3
           try clear c4
           try clear c4b0
           try clear c4b1
           try clear c4b2
           try clear c5
           try clear c8
           try clear c8b0
           try clear c9
           try clear c9b0
           try clear c10
           try clear c10b0
           try clear c12
           try clear c12b0
           try clear c17
           try clear c21
           try clear c22
           try clear c23
           try clear c24
           try clear hcz18_0
           try clear hcz18_1
           try clear hcz23_0
           try clear hcz23_1
           try clear hcz7_0
           try clear hcz7_1
           try clear hfz18_0
           try clear hfz18_1
           try clear hfz23_0
           try clear hfz23_1
           try clear hfz7_0
           try clear hfz7_1
           try clear hx306_0
           try clear hx311_0
           try clear p2
           try clear p306
           try clear p311
           try clear q306
           try clear q311
           obtain ⟨kq, x49_13, rfl, HA, HJ13, BK304, BK310, BK315, HB⟩ := hcut
           cases kq with
           | zero => exact absurd HA.out (by simp [pylonref02_Phases.j2])
           | succ kj13 =>
            have H := HA.out
            clear HA
            simp only [pylonref02_Phases.j2] at H
            by_cases c25 : x49_13 = true
            ·
             subst c25
             have H1 : (some (cx 0 0, 5)) = some (r1, r2) := by rw [if_pos rfl] at H; exact H
             clear H
             have H := H1
             clear H1
             simp only [Option.some.injEq, Prod.mk.injEq] at H
             obtain ⟨rfl, rfl⟩ := H
             go_wp2
             go_ret2
             exact fin_
            ·
             replace c25 := Bool.eq_false_iff.mpr c25
             subst c25
             have H1 : ((pylonref02_conj.f t312 t313).bind fun bt316 => ((pylonref02_times.f t307 t308 bt316.1 bt316.2).bind fun bt318 => ((pylonref02_plus.f x305000_2 x305001_2 bt318.1 bt318.2).bind fun bt320 => (pylonref02_Phases.l0 kj13 l0 l1 (l0.length : Int) (wrap64 (x25_2 + 1)) bt320.1 bt320.2)))) = some (r1, r2) := by rw [if_neg (show ¬ (false = true) by decide)] at H; exact H
             clear H
             have H := H1
             clear H1
             replace H := Option.bind_eq_some_iff.mp H
             obtain ⟨⟨t316, t317⟩, A260, H⟩ := H
             replace H : ((pylonref02_times.f t307 t308 t316 t317).bind fun bt318 => ((pylonref02_plus.f x305000_2 x305001_2 bt318.1 bt318.2).bind fun bt320 => (pylonref02_Phases.l0 kj13 l0 l1 (l0.length : Int) (wrap64 (x25_2 + 1)) bt320.1 bt320.2))) = some (r1, r2) := H
             have A26 := Aside0.mk A260
             clear A260
             replace H := Option.bind_eq_some_iff.mp H
             obtain ⟨⟨t318, t319⟩, A270, H⟩ := H
             replace H : ((pylonref02_plus.f x305000_2 x305001_2 t318 t319).bind fun bt320 => (pylonref02_Phases.l0 kj13 l0 l1 (l0.length : Int) (wrap64 (x25_2 + 1)) bt320.1 bt320.2)) = some (r1, r2) := H
             have A27 := Aside0.mk A270
             clear A270
             replace H := Option.bind_eq_some_iff.mp H
             obtain ⟨⟨t320, t321⟩, A280, H⟩ := H
             replace H : (pylonref02_Phases.l0 kj13 l0 l1 (l0.length : Int) (wrap64 (x25_2 + 1)) t320 t321) = some (r1, r2) := H
             have A28 := Aside0.mk A280
             clear A280
             have H' := Aside0.mk H
             clear H
             try go_wp2
             replace BK304 := Aside0.mk (blk_drew BK304.out)
             replace BK310 := Aside0.mk (blk_drew BK310.out)
             replace BK315 := Aside0.mk (blk_drew BK315.out)
             replace HB := Aside0.mk (below_drew1 HB.out)
             refine start_ (n := 7) (S := fun w' => w'.cell? ⟨gb304, 0, none⟩ = some (.int .i64 x305000_2) ∧ w'.cell? ⟨gb304, 1, none⟩ = some (.int .i64 x305001_2) ∧ w'.cell? ⟨gb310, 0, none⟩ = some (.int .i64 t307) ∧ w'.cell? ⟨gb310, 1, none⟩ = some (.int .i64 t308) ∧ w'.cell? ⟨gb315, 0, none⟩ = some (.int .i64 t312) ∧ w'.cell? ⟨gb315, 1, none⟩ = some (.int .i64 t313)) (ds := [6]) #[false, false, false, false, false, false, false] (by kernel_rfl) rfl rfl ⟨(blk_cell BK304.out 0).trans rfl, (blk_cell BK304.out 1).trans rfl, (blk_cell BK310.out 0).trans rfl, (blk_cell BK310.out 1).trans rfl, (blk_cell BK315.out 0).trans rfl, (blk_cell BK315.out 1).trans rfl⟩ (fun hHeld => ?_)
             generalize wc.drew = w29 at BK304 BK310 BK315 HB hHeld ⊢
             refine take_ (i := 0) (N := some 50) (v := ?_) (a' := ?_) #[true, false, false, false, false, false, false] rfl rfl (by kernel_rfl) (fun _ _ _ h => h) (Or.inl ⟨by rfl, ?_⟩) hHeld ?_ ?_
             rotate_left
             ·
              rintro w' ⟨s0, s1, s2, s3, s4, s5⟩
              go_simp
              with_reducible rfl
             rotate_left
             ·
              simp only [Act.put, List.setIfInBounds_toArray, List.set_cons_zero, List.set_cons_succ, i64_w, i32_w]
              rfl
             refine take_ (i := 1) (N := some 51) (v := ?_) (a' := ?_) #[true, true, false, false, false, false, false] rfl rfl (by kernel_rfl) (fun _ _ _ h => h) (Or.inl ⟨by rfl, ?_⟩) hHeld ?_ ?_
             rotate_left
             ·
              rintro w' ⟨s0, s1, s2, s3, s4, s5⟩
              go_simp
              with_reducible rfl
             rotate_left
             ·
              simp only [Act.put, List.setIfInBounds_toArray, List.set_cons_zero, List.set_cons_succ, i64_w, i32_w]
              rfl
             refine take_ (i := 2) (N := some 52) (v := ?_) (a' := ?_) #[true, true, true, false, false, false, false] rfl rfl (by kernel_rfl) (fun _ _ _ h => h) (Or.inl ⟨by rfl, ?_⟩) hHeld ?_ ?_
             rotate_left
             ·
              rintro w' ⟨s0, s1, s2, s3, s4, s5⟩
              go_simp
              with_reducible rfl
             rotate_left
             ·
              simp only [Act.put, List.setIfInBounds_toArray, List.set_cons_zero, List.set_cons_succ, i64_w, i32_w]
              rfl
             refine one_ (i := 3) (N := some 53) #[true, true, true, true, false, false, false] rfl rfl (by kernel_rfl) (by decide) (fun K hK => ?_)
             refine goes_ Tryz.func50 (by kernel_rfl) rfl #[.agg #[.int .i64 t312, .int .i64 t313]] (by rfl) rfl rfl (by (try simp only [List.map_toArray, List.map_cons, List.map_nil]); first | done | rfl | (simp only [List.length_drop, List.length_take]; rfl)) ?_
             with_reducible refine (pylonref02_conj.calls t312 t313 t316 t317 _ A26.out).mono ?_
             rintro e w30 ⟨rfl, hb⟩
             refine ⟨_, rfl, ?_⟩
             replace BK304 := Aside0.mk (blk_below (g := gb304) (o := .cells #[.int .i64 x305000_2, .int .i64 x305001_2] 59 (0, 0)) (by (with_reducible repeat (first | refine blk_drewN ?_ _ | refine blk_drew ?_ | refine blk_alloc ?_ _)); exact BK304.out) hb)
             replace BK310 := Aside0.mk (blk_below (g := gb310) (o := .cells #[.int .i64 t307, .int .i64 t308] 59 (0, 0)) (by (with_reducible repeat (first | refine blk_drewN ?_ _ | refine blk_drew ?_ | refine blk_alloc ?_ _)); exact BK310.out) hb)
             replace BK315 := Aside0.mk (blk_below (g := gb315) (o := .cells #[.int .i64 t312, .int .i64 t313] 59 (0, 0)) (by (with_reducible repeat (first | refine blk_drewN ?_ _ | refine blk_drew ?_ | refine blk_alloc ?_ _)); exact BK315.out) hb)
             replace HB := Aside0.mk (bst_ hb)
             (try clear hb)
             (try clear hb2)
             (try clear hk)
             (try clear hi)
             refine hK.out _ _ ⟨(blk_cell BK304.out 0).trans rfl, (blk_cell BK304.out 1).trans rfl, (blk_cell BK310.out 0).trans rfl, (blk_cell BK310.out 1).trans rfl, (blk_cell BK315.out 0).trans rfl, (blk_cell BK315.out 1).trans rfl⟩ (fun hHeld => ?_)
             clear hK K
             refine norm_ (a' := ?_) ?_ ?_
             rotate_left
             ·
              show Act.put _ (some 53) _ = _
              simp only [Act.put, List.setIfInBounds_toArray, List.set_cons_zero, List.set_cons_succ, i64_w, i32_w]
              rfl
             refine one_ (i := 4) (N := some 54) #[true, true, true, true, true, false, false] rfl rfl (by kernel_rfl) (by decide) (fun K hK => ?_)
             refine goes_ Tryz.func49 (by kernel_rfl) rfl #[.agg #[.int .i64 t307, .int .i64 t308], .agg #[.int .i64 t316, .int .i64 t317]] (by rfl) rfl rfl (by (try simp only [List.map_toArray, List.map_cons, List.map_nil]); first | done | rfl | (simp only [List.length_drop, List.length_take]; rfl)) ?_
             with_reducible refine (pylonref02_times.calls t307 t308 t316 t317 t318 t319 _ A27.out).mono ?_
             rintro e w31 ⟨rfl, hb⟩
             refine ⟨_, rfl, ?_⟩
             replace BK304 := Aside0.mk (blk_below (g := gb304) (o := .cells #[.int .i64 x305000_2, .int .i64 x305001_2] 59 (0, 0)) (by (with_reducible repeat (first | refine blk_drewN ?_ _ | refine blk_drew ?_ | refine blk_alloc ?_ _)); exact BK304.out) hb)
             replace BK310 := Aside0.mk (blk_below (g := gb310) (o := .cells #[.int .i64 t307, .int .i64 t308] 59 (0, 0)) (by (with_reducible repeat (first | refine blk_drewN ?_ _ | refine blk_drew ?_ | refine blk_alloc ?_ _)); exact BK310.out) hb)
             replace BK315 := Aside0.mk (blk_below (g := gb315) (o := .cells #[.int .i64 t312, .int .i64 t313] 59 (0, 0)) (by (with_reducible repeat (first | refine blk_drewN ?_ _ | refine blk_drew ?_ | refine blk_alloc ?_ _)); exact BK315.out) hb)
             replace HB := Aside0.mk (bst_ hb)
             (try clear hb)
             (try clear hb2)
             (try clear hk)
             (try clear hi)
             refine hK.out _ _ ⟨(blk_cell BK304.out 0).trans rfl, (blk_cell BK304.out 1).trans rfl, (blk_cell BK310.out 0).trans rfl, (blk_cell BK310.out 1).trans rfl, (blk_cell BK315.out 0).trans rfl, (blk_cell BK315.out 1).trans rfl⟩ (fun hHeld => ?_)
             clear hK K
             refine norm_ (a' := ?_) ?_ ?_
             rotate_left
             ·
              show Act.put _ (some 54) _ = _
              simp only [Act.put, List.setIfInBounds_toArray, List.set_cons_zero, List.set_cons_succ, i64_w, i32_w]
              rfl
             refine one_ (i := 5) (N := some 55) #[true, true, true, true, true, true, false] rfl rfl (by kernel_rfl) (by decide) (fun K hK => ?_)
             refine goes_ Tryz.func48 (by kernel_rfl) rfl #[.agg #[.int .i64 x305000_2, .int .i64 x305001_2], .agg #[.int .i64 t318, .int .i64 t319]] (by rfl) rfl rfl (by (try simp only [List.map_toArray, List.map_cons, List.map_nil]); first | done | rfl | (simp only [List.length_drop, List.length_take]; rfl)) ?_
             with_reducible refine (pylonref02_plus.calls x305000_2 x305001_2 t318 t319 t320 t321 _ A28.out).mono ?_
             rintro e w32 ⟨rfl, hb⟩
             refine ⟨_, rfl, ?_⟩
             replace BK304 := Aside0.mk (blk_below (g := gb304) (o := .cells #[.int .i64 x305000_2, .int .i64 x305001_2] 59 (0, 0)) (by (with_reducible repeat (first | refine blk_drewN ?_ _ | refine blk_drew ?_ | refine blk_alloc ?_ _)); exact BK304.out) hb)
             replace BK310 := Aside0.mk (blk_below (g := gb310) (o := .cells #[.int .i64 t307, .int .i64 t308] 59 (0, 0)) (by (with_reducible repeat (first | refine blk_drewN ?_ _ | refine blk_drew ?_ | refine blk_alloc ?_ _)); exact BK310.out) hb)
             replace BK315 := Aside0.mk (blk_below (g := gb315) (o := .cells #[.int .i64 t312, .int .i64 t313] 59 (0, 0)) (by (with_reducible repeat (first | refine blk_drewN ?_ _ | refine blk_drew ?_ | refine blk_alloc ?_ _)); exact BK315.out) hb)
             replace HB := Aside0.mk (bst_ hb)
             (try clear hb)
             (try clear hb2)
             (try clear hk)
             (try clear hi)
             refine hK.out _ _ ⟨(blk_cell BK304.out 0).trans rfl, (blk_cell BK304.out 1).trans rfl, (blk_cell BK310.out 0).trans rfl, (blk_cell BK310.out 1).trans rfl, (blk_cell BK315.out 0).trans rfl, (blk_cell BK315.out 1).trans rfl⟩ (fun hHeld => ?_)
             clear hK K
             refine norm_ (a' := ?_) ?_ ?_
             rotate_left
             ·
              show Act.put _ (some 55) _ = _
              simp only [Act.put, List.setIfInBounds_toArray, List.set_cons_zero, List.set_cons_succ, i64_w, i32_w]
              rfl
             refine last_ (i := 6) (N := none) #[true, true, true, true, true, true, true] rfl rfl (by kernel_rfl) (by decide) (fun K hK => ?_)
             have hs33 : w32.cell? ⟨gb304, 0, none⟩ = some (.int .i64 x305000_2) := (blk_cell BK304.out 0).trans rfl
             have hfs33 := blk_frozen BK304.out 0
             have hns33_1 := NB310_304.out
             have hns33_2 := NB315_304.out
             have hms33_1 := NB304_310.out
             have hms33_2 := NB304_315.out
             have hs34 : w32.cell? ⟨gb304, 1, none⟩ = some (.int .i64 x305001_2) := (blk_cell BK304.out 1).trans rfl
             have hfs34 := blk_frozen BK304.out 1
             have hns34_1 := NB310_304.out
             have hns34_2 := NB315_304.out
             have hms34_1 := NB304_310.out
             have hms34_2 := NB304_315.out
             refine skip_ (w1 := ?_) (by rfl) rfl ?_ ?_
             rotate_left
             ·
              go_simp
              rfl
             refine hK.out _ _ ?_
             clear hK K
             refine done_ (by kernel_rfl) ?_
             try go_wp2
             go_roundg kj13
             case measure => have := HJ2.out; have := HK2.out; have := HJ13.out; omega
             case rel => exact ⟨(wrap64 (x25_2 + 1)), (t320), (t321), (by first | rfl | (simp; done) | (simp [*]; done)), H', ⟨by have := HJ2.out; have := HK2.out; have := HJ13.out; omega⟩, ⟨by (with_reducible repeat (first | refine blk_drewN ?_ _ | refine blk_drew ?_ | refine blk_alloc ?_ _)); refine blk_put (cs := #[.int .i64 t320, .int .i64 x305001_2]) ?_ 1 _ rfl; (with_reducible repeat (first | refine blk_drewN ?_ _ | refine blk_drew ?_ | refine blk_alloc ?_ _)); refine blk_put (cs := #[.int .i64 x305000_2, .int .i64 x305001_2]) ?_ 0 _ rfl; (with_reducible repeat (first | refine blk_drewN ?_ _ | refine blk_drew ?_ | refine blk_alloc ?_ _)); exact BK304.out⟩, ⟨bl_⟩⟩
         ·
          rw [if_neg c12] at H
          exact absurd H (by simp)
        ·
         rw [if_neg c10] at H
         exact absurd H (by simp)
       ·
        rw [if_neg c9] at H
        exact absurd H (by simp)
      ·
       rw [if_neg c8] at H
       have c8b0 : decide (x25_2 < (l0.length : Int)) = false := decide_eq_false c8
       clear c8
       replace H := Option.bind_eq_some_iff.mp H
       obtain ⟨t305, A350, H⟩ := H
       replace H : (some (t305, 0)) = some (r1, r2) := H
       have A35 := Aside0.mk A350
       clear A350
       simp only [Option.some.injEq, Prod.mk.injEq] at H
       obtain ⟨rfl, rfl⟩ := H
       have hcz36_0 : wr.cell? ⟨gb304, 0, none⟩ = some (.int .i64 x305000_2) := (blk_cell BK304.out 0).trans rfl
       have hcz36_1 : wr.cell? ⟨gb304, 1, none⟩ = some (.int .i64 x305001_2) := (blk_cell BK304.out 1).trans rfl
       have hfz36_0 := blk_frozen BK304.out 0
       have hfz36_1 := blk_frozen BK304.out 1
       go_wp2_with (first | ((with_reducible refine gate_callee (f := 47) rfl ?_); refine gL_ (some 58) Tryz.func47 #[.agg #[.int .i64 x305000_2, .int .i64 x305001_2]] ?_; (with_reducible refine (pylonref02_Made.calls x305000_2 x305001_2 t305 _ A35.out).mono ?_); rintro e w37 ⟨rfl, hb⟩; refine ⟨_, rfl, ?_⟩; replace BK304 := Aside0.mk (blk_below (g := gb304) (o := .cells #[.int .i64 x305000_2, .int .i64 x305001_2] 59 (0, 0)) (by (with_reducible repeat (first | refine blk_drewN ?_ _ | refine blk_drew ?_ | refine blk_alloc ?_ _)); exact BK304.out) hb); replace HB := Aside0.mk (bst_ hb); (try clear hb); (try clear hb2); (try clear hk); (try clear hi)))
       go_ret2
       exact fin_

/-! ### pylonref02_Power: function 25 -/
def pylonref02_Power.f (k : Nat) (a0 : Cx) (a1 : Cx) : Option (Cx × Int) := (pylonref02_Phases.f k (([a0] : List Cx)) (([a1] : List Cx))).bind fun bt328 => (some (bt328.1, bt328.2))
theorem pylonref02_Power.mono : ∀ a0 a1 k, LeO (pylonref02_Power.f k a0 a1) (pylonref02_Power.f (k + 1) a0 a1) := by
 intro a0 a1 k
 unfold pylonref02_Power.f
 repeat' first
   | (with_reducible exact pylonref02_Phases.mono _ _ _)
   | (with_reducible exact LeO.refl _)
   | (with_reducible exact LeO.none _)
   | (with_reducible refine LeO.ite ?_ ?_)
   | (with_reducible refine LeO.bind ?_ (fun _ => ?_))
   | exact pylonref02_Phases.mono _ _ _
   | exact LeO.none _
   | refine LeO.ite ?_ ?_
   | refine LeO.bind ?_ (fun _ => ?_)
set_option maxHeartbeats 8000000 in
set_option maxRecDepth 100000 in
theorem pylonref02_Power.calls (k : Nat) (a0 : Cx) (a1 : Cx) (r1 : Cx) (r2 : Int) (w : World) (h : pylonref02_Power.f k a0 a1 = some (r1, r2)) :
  Calls Tryz.prog 25 #[.complex .f64 a0.re a0.im, .complex .f64 a1.re a1.im] w fun e w' => e = .returned (.tuple #[.complex .f64 r1.re r1.im, .int .i64 r2]) ∧ Below w.heap.size w w' := by
 have HB := Aside0.mk (Below.refl w.heap.size w)
 have H : ((pylonref02_Phases.f k (([a0] : List Cx)) (([a1] : List Cx))).bind fun bt328 => (some (bt328.1, bt328.2))) = some (r1, r2) := h
 clear h
 obtain ⟨y322, hy322⟩ : ∃ y_ : List Cx, y_ = (([a0] : List Cx)) := ⟨_, rfl⟩
 replace H : ((pylonref02_Phases.f k y322 (([a1] : List Cx))).bind fun bt328 => (some (bt328.1, bt328.2))) = some (r1, r2) := by first | (rw [hy322]; with_reducible exact H) | (have H2_ := (Option.bind_some _ _).symm.trans H; rw [hy322]; with_reducible exact H2_) | (have H2_ := (Option.bind_some _ _).symm.trans H; with_reducible exact H2_) | with_reducible exact H | (rw [hy322]; exact H) | exact H
 have Ny322 := Aside0.mk hy322
 clear hy322
 obtain ⟨y325, hy325⟩ : ∃ y_ : List Cx, y_ = (([a1] : List Cx)) := ⟨_, rfl⟩
 replace H : ((pylonref02_Phases.f k y322 y325).bind fun bt328 => (some (bt328.1, bt328.2))) = some (r1, r2) := by first | (rw [hy325]; with_reducible exact H) | (have H2_ := (Option.bind_some _ _).symm.trans H; rw [hy325]; with_reducible exact H2_) | (have H2_ := (Option.bind_some _ _).symm.trans H; with_reducible exact H2_) | with_reducible exact H | (rw [hy325]; exact H) | exact H
 have Ny325 := Aside0.mk hy325
 clear hy325
 replace H := Option.bind_eq_some_iff.mp H
 obtain ⟨⟨t328, t329⟩, A30, H⟩ := H
 replace H : (some (t328, t329)) = some (r1, r2) := H
 have A3 := Aside0.mk A30
 clear A30
 simp only [Option.some.injEq, Prod.mk.injEq] at H
 obtain ⟨rfl, rfl⟩ := H
 go_enter Tryz.func25, Tryz.ntmps25
 go_wp2_with (first | ((with_reducible refine gate_dst (N := 7) rfl ?_); refine Kd.R_lit Kd.c128 _ 25 ?hg (N := 7) ?hd (xs := ([a0] : List Cx)) (inner := [.complex .f64 a0.re a0.im]) (ok := fun _ => True) (okp := fun _ => True) ?hr ?hp (fun _ hk => hk) trivial (Below.refl _ _) (Nat.le_refl _) (by simp) ?_; (case hd => rfl); (case hg => rfl); (case hr => first | (go_simp; done) | (go_simp; rfl)); (case hp => exact (Reps.one (show Kd.M Kd.c128 _ _ _ a0 [.complex .f64 a0.re a0.im] from rfl) (Reps.none _ _))); intro v323 w4 ho5 hb hg_ hnew_; clear hg_ hnew_; (first | rw [← Ny322.out] at ho5 | (simp only [Int.reduceToNat] at ho5; rw [← Ny322.out] at ho5)); have HO324 := Aside0.mk (Kd.R_lower ho5 (below_size bl_)); replace HB := Aside0.mk (bst_ hb); clear hb ho5) | ((with_reducible refine gate_dst (N := 9) rfl ?_); refine Kd.R_lit Kd.c128 _ 25 ?hg (N := 9) ?hd (xs := ([a1] : List Cx)) (inner := [.complex .f64 a1.re a1.im]) (ok := fun _ => True) (okp := fun _ => True) ?hr ?hp (fun _ hk => hk) trivial (Below.refl _ _) (Nat.le_refl _) (by simp) ?_; (case hd => rfl); (case hg => rfl); (case hr => first | (go_simp; done) | (go_simp; rfl)); (case hp => exact (Reps.one (show Kd.M Kd.c128 _ _ _ a1 [.complex .f64 a1.re a1.im] from rfl) (Reps.none _ _))); intro v326 w6 ho7 hb hg_ hnew_; clear hg_ hnew_; (first | rw [← Ny325.out] at ho7 | (simp only [Int.reduceToNat] at ho7; rw [← Ny325.out] at ho7)); have HO327 := Aside0.mk (Kd.R_lower (Kd.R_new' ho7 (Kd.R_lt (by (with_reducible repeat (first | apply Kd.R_alloc | apply Kd.R_drewN | apply Kd.R_drew)); exact HO324.out))) (below_size bl_)); replace HO324 := Aside0.mk (Kd.R_elder' (by (with_reducible repeat (first | apply Kd.R_alloc | apply Kd.R_drewN | apply Kd.R_drew)); exact HO324.out) (Kd.R_base ho7) hb); replace HB := Aside0.mk (bst_ hb); clear hb ho7; obtain ⟨Ao8, co8, eo8⟩ := Kd.R_slice HO324.out; subst eo8; obtain ⟨Ao9, co9, eo9⟩ := Kd.R_slice HO327.out; subst eo9) | ((with_reducible refine gate_callee (f := 26) rfl ?_); refine gL_ (some 10) Tryz.func26 #[.slice Ao8 y322.length co8, .slice Ao9 y325.length co9] ?_; (with_reducible refine (pylonref02_Phases.calls k _ _ y322 _ _ y325 t328 t329 _ ?side1 ?side2 ?side3 ?side4 A3.out).mono ?_); (case side1 => repeat (first | exact (Kd.R_reads' HO324.out).2.2 | (with_reducible refine Kd.C_alloc ?_ _) | (with_reducible refine Kd.C_drewN ?_ _) | (with_reducible refine Kd.C_drew ?_))); (case side2 => exact (Kd.R_reads' HO324.out).2.1); (case side3 => repeat (first | exact (Kd.R_reads' HO327.out).2.2 | (with_reducible refine Kd.C_alloc ?_ _) | (with_reducible refine Kd.C_drewN ?_ _) | (with_reducible refine Kd.C_drew ?_))); (case side4 => exact (Kd.R_reads' HO327.out).2.1); rintro e w10 ⟨rfl, hb⟩; refine ⟨_, rfl, ?_⟩; replace HO324 := Aside0.mk (Kd.R_below (by (with_reducible repeat (first | apply Kd.R_alloc | apply Kd.R_drewN | apply Kd.R_drew)); exact HO324.out) hb); replace HO327 := Aside0.mk (Kd.R_below (by (with_reducible repeat (first | apply Kd.R_alloc | apply Kd.R_drewN | apply Kd.R_drew)); exact HO327.out) hb); replace HB := Aside0.mk (bst_ hb); (try clear hb); (try clear hb2); (try clear hk); (try clear hi)))
 go_ret2
 exact fin_

/-! ### pylonref02_Aron: function 27 -/
def pylonref02_Aron.f (k : Nat) (a0 : Cx) (a1 : Cx) (a2 : Cx) (a3 : Cx) : Option (Cx × Int) := (pylonref02_Phases.f k (([a0, a1] : List Cx)) (([a2, a3] : List Cx))).bind fun bt336 => (some (bt336.1, bt336.2))
theorem pylonref02_Aron.mono : ∀ a0 a1 a2 a3 k, LeO (pylonref02_Aron.f k a0 a1 a2 a3) (pylonref02_Aron.f (k + 1) a0 a1 a2 a3) := by
 intro a0 a1 a2 a3 k
 unfold pylonref02_Aron.f
 repeat' first
   | (with_reducible exact pylonref02_Phases.mono _ _ _)
   | (with_reducible exact LeO.refl _)
   | (with_reducible exact LeO.none _)
   | (with_reducible refine LeO.ite ?_ ?_)
   | (with_reducible refine LeO.bind ?_ (fun _ => ?_))
   | exact pylonref02_Phases.mono _ _ _
   | exact LeO.none _
   | refine LeO.ite ?_ ?_
   | refine LeO.bind ?_ (fun _ => ?_)
set_option maxHeartbeats 8000000 in
set_option maxRecDepth 100000 in
theorem pylonref02_Aron.calls (k : Nat) (a0 : Cx) (a1 : Cx) (a2 : Cx) (a3 : Cx) (r1 : Cx) (r2 : Int) (w : World) (h : pylonref02_Aron.f k a0 a1 a2 a3 = some (r1, r2)) :
  Calls Tryz.prog 27 #[.complex .f64 a0.re a0.im, .complex .f64 a1.re a1.im, .complex .f64 a2.re a2.im, .complex .f64 a3.re a3.im] w fun e w' => e = .returned (.tuple #[.complex .f64 r1.re r1.im, .int .i64 r2]) ∧ Below w.heap.size w w' := by
 have HB := Aside0.mk (Below.refl w.heap.size w)
 have H : ((pylonref02_Phases.f k (([a0, a1] : List Cx)) (([a2, a3] : List Cx))).bind fun bt336 => (some (bt336.1, bt336.2))) = some (r1, r2) := h
 clear h
 obtain ⟨y330, hy330⟩ : ∃ y_ : List Cx, y_ = (([a0, a1] : List Cx)) := ⟨_, rfl⟩
 replace H : ((pylonref02_Phases.f k y330 (([a2, a3] : List Cx))).bind fun bt336 => (some (bt336.1, bt336.2))) = some (r1, r2) := by first | (rw [hy330]; with_reducible exact H) | (have H2_ := (Option.bind_some _ _).symm.trans H; rw [hy330]; with_reducible exact H2_) | (have H2_ := (Option.bind_some _ _).symm.trans H; with_reducible exact H2_) | with_reducible exact H | (rw [hy330]; exact H) | exact H
 have Ny330 := Aside0.mk hy330
 clear hy330
 obtain ⟨y333, hy333⟩ : ∃ y_ : List Cx, y_ = (([a2, a3] : List Cx)) := ⟨_, rfl⟩
 replace H : ((pylonref02_Phases.f k y330 y333).bind fun bt336 => (some (bt336.1, bt336.2))) = some (r1, r2) := by first | (rw [hy333]; with_reducible exact H) | (have H2_ := (Option.bind_some _ _).symm.trans H; rw [hy333]; with_reducible exact H2_) | (have H2_ := (Option.bind_some _ _).symm.trans H; with_reducible exact H2_) | with_reducible exact H | (rw [hy333]; exact H) | exact H
 have Ny333 := Aside0.mk hy333
 clear hy333
 replace H := Option.bind_eq_some_iff.mp H
 obtain ⟨⟨t336, t337⟩, A50, H⟩ := H
 replace H : (some (t336, t337)) = some (r1, r2) := H
 have A5 := Aside0.mk A50
 clear A50
 simp only [Option.some.injEq, Prod.mk.injEq] at H
 obtain ⟨rfl, rfl⟩ := H
 go_enter Tryz.func27, Tryz.ntmps27
 go_wp2_with (first | ((with_reducible refine gate_dst (N := 12) rfl ?_); refine Kd.R_lit Kd.c128 _ 25 ?hg (N := 12) ?hd (xs := ([a0, a1] : List Cx)) (inner := [.complex .f64 a0.re a0.im, .complex .f64 a1.re a1.im]) (ok := fun _ => True) (okp := fun _ => True) ?hr ?hp (fun _ hk => hk) trivial (Below.refl _ _) (Nat.le_refl _) (by simp) ?_; (case hd => rfl); (case hg => rfl); (case hr => first | (go_simp; done) | (go_simp; rfl)); (case hp => exact (Reps.one (show Kd.M Kd.c128 _ _ _ a0 [.complex .f64 a0.re a0.im] from rfl) (Reps.one (show Kd.M Kd.c128 _ _ _ a1 [.complex .f64 a1.re a1.im] from rfl) (Reps.none _ _)))); intro v331 w6 ho7 hb hg_ hnew_; clear hg_ hnew_; (first | rw [← Ny330.out] at ho7 | (simp only [Int.reduceToNat] at ho7; rw [← Ny330.out] at ho7)); have HO332 := Aside0.mk (Kd.R_lower ho7 (below_size bl_)); replace HB := Aside0.mk (bst_ hb); clear hb ho7) | ((with_reducible refine gate_dst (N := 15) rfl ?_); refine Kd.R_lit Kd.c128 _ 25 ?hg (N := 15) ?hd (xs := ([a2, a3] : List Cx)) (inner := [.complex .f64 a2.re a2.im, .complex .f64 a3.re a3.im]) (ok := fun _ => True) (okp := fun _ => True) ?hr ?hp (fun _ hk => hk) trivial (Below.refl _ _) (Nat.le_refl _) (by simp) ?_; (case hd => rfl); (case hg => rfl); (case hr => first | (go_simp; done) | (go_simp; rfl)); (case hp => exact (Reps.one (show Kd.M Kd.c128 _ _ _ a2 [.complex .f64 a2.re a2.im] from rfl) (Reps.one (show Kd.M Kd.c128 _ _ _ a3 [.complex .f64 a3.re a3.im] from rfl) (Reps.none _ _)))); intro v334 w8 ho9 hb hg_ hnew_; clear hg_ hnew_; (first | rw [← Ny333.out] at ho9 | (simp only [Int.reduceToNat] at ho9; rw [← Ny333.out] at ho9)); have HO335 := Aside0.mk (Kd.R_lower (Kd.R_new' ho9 (Kd.R_lt (by (with_reducible repeat (first | apply Kd.R_alloc | apply Kd.R_drewN | apply Kd.R_drew)); exact HO332.out))) (below_size bl_)); replace HO332 := Aside0.mk (Kd.R_elder' (by (with_reducible repeat (first | apply Kd.R_alloc | apply Kd.R_drewN | apply Kd.R_drew)); exact HO332.out) (Kd.R_base ho9) hb); replace HB := Aside0.mk (bst_ hb); clear hb ho9; obtain ⟨Ao10, co10, eo10⟩ := Kd.R_slice HO332.out; subst eo10; obtain ⟨Ao11, co11, eo11⟩ := Kd.R_slice HO335.out; subst eo11) | ((with_reducible refine gate_callee (f := 26) rfl ?_); refine gL_ (some 16) Tryz.func26 #[.slice Ao10 y330.length co10, .slice Ao11 y333.length co11] ?_; (with_reducible refine (pylonref02_Phases.calls k _ _ y330 _ _ y333 t336 t337 _ ?side1 ?side2 ?side3 ?side4 A5.out).mono ?_); (case side1 => repeat (first | exact (Kd.R_reads' HO332.out).2.2 | (with_reducible refine Kd.C_alloc ?_ _) | (with_reducible refine Kd.C_drewN ?_ _) | (with_reducible refine Kd.C_drew ?_))); (case side2 => exact (Kd.R_reads' HO332.out).2.1); (case side3 => repeat (first | exact (Kd.R_reads' HO335.out).2.2 | (with_reducible refine Kd.C_alloc ?_ _) | (with_reducible refine Kd.C_drewN ?_ _) | (with_reducible refine Kd.C_drew ?_))); (case side4 => exact (Kd.R_reads' HO335.out).2.1); rintro e w12 ⟨rfl, hb⟩; refine ⟨_, rfl, ?_⟩; replace HO332 := Aside0.mk (Kd.R_below (by (with_reducible repeat (first | apply Kd.R_alloc | apply Kd.R_drewN | apply Kd.R_drew)); exact HO332.out) hb); replace HO335 := Aside0.mk (Kd.R_below (by (with_reducible repeat (first | apply Kd.R_alloc | apply Kd.R_drewN | apply Kd.R_drew)); exact HO335.out) hb); replace HB := Aside0.mk (bst_ hb); (try clear hb); (try clear hb2); (try clear hk); (try clear hi)))
 go_ret2
 exact fin_

/-! ### pylonref02_power: function 51 -/
def pylonref02_power.f (a0 : Int) : Option (Int × Int) := if (Int.tmod (wrap64 ((Int.tmod a0 4) + 4)) 4) = 1 then (some (0, 1)) else (if (Int.tmod (wrap64 ((Int.tmod a0 4) + 4)) 4) = 2 then (some ((-1), 0)) else (if (Int.tmod (wrap64 ((Int.tmod a0 4) + 4)) 4) = 3 then (some (0, (-1))) else (some (1, 0))))
set_option maxHeartbeats 8000000 in
set_option maxRecDepth 100000 in
theorem pylonref02_power.calls (a0 : Int) (r1 : Int) (r2 : Int) (w : World) (h : pylonref02_power.f a0 = some (r1, r2)) :
  Calls Tryz.prog 51 #[.int .i64 a0] w fun e w' => e = .returned (.agg #[.int .i64 r1, .int .i64 r2]) ∧ Below w.heap.size w w' := by
 have hu59 := Tryz.underlying59
 have HB := Aside0.mk (Below.refl w.heap.size w)
 have H : (if (Int.tmod (wrap64 ((Int.tmod a0 4) + 4)) 4) = 1 then (some (0, 1)) else (if (Int.tmod (wrap64 ((Int.tmod a0 4) + 4)) 4) = 2 then (some ((-1), 0)) else (if (Int.tmod (wrap64 ((Int.tmod a0 4) + 4)) 4) = 3 then (some (0, (-1))) else (some (1, 0))))) = some (r1, r2) := h
 clear h
 by_cases c2 : (Int.tmod (wrap64 ((Int.tmod a0 4) + 4)) 4) = 1
 ·
  rw [if_pos c2] at H
  obtain ⟨c2b0, c2b1⟩ := eqT_ c2
  clear c2
  simp only [Option.some.injEq, Prod.mk.injEq] at H
  obtain ⟨rfl, rfl⟩ := H
  go_enter Tryz.func51, Tryz.ntmps51
  go_wp2_with (first | ((with_reducible refine gate_dst (N := 2) rfl ?_); refine box_event ?hg (N := 2) ?hd (cs := #[.int .i64 0, .int .i64 0]) (t := 59) ?hr ?_; (case hd => rfl); (case hg => rfl); (case hr => first | (go_simp; done) | (go_simp; rfl)); intro gb338 hg w3 hbox hb; have BK338 := Aside0.mk (hbox); have GW338 := Aside0.mk ((ge_ hg : w.heap.size ≤ gb338)); have GE338 := Aside0.mk ((ge_ hg : w.heap.size ≤ gb338)); replace HB := Aside0.mk (bst_ hb); clear hb hbox hg; have hcz4_0 : w3.cell? ⟨gb338, 0, none⟩ = some (.int .i64 0) := (blk_cell BK338.out 0).trans rfl; have hcz4_1 : w3.cell? ⟨gb338, 1, none⟩ = some (.int .i64 0) := (blk_cell BK338.out 1).trans rfl; have hfz4_0 := blk_frozen BK338.out 0; have hfz4_1 := blk_frozen BK338.out 1))
  refine bodyPost_ret (results_cell_row rfl _ _ gb338 59 #[.int .i64 0, .int .i64 1] (0, 0) _ rfl (by (with_reducible repeat (first | refine blk_drewN ?_ _ | refine blk_drew ?_ | refine blk_alloc ?_ _)); refine blk_put (cs := #[.int .i64 0, .int .i64 0]) ?_ 1 _ rfl; (with_reducible repeat (first | refine blk_drewN ?_ _ | refine blk_drew ?_ | refine blk_alloc ?_ _)); refine blk_put (cs := #[.int .i64 0, .int .i64 0]) ?_ 0 _ rfl; (with_reducible repeat (first | refine blk_drewN ?_ _ | refine blk_drew ?_ | refine blk_alloc ?_ _)); exact BK338.out) Tryz.underlying59 rfl (by kernel_rfl)) rfl ?_
  exact fin_
 ·
  rw [if_neg c2] at H
  obtain ⟨c2b0, c2b1⟩ := eqF_ c2
  by_cases c5 : (Int.tmod (wrap64 ((Int.tmod a0 4) + 4)) 4) = 2
  ·
   rw [if_pos c5] at H
   obtain ⟨c5b0, c5b1⟩ := eqT_ c5
   clear c5
   simp only [Option.some.injEq, Prod.mk.injEq] at H
   obtain ⟨rfl, rfl⟩ := H
   go_enter Tryz.func51, Tryz.ntmps51
   go_wp2_with (first | ((with_reducible refine gate_dst (N := 2) rfl ?_); refine box_event ?hg (N := 2) ?hd (cs := #[.int .i64 0, .int .i64 0]) (t := 59) ?hr ?_; (case hd => rfl); (case hg => rfl); (case hr => first | (go_simp; done) | (go_simp; rfl)); intro gb338 hg w6 hbox hb; have BK338 := Aside0.mk (hbox); have GW338 := Aside0.mk ((ge_ hg : w.heap.size ≤ gb338)); have GE338 := Aside0.mk ((ge_ hg : w.heap.size ≤ gb338)); replace HB := Aside0.mk (bst_ hb); clear hb hbox hg; have hcz7_0 : w6.cell? ⟨gb338, 0, none⟩ = some (.int .i64 0) := (blk_cell BK338.out 0).trans rfl; have hcz7_1 : w6.cell? ⟨gb338, 1, none⟩ = some (.int .i64 0) := (blk_cell BK338.out 1).trans rfl; have hfz7_0 := blk_frozen BK338.out 0; have hfz7_1 := blk_frozen BK338.out 1))
   refine bodyPost_ret (results_cell_row rfl _ _ gb338 59 #[.int .i64 (-1), .int .i64 0] (0, 0) _ rfl (by (with_reducible repeat (first | refine blk_drewN ?_ _ | refine blk_drew ?_ | refine blk_alloc ?_ _)); refine blk_put (cs := #[.int .i64 (-1), .int .i64 0]) ?_ 1 _ rfl; (with_reducible repeat (first | refine blk_drewN ?_ _ | refine blk_drew ?_ | refine blk_alloc ?_ _)); refine blk_put (cs := #[.int .i64 0, .int .i64 0]) ?_ 0 _ rfl; (with_reducible repeat (first | refine blk_drewN ?_ _ | refine blk_drew ?_ | refine blk_alloc ?_ _)); exact BK338.out) Tryz.underlying59 rfl (by kernel_rfl)) rfl ?_
   exact fin_
  ·
   rw [if_neg c5] at H
   obtain ⟨c5b0, c5b1⟩ := eqF_ c5
   by_cases c8 : (Int.tmod (wrap64 ((Int.tmod a0 4) + 4)) 4) = 3
   ·
    rw [if_pos c8] at H
    obtain ⟨c8b0, c8b1⟩ := eqT_ c8
    clear c8
    simp only [Option.some.injEq, Prod.mk.injEq] at H
    obtain ⟨rfl, rfl⟩ := H
    go_enter Tryz.func51, Tryz.ntmps51
    go_wp2_with (first | ((with_reducible refine gate_dst (N := 2) rfl ?_); refine box_event ?hg (N := 2) ?hd (cs := #[.int .i64 0, .int .i64 0]) (t := 59) ?hr ?_; (case hd => rfl); (case hg => rfl); (case hr => first | (go_simp; done) | (go_simp; rfl)); intro gb338 hg w9 hbox hb; have BK338 := Aside0.mk (hbox); have GW338 := Aside0.mk ((ge_ hg : w.heap.size ≤ gb338)); have GE338 := Aside0.mk ((ge_ hg : w.heap.size ≤ gb338)); replace HB := Aside0.mk (bst_ hb); clear hb hbox hg; have hcz10_0 : w9.cell? ⟨gb338, 0, none⟩ = some (.int .i64 0) := (blk_cell BK338.out 0).trans rfl; have hcz10_1 : w9.cell? ⟨gb338, 1, none⟩ = some (.int .i64 0) := (blk_cell BK338.out 1).trans rfl; have hfz10_0 := blk_frozen BK338.out 0; have hfz10_1 := blk_frozen BK338.out 1))
    refine bodyPost_ret (results_cell_row rfl _ _ gb338 59 #[.int .i64 0, .int .i64 (-1)] (0, 0) _ rfl (by (with_reducible repeat (first | refine blk_drewN ?_ _ | refine blk_drew ?_ | refine blk_alloc ?_ _)); refine blk_put (cs := #[.int .i64 0, .int .i64 0]) ?_ 1 _ rfl; (with_reducible repeat (first | refine blk_drewN ?_ _ | refine blk_drew ?_ | refine blk_alloc ?_ _)); refine blk_put (cs := #[.int .i64 0, .int .i64 0]) ?_ 0 _ rfl; (with_reducible repeat (first | refine blk_drewN ?_ _ | refine blk_drew ?_ | refine blk_alloc ?_ _)); exact BK338.out) Tryz.underlying59 rfl (by kernel_rfl)) rfl ?_
    exact fin_
   ·
    rw [if_neg c8] at H
    obtain ⟨c8b0, c8b1⟩ := eqF_ c8
    simp only [Option.some.injEq, Prod.mk.injEq] at H
    obtain ⟨rfl, rfl⟩ := H
    go_enter Tryz.func51, Tryz.ntmps51
    go_wp2_with (first | ((with_reducible refine gate_dst (N := 2) rfl ?_); refine box_event ?hg (N := 2) ?hd (cs := #[.int .i64 0, .int .i64 0]) (t := 59) ?hr ?_; (case hd => rfl); (case hg => rfl); (case hr => first | (go_simp; done) | (go_simp; rfl)); intro gb338 hg w11 hbox hb; have BK338 := Aside0.mk (hbox); have GW338 := Aside0.mk ((ge_ hg : w.heap.size ≤ gb338)); have GE338 := Aside0.mk ((ge_ hg : w.heap.size ≤ gb338)); replace HB := Aside0.mk (bst_ hb); clear hb hbox hg; have hcz12_0 : w11.cell? ⟨gb338, 0, none⟩ = some (.int .i64 0) := (blk_cell BK338.out 0).trans rfl; have hcz12_1 : w11.cell? ⟨gb338, 1, none⟩ = some (.int .i64 0) := (blk_cell BK338.out 1).trans rfl; have hfz12_0 := blk_frozen BK338.out 0; have hfz12_1 := blk_frozen BK338.out 1))
    refine bodyPost_ret (results_cell_row rfl _ _ gb338 59 #[.int .i64 1, .int .i64 0] (0, 0) _ rfl (by (with_reducible repeat (first | refine blk_drewN ?_ _ | refine blk_drew ?_ | refine blk_alloc ?_ _)); refine blk_put (cs := #[.int .i64 1, .int .i64 0]) ?_ 1 _ rfl; (with_reducible repeat (first | refine blk_drewN ?_ _ | refine blk_drew ?_ | refine blk_alloc ?_ _)); refine blk_put (cs := #[.int .i64 0, .int .i64 0]) ?_ 0 _ rfl; (with_reducible repeat (first | refine blk_drewN ?_ _ | refine blk_drew ?_ | refine blk_alloc ?_ _)); exact BK338.out) Tryz.underlying59 rfl (by kernel_rfl)) rfl ?_
    exact fin_

end Go.Proofs.YtofedlghaopciaaGreatDoor.PA
