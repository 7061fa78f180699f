-- Written by a program of this session for this claim (wip/print2.sh). Lean checks it.
import Derived.Test.YtofedlghaopciaaGreatDoorPAx0
import Derived.Test.YtofedlghaopciaaGreatDoorPAx11
import Derived.Test.YtofedlghaopciaaGreatDoorPAx12
import Derived.Test.YtofedlghaopciaaGreatDoorPk1
namespace Go.Proofs.YtofedlghaopciaaGreatDoor.PA
open Go.Proofs.YtofedlghaopciaaGreatDoorW.PrintWords
attribute [local go_sem high] fx_eql fx_neq fx_lss fx_leq fx_gtr fx_geq fx_add fx_sub fx_mul fx_neg fx_toint cxx_add cxx_sub cxx_mul cxx_eql cxx_neq cxx_pick st_float st_complex
open Go.RowKit Go.Proofs.YtofedlghaopciaaGreatDoorW.PrintWords Go.Proofs.YtofedlghaopciaaGreatDoorW.PrintLast Go.Proofs.YtofedlghaopciaaGreatDoorW.PrintMore
attribute [local go_sem] max2_int min2_int max_two min_two max_three min_three max_four min_four   -- for this text's walks alone
set_option linter.unusedVariables false
set_option linter.unusedSimpArgs false

/-! ### pylonref01_Hyp: function 52 -/
def pylonref01_Hyp.f (k : Nat) (a0 : Int) (a1 : Int) : Option (Int × Int) := (pylonref01_mag.f a0).bind fun t350 => ((pylonref01_mag.f a0).bind fun t351 => ((pylonref01_product.f t350 t351).bind fun bt352 => ((pylonref01_mag.f a1).bind fun t354 => ((pylonref01_mag.f a1).bind fun t355 => ((pylonref01_product.f t354 t355).bind fun bt356 => (if (IntKind.u64.wrap (bt352.2 + bt356.2)) < bt352.2 then ((pylonref01_root.f k (IntKind.u64.wrap ((IntKind.u64.wrap (bt352.1 + bt356.1)) + 1)) (IntKind.u64.wrap (bt352.2 + bt356.2))).bind fun t358 => ((pylonref01_signed.f k false 0 t358).bind fun bt359 => (some (bt359.1, bt359.2)))) else ((pylonref01_root.f k (IntKind.u64.wrap (bt352.1 + bt356.1)) (IntKind.u64.wrap (bt352.2 + bt356.2))).bind fun t361 => ((pylonref01_signed.f k false 0 t361).bind fun bt362 => (some (bt362.1, bt362.2))))))))))
theorem pylonref01_Hyp.mono : ∀ a0 a1 k, LeO (pylonref01_Hyp.f k a0 a1) (pylonref01_Hyp.f (k + 1) a0 a1) := by
 intro a0 a1 k
 unfold pylonref01_Hyp.f
 repeat' first
   | (with_reducible exact pylonref01_root.mono _ _ _)
   | (with_reducible exact pylonref01_signed.mono _ _ _ _)
   | (with_reducible exact LeO.refl _)
   | (with_reducible exact LeO.none _)
   | (with_reducible refine LeO.ite ?_ ?_)
   | (with_reducible refine LeO.bind ?_ (fun _ => ?_))
   | exact pylonref01_root.mono _ _ _
   | exact pylonref01_signed.mono _ _ _ _
   | exact LeO.none _
   | refine LeO.ite ?_ ?_
   | refine LeO.bind ?_ (fun _ => ?_)
set_option maxHeartbeats 8000000 in
set_option maxRecDepth 100000 in
theorem pylonref01_Hyp.calls (k : Nat) (a0 : Int) (a1 : Int) (r1 : Int) (r2 : Int) (w : World) (h : pylonref01_Hyp.f k a0 a1 = some (r1, r2)) :
  Calls Tryz.prog 52 #[.int .i64 a0, .int .i64 a1] w fun e w' => e = .returned (.tuple #[.int .i64 r1, .int .i64 r2]) ∧ Drawn0 w w' := by
 have H : ((pylonref01_mag.f a0).bind fun t350 => ((pylonref01_mag.f a0).bind fun t351 => ((pylonref01_product.f t350 t351).bind fun bt352 => ((pylonref01_mag.f a1).bind fun t354 => ((pylonref01_mag.f a1).bind fun t355 => ((pylonref01_product.f t354 t355).bind fun bt356 => (if (IntKind.u64.wrap (bt352.2 + bt356.2)) < bt352.2 then ((pylonref01_root.f k (IntKind.u64.wrap ((IntKind.u64.wrap (bt352.1 + bt356.1)) + 1)) (IntKind.u64.wrap (bt352.2 + bt356.2))).bind fun t358 => ((pylonref01_signed.f k false 0 t358).bind fun bt359 => (some (bt359.1, bt359.2)))) else ((pylonref01_root.f k (IntKind.u64.wrap (bt352.1 + bt356.1)) (IntKind.u64.wrap (bt352.2 + bt356.2))).bind fun t361 => ((pylonref01_signed.f k false 0 t361).bind fun bt362 => (some (bt362.1, bt362.2))))))))))) = some (r1, r2) := h
 clear h
 replace H := Option.bind_eq_some_iff.mp H
 obtain ⟨t350, A30, H⟩ := H
 replace H : ((pylonref01_mag.f a0).bind fun t351 => ((pylonref01_product.f t350 t351).bind fun bt352 => ((pylonref01_mag.f a1).bind fun t354 => ((pylonref01_mag.f a1).bind fun t355 => ((pylonref01_product.f t354 t355).bind fun bt356 => (if (IntKind.u64.wrap (bt352.2 + bt356.2)) < bt352.2 then ((pylonref01_root.f k (IntKind.u64.wrap ((IntKind.u64.wrap (bt352.1 + bt356.1)) + 1)) (IntKind.u64.wrap (bt352.2 + bt356.2))).bind fun t358 => ((pylonref01_signed.f k false 0 t358).bind fun bt359 => (some (bt359.1, bt359.2)))) else ((pylonref01_root.f k (IntKind.u64.wrap (bt352.1 + bt356.1)) (IntKind.u64.wrap (bt352.2 + bt356.2))).bind fun t361 => ((pylonref01_signed.f k false 0 t361).bind fun bt362 => (some (bt362.1, bt362.2)))))))))) = some (r1, r2) := H
 have A3 := Aside0.mk A30
 clear A30
 replace H := Option.bind_eq_some_iff.mp H
 obtain ⟨t351, A40, H⟩ := H
 replace H : ((pylonref01_product.f t350 t351).bind fun bt352 => ((pylonref01_mag.f a1).bind fun t354 => ((pylonref01_mag.f a1).bind fun t355 => ((pylonref01_product.f t354 t355).bind fun bt356 => (if (IntKind.u64.wrap (bt352.2 + bt356.2)) < bt352.2 then ((pylonref01_root.f k (IntKind.u64.wrap ((IntKind.u64.wrap (bt352.1 + bt356.1)) + 1)) (IntKind.u64.wrap (bt352.2 + bt356.2))).bind fun t358 => ((pylonref01_signed.f k false 0 t358).bind fun bt359 => (some (bt359.1, bt359.2)))) else ((pylonref01_root.f k (IntKind.u64.wrap (bt352.1 + bt356.1)) (IntKind.u64.wrap (bt352.2 + bt356.2))).bind fun t361 => ((pylonref01_signed.f k false 0 t361).bind fun bt362 => (some (bt362.1, bt362.2))))))))) = some (r1, r2) := H
 have A4 := Aside0.mk A40
 clear A40
 replace H := Option.bind_eq_some_iff.mp H
 obtain ⟨⟨t352, t353⟩, A50, H⟩ := H
 replace H : ((pylonref01_mag.f a1).bind fun t354 => ((pylonref01_mag.f a1).bind fun t355 => ((pylonref01_product.f t354 t355).bind fun bt356 => (if (IntKind.u64.wrap (t353 + bt356.2)) < t353 then ((pylonref01_root.f k (IntKind.u64.wrap ((IntKind.u64.wrap (t352 + bt356.1)) + 1)) (IntKind.u64.wrap (t353 + bt356.2))).bind fun t358 => ((pylonref01_signed.f k false 0 t358).bind fun bt359 => (some (bt359.1, bt359.2)))) else ((pylonref01_root.f k (IntKind.u64.wrap (t352 + bt356.1)) (IntKind.u64.wrap (t353 + bt356.2))).bind fun t361 => ((pylonref01_signed.f k false 0 t361).bind fun bt362 => (some (bt362.1, bt362.2)))))))) = some (r1, r2) := H
 have A5 := Aside0.mk A50
 clear A50
 replace H := Option.bind_eq_some_iff.mp H
 obtain ⟨t354, A60, H⟩ := H
 replace H : ((pylonref01_mag.f a1).bind fun t355 => ((pylonref01_product.f t354 t355).bind fun bt356 => (if (IntKind.u64.wrap (t353 + bt356.2)) < t353 then ((pylonref01_root.f k (IntKind.u64.wrap ((IntKind.u64.wrap (t352 + bt356.1)) + 1)) (IntKind.u64.wrap (t353 + bt356.2))).bind fun t358 => ((pylonref01_signed.f k false 0 t358).bind fun bt359 => (some (bt359.1, bt359.2)))) else ((pylonref01_root.f k (IntKind.u64.wrap (t352 + bt356.1)) (IntKind.u64.wrap (t353 + bt356.2))).bind fun t361 => ((pylonref01_signed.f k false 0 t361).bind fun bt362 => (some (bt362.1, bt362.2))))))) = some (r1, r2) := H
 have A6 := Aside0.mk A60
 clear A60
 replace H := Option.bind_eq_some_iff.mp H
 obtain ⟨t355, A70, H⟩ := H
 replace H : ((pylonref01_product.f t354 t355).bind fun bt356 => (if (IntKind.u64.wrap (t353 + bt356.2)) < t353 then ((pylonref01_root.f k (IntKind.u64.wrap ((IntKind.u64.wrap (t352 + bt356.1)) + 1)) (IntKind.u64.wrap (t353 + bt356.2))).bind fun t358 => ((pylonref01_signed.f k false 0 t358).bind fun bt359 => (some (bt359.1, bt359.2)))) else ((pylonref01_root.f k (IntKind.u64.wrap (t352 + bt356.1)) (IntKind.u64.wrap (t353 + bt356.2))).bind fun t361 => ((pylonref01_signed.f k false 0 t361).bind fun bt362 => (some (bt362.1, bt362.2)))))) = some (r1, r2) := H
 have A7 := Aside0.mk A70
 clear A70
 replace H := Option.bind_eq_some_iff.mp H
 obtain ⟨⟨t356, t357⟩, A80, H⟩ := H
 replace H : (if (IntKind.u64.wrap (t353 + t357)) < t353 then ((pylonref01_root.f k (IntKind.u64.wrap ((IntKind.u64.wrap (t352 + t356)) + 1)) (IntKind.u64.wrap (t353 + t357))).bind fun t358 => ((pylonref01_signed.f k false 0 t358).bind fun bt359 => (some (bt359.1, bt359.2)))) else ((pylonref01_root.f k (IntKind.u64.wrap (t352 + t356)) (IntKind.u64.wrap (t353 + t357))).bind fun t361 => ((pylonref01_signed.f k false 0 t361).bind fun bt362 => (some (bt362.1, bt362.2))))) = some (r1, r2) := H
 have A8 := Aside0.mk A80
 clear A80
 by_cases c9 : (IntKind.u64.wrap (t353 + t357)) < t353
 ·
  rw [if_pos c9] at H
  have c9b0 : decide ((IntKind.u64.wrap (t353 + t357)) < t353) = true := decide_eq_true c9
  clear c9
  replace H := Option.bind_eq_some_iff.mp H
  obtain ⟨t358, A100, H⟩ := H
  replace H : ((pylonref01_signed.f k false 0 t358).bind fun bt359 => (some (bt359.1, bt359.2))) = some (r1, r2) := H
  have A10 := Aside0.mk A100
  clear A100
  replace H := Option.bind_eq_some_iff.mp H
  obtain ⟨⟨t359, t360⟩, A110, H⟩ := H
  replace H : (some (t359, t360)) = some (r1, r2) := H
  have A11 := Aside0.mk A110
  clear A110
  simp only [Option.some.injEq, Prod.mk.injEq] at H
  obtain ⟨rfl, rfl⟩ := H
  go_enter Tryz.func52, Tryz.ntmps52
  go_wp2_with (first | ((with_reducible refine gate_callee (f := 74) rfl ?_); refine gL_ (some 15) Tryz.func74 #[.int .i64 a0] ?_; (with_reducible refine (pylonref01_mag.calls a0 t350 _ A3.out).mono ?_); rintro e w' ⟨rfl, ⟨nd, rfl⟩⟩; refine ⟨_, rfl, ?_⟩) | ((with_reducible refine gate_callee (f := 74) rfl ?_); refine gL_ (some 17) Tryz.func74 #[.int .i64 a0] ?_; (with_reducible refine (pylonref01_mag.calls a0 t351 _ A4.out).mono ?_); rintro e w' ⟨rfl, ⟨nd, rfl⟩⟩; refine ⟨_, rfl, ?_⟩) | ((with_reducible refine gate_callee (f := 73) rfl ?_); refine gL_ (some 18) Tryz.func73 #[.int .u64 t350, .int .u64 t351] ?_; (with_reducible refine (pylonref01_product.calls t350 t351 t352 t353 _ A5.out).mono ?_); rintro e w' ⟨rfl, ⟨nd, rfl⟩⟩; refine ⟨_, rfl, ?_⟩) | ((with_reducible refine gate_callee (f := 74) rfl ?_); refine gL_ (some 23) Tryz.func74 #[.int .i64 a1] ?_; (with_reducible refine (pylonref01_mag.calls a1 t354 _ A6.out).mono ?_); rintro e w' ⟨rfl, ⟨nd, rfl⟩⟩; refine ⟨_, rfl, ?_⟩) | ((with_reducible refine gate_callee (f := 74) rfl ?_); refine gL_ (some 25) Tryz.func74 #[.int .i64 a1] ?_; (with_reducible refine (pylonref01_mag.calls a1 t355 _ A7.out).mono ?_); rintro e w' ⟨rfl, ⟨nd, rfl⟩⟩; refine ⟨_, rfl, ?_⟩) | ((with_reducible refine gate_callee (f := 73) rfl ?_); refine gL_ (some 26) Tryz.func73 #[.int .u64 t354, .int .u64 t355] ?_; (with_reducible refine (pylonref01_product.calls t354 t355 t356 t357 _ A8.out).mono ?_); rintro e w' ⟨rfl, ⟨nd, rfl⟩⟩; refine ⟨_, rfl, ?_⟩) | ((with_reducible refine gate_callee (f := 75) rfl ?_); refine gL_ (some 42) Tryz.func75 #[.int .u64 (IntKind.u64.wrap ((IntKind.u64.wrap (t352 + t356)) + 1)), .int .u64 (IntKind.u64.wrap (t353 + t357))] ?_; (with_reducible refine (pylonref01_root.calls k (IntKind.u64.wrap ((IntKind.u64.wrap (t352 + t356)) + 1)) (IntKind.u64.wrap (t353 + t357)) t358 _ A10.out).mono ?_); rintro e w' ⟨rfl, ⟨nd, rfl⟩⟩; refine ⟨_, rfl, ?_⟩) | ((with_reducible refine gate_callee (f := 76) rfl ?_); refine gL_ (some 44) Tryz.func76 #[.bool false, .int .u64 0, .int .u64 t358] ?_; (with_reducible refine (pylonref01_signed.calls k false 0 t358 t359 t360 _ A11.out).mono ?_); rintro e w' ⟨rfl, ⟨nd, rfl⟩⟩; refine ⟨_, rfl, ?_⟩))
  go_ret2
  exact ⟨by first | rfl | (simp; done) | (simp [*]; done), by repeat (first | exact Drawn0.refl _ | apply Drawn0.step)⟩
 ·
  rw [if_neg c9] at H
  have c9b0 : decide ((IntKind.u64.wrap (t353 + t357)) < t353) = false := decide_eq_false c9
  clear c9
  replace H := Option.bind_eq_some_iff.mp H
  obtain ⟨t361, A120, H⟩ := H
  replace H : ((pylonref01_signed.f k false 0 t361).bind fun bt362 => (some (bt362.1, bt362.2))) = some (r1, r2) := H
  have A12 := Aside0.mk A120
  clear A120
  replace H := Option.bind_eq_some_iff.mp H
  obtain ⟨⟨t362, t363⟩, A130, H⟩ := H
  replace H : (some (t362, t363)) = some (r1, r2) := H
  have A13 := Aside0.mk A130
  clear A130
  simp only [Option.some.injEq, Prod.mk.injEq] at H
  obtain ⟨rfl, rfl⟩ := H
  go_enter Tryz.func52, Tryz.ntmps52
  go_wp2_with (first | ((with_reducible refine gate_callee (f := 74) rfl ?_); refine gL_ (some 15) Tryz.func74 #[.int .i64 a0] ?_; (with_reducible refine (pylonref01_mag.calls a0 t350 _ A3.out).mono ?_); rintro e w' ⟨rfl, ⟨nd, rfl⟩⟩; refine ⟨_, rfl, ?_⟩) | ((with_reducible refine gate_callee (f := 74) rfl ?_); refine gL_ (some 17) Tryz.func74 #[.int .i64 a0] ?_; (with_reducible refine (pylonref01_mag.calls a0 t351 _ A4.out).mono ?_); rintro e w' ⟨rfl, ⟨nd, rfl⟩⟩; refine ⟨_, rfl, ?_⟩) | ((with_reducible refine gate_callee (f := 73) rfl ?_); refine gL_ (some 18) Tryz.func73 #[.int .u64 t350, .int .u64 t351] ?_; (with_reducible refine (pylonref01_product.calls t350 t351 t352 t353 _ A5.out).mono ?_); rintro e w' ⟨rfl, ⟨nd, rfl⟩⟩; refine ⟨_, rfl, ?_⟩) | ((with_reducible refine gate_callee (f := 74) rfl ?_); refine gL_ (some 23) Tryz.func74 #[.int .i64 a1] ?_; (with_reducible refine (pylonref01_mag.calls a1 t354 _ A6.out).mono ?_); rintro e w' ⟨rfl, ⟨nd, rfl⟩⟩; refine ⟨_, rfl, ?_⟩) | ((with_reducible refine gate_callee (f := 74) rfl ?_); refine gL_ (some 25) Tryz.func74 #[.int .i64 a1] ?_; (with_reducible refine (pylonref01_mag.calls a1 t355 _ A7.out).mono ?_); rintro e w' ⟨rfl, ⟨nd, rfl⟩⟩; refine ⟨_, rfl, ?_⟩) | ((with_reducible refine gate_callee (f := 73) rfl ?_); refine gL_ (some 26) Tryz.func73 #[.int .u64 t354, .int .u64 t355] ?_; (with_reducible refine (pylonref01_product.calls t354 t355 t356 t357 _ A8.out).mono ?_); rintro e w' ⟨rfl, ⟨nd, rfl⟩⟩; refine ⟨_, rfl, ?_⟩) | ((with_reducible refine gate_callee (f := 75) rfl ?_); refine gL_ (some 42) Tryz.func75 #[.int .u64 (IntKind.u64.wrap (t352 + t356)), .int .u64 (IntKind.u64.wrap (t353 + t357))] ?_; (with_reducible refine (pylonref01_root.calls k (IntKind.u64.wrap (t352 + t356)) (IntKind.u64.wrap (t353 + t357)) t361 _ A12.out).mono ?_); rintro e w' ⟨rfl, ⟨nd, rfl⟩⟩; refine ⟨_, rfl, ?_⟩) | ((with_reducible refine gate_callee (f := 76) rfl ?_); refine gL_ (some 44) Tryz.func76 #[.bool false, .int .u64 0, .int .u64 t361] ?_; (with_reducible refine (pylonref01_signed.calls k false 0 t361 t362 t363 _ A13.out).mono ?_); rintro e w' ⟨rfl, ⟨nd, rfl⟩⟩; refine ⟨_, rfl, ?_⟩))
  go_ret2
  exact ⟨by first | rfl | (simp; done) | (simp [*]; done), by repeat (first | exact Drawn0.refl _ | apply Drawn0.step)⟩

/-! ### pylonref02_Apparent: function 30 -/
def pylonref02_Apparent.f (k : Nat) (a0 : Cx) : Option (Int × Int) := (pylonref02_Fits.f a0).bind fun bt364 => (if bt364.2.2 = true then ((pylonref01_Hyp.f k bt364.1 bt364.2.1).bind fun bt368 => (some (bt368.1, bt368.2))) else (some (0, 5)))
theorem pylonref02_Apparent.mono : ∀ a0 k, LeO (pylonref02_Apparent.f k a0) (pylonref02_Apparent.f (k + 1) a0) := by
 intro a0 k
 unfold pylonref02_Apparent.f
 repeat' first
   | (with_reducible exact pylonref01_Hyp.mono _ _ _)
   | (with_reducible exact LeO.refl _)
   | (with_reducible exact LeO.none _)
   | (with_reducible refine LeO.ite ?_ ?_)
   | (with_reducible refine LeO.bind ?_ (fun _ => ?_))
   | exact pylonref01_Hyp.mono _ _ _
   | exact LeO.none _
   | refine LeO.ite ?_ ?_
   | refine LeO.bind ?_ (fun _ => ?_)
set_option maxHeartbeats 8000000 in
set_option maxRecDepth 100000 in
theorem pylonref02_Apparent.calls (k : Nat) (a0 : Cx) (r1 : Int) (r2 : Int) (w : World) (h : pylonref02_Apparent.f k a0 = some (r1, r2)) :
  Calls Tryz.prog 30 #[.complex .f64 a0.re a0.im] w fun e w' => e = .returned (.tuple #[.int .i64 r1, .int .i64 r2]) ∧ Below w.heap.size w w' := by
 have hu59 := Tryz.underlying59
 have HB := Aside0.mk (Below.refl w.heap.size w)
 have H : ((pylonref02_Fits.f a0).bind fun bt364 => (if bt364.2.2 = true then ((pylonref01_Hyp.f k bt364.1 bt364.2.1).bind fun bt368 => (some (bt368.1, bt368.2))) else (some (0, 5)))) = some (r1, r2) := h
 clear h
 replace H := Option.bind_eq_some_iff.mp H
 obtain ⟨⟨t364, t365, t366⟩, A20, H⟩ := H
 replace H : (if t366 = true then ((pylonref01_Hyp.f k t364 t365).bind fun bt368 => (some (bt368.1, bt368.2))) else (some (0, 5))) = some (r1, r2) := H
 have A2 := Aside0.mk A20
 clear A20
 by_cases c3 : t366 = true
 ·
  subst c3
  have H1 : ((pylonref01_Hyp.f k t364 t365).bind fun bt368 => (some (bt368.1, bt368.2))) = some (r1, r2) := by rw [if_pos rfl] at H; exact H
  clear H
  have H := H1
  clear H1
  replace H := Option.bind_eq_some_iff.mp H
  obtain ⟨⟨t368, t369⟩, A40, H⟩ := H
  replace H : (some (t368, t369)) = some (r1, r2) := H
  have A4 := Aside0.mk A40
  clear A40
  simp only [Option.some.injEq, Prod.mk.injEq] at H
  obtain ⟨rfl, rfl⟩ := H
  go_enter Tryz.func30, Tryz.ntmps30
  go_wp2_with (first | ((with_reducible refine gate_callee (f := 23) rfl ?_); refine gL_ (some 8) Tryz.func23 #[.complex .f64 a0.re a0.im] ?_; (with_reducible refine (pylonref02_Fits.calls a0 t364 t365 true _ A2.out).mono ?_); rintro e w5 ⟨rfl, hb⟩; refine ⟨_, rfl, ?_⟩; replace HB := Aside0.mk (bst_ hb); (try clear hb); (try clear hb2); (try clear hk); (try clear hi)) | ((with_reducible refine gate_dst (N := 4) rfl ?_); refine box_event ?hg (N := 4) ?hd (cs := #[.int .i64 0, .int .i64 0]) (t := 59) ?hr ?_; (case hd => rfl); (case hg => rfl); (case hr => first | (go_simp; done) | (go_simp; rfl)); intro gb367 hg w6 hbox hb; have BK367 := Aside0.mk (hbox); have GW367 := Aside0.mk ((ge_ hg : w.heap.size ≤ gb367)); have GE367 := Aside0.mk ((ge_ hg : w.heap.size ≤ gb367)); replace HB := Aside0.mk (bst_ hb); clear hb hbox hg; have hcz7_0 : w6.cell? ⟨gb367, 0, none⟩ = some (.int .i64 0) := (blk_cell BK367.out 0).trans rfl; have hcz7_1 : w6.cell? ⟨gb367, 1, none⟩ = some (.int .i64 0) := (blk_cell BK367.out 1).trans rfl; have hfz7_0 := blk_frozen BK367.out 0; have hfz7_1 := blk_frozen BK367.out 1) | ((with_reducible refine gate_callee (f := 52) rfl ?_); refine gL_ (some 17) Tryz.func52 #[.int .i64 t364, .int .i64 t365] ?_; (with_reducible refine (pylonref01_Hyp.calls k t364 t365 t368 t369 _ A4.out).mono ?_); rintro e w' ⟨rfl, ⟨nd, rfl⟩⟩; refine ⟨_, rfl, ?_⟩))
  go_ret2
  exact fin_
 ·
  replace c3 := Bool.eq_false_iff.mpr c3
  subst c3
  have H1 : (some (0, 5)) = some (r1, r2) := by rw [if_neg (show ¬ (false = true) by decide)] at H; exact H
  clear H
  have H := H1
  clear H1
  simp only [Option.some.injEq, Prod.mk.injEq] at H
  obtain ⟨rfl, rfl⟩ := H
  go_enter Tryz.func30, Tryz.ntmps30
  go_wp2_with (first | ((with_reducible refine gate_callee (f := 23) rfl ?_); refine gL_ (some 8) Tryz.func23 #[.complex .f64 a0.re a0.im] ?_; (with_reducible refine (pylonref02_Fits.calls a0 t364 t365 false _ A2.out).mono ?_); rintro e w8 ⟨rfl, hb⟩; refine ⟨_, rfl, ?_⟩; replace HB := Aside0.mk (bst_ hb); (try clear hb); (try clear hb2); (try clear hk); (try clear hi)) | ((with_reducible refine gate_dst (N := 4) rfl ?_); refine box_event ?hg (N := 4) ?hd (cs := #[.int .i64 0, .int .i64 0]) (t := 59) ?hr ?_; (case hd => rfl); (case hg => rfl); (case hr => first | (go_simp; done) | (go_simp; rfl)); intro gb367 hg w9 hbox hb; have BK367 := Aside0.mk (hbox); have GW367 := Aside0.mk ((ge_ hg : w.heap.size ≤ gb367)); have GE367 := Aside0.mk ((ge_ hg : w.heap.size ≤ gb367)); replace HB := Aside0.mk (bst_ hb); clear hb hbox hg; have hcz10_0 : w9.cell? ⟨gb367, 0, none⟩ = some (.int .i64 0) := (blk_cell BK367.out 0).trans rfl; have hcz10_1 : w9.cell? ⟨gb367, 1, none⟩ = some (.int .i64 0) := (blk_cell BK367.out 1).trans rfl; have hfz10_0 := blk_frozen BK367.out 0; have hfz10_1 := blk_frozen BK367.out 1))
  go_ret2
  exact fin_

/-! ### pylonref01_Text: function 53 -/
def pylonref01_Text.l0 : Nat → Int → Int → ByteArray → Option (ByteArray)
 | 0, _, _, _ => none
 | k + 1, x0, x3, x4 => if x3 > 0 then (if (Go.Utf8.encode (wrap32 (IntKind.u64.wrap (48 + (Int.tmod x3 10))))).size + x4.size ≤ 9223372036854775807 then (pylonref01_Text.l0 k x0 (IntKind.u64.wrap (Int.tdiv x3 10)) ((Go.Utf8.encode (wrap32 (IntKind.u64.wrap (48 + (Int.tmod x3 10))))) ++ x4)) else (none)) else (if x4.toList = ([] : List UInt8) then (if (Go.Utf8.encode (wrap32 (IntKind.u64.wrap (48 + (Int.tmod x3 10))))).size + x4.size ≤ 9223372036854775807 then (pylonref01_Text.l0 k x0 (IntKind.u64.wrap (Int.tdiv x3 10)) ((Go.Utf8.encode (wrap32 (IntKind.u64.wrap (48 + (Int.tmod x3 10))))) ++ x4)) else (none)) else (if x0 < 0 then (if 1 + x4.size ≤ 9223372036854775807 then (some ((⟨#[45]⟩ : ByteArray) ++ x4)) else (none)) else (some x4)))
def pylonref01_Text.f (k : Nat) (a0 : Int) : Option (ByteArray) := (pylonref01_mag.f a0).bind fun t370 => (pylonref01_Text.l0 k a0 t370 (⟨#[]⟩ : ByteArray))
theorem pylonref01_Text.mono_l : ∀ k, (∀ y0 y1 y2, LeO (pylonref01_Text.l0 k y0 y1 y2) (pylonref01_Text.l0 (k + 1) y0 y1 y2))
 | 0 => fun _ _ _ r h => by simp [pylonref01_Text.l0] at h
 | k + 1 => by
  have ih0 := pylonref01_Text.mono_l k
  ·
   intro y0 y1 y2
   unfold pylonref01_Text.l0
   repeat' first
   | (with_reducible exact ih0 _ _ _)
   | (with_reducible exact LeO.refl _)
   | (with_reducible exact LeO.none _)
   | (with_reducible refine LeO.ite ?_ ?_)
   | (with_reducible refine LeO.bind ?_ (fun _ => ?_))
   | exact ih0 _ _ _
   | exact LeO.none _
   | refine LeO.ite ?_ ?_
   | refine LeO.bind ?_ (fun _ => ?_)
theorem pylonref01_Text.mono : ∀ a0 k, LeO (pylonref01_Text.f k a0) (pylonref01_Text.f (k + 1) a0) := by
 intro a0 k
 have ih0 := pylonref01_Text.mono_l k
 unfold pylonref01_Text.f
 repeat' first
   | (with_reducible exact ih0 _ _ _)
   | (with_reducible exact LeO.refl _)
   | (with_reducible exact LeO.none _)
   | (with_reducible refine LeO.ite ?_ ?_)
   | (with_reducible refine LeO.bind ?_ (fun _ => ?_))
   | exact ih0 _ _ _
   | exact LeO.none _
   | refine LeO.ite ?_ ?_
   | refine LeO.bind ?_ (fun _ => ?_)
set_option maxHeartbeats 8000000 in
set_option maxRecDepth 100000 in
theorem pylonref01_Text.calls (k : Nat) (a0 : Int) (r : ByteArray) (w : World) (h : pylonref01_Text.f k a0 = some r) :
  Calls Tryz.prog 53 #[.int .i64 a0] w fun e w' => e = .returned (.string r) ∧ Drawn0 w w' := by
 have hcv21 : ∀ (n : Int) (W : World), (convert 21 9 (.int .i32 n)).run Tryz.prog W = .ok (.string (Go.Utf8.encode n)) W := fun n W => by rfl
 have H : ((pylonref01_mag.f a0).bind fun t370 => (pylonref01_Text.l0 k a0 t370 (⟨#[]⟩ : ByteArray))) = some r := h
 clear h
 replace H := Option.bind_eq_some_iff.mp H
 obtain ⟨t370, A20, H⟩ := H
 replace H : (pylonref01_Text.l0 k a0 t370 (⟨#[]⟩ : ByteArray)) = some r := H
 have A2 := Aside0.mk A20
 clear A20
 have H' := Aside0.mk H
 clear H
 go_enter Tryz.func53, Tryz.ntmps53
 go_wp2_with (first | ((with_reducible refine gate_callee (f := 74) rfl ?_); refine gL_ (some 6) Tryz.func74 #[.int .i64 a0] ?_; (with_reducible refine (pylonref01_mag.calls a0 t370 _ A2.out).mono ?_); rintro e w' ⟨rfl, ⟨nd, rfl⟩⟩; refine ⟨_, rfl, ?_⟩))
 go_loopg [3, 4] k (fun kq v3 v4 w' => ∃ (x3_1 : Int) (x4_1 : ByteArray), v3 = .int .u64 x3_1 ∧ v4 = .string x4_1 ∧ Aside0 (pylonref01_Text.l0 kq a0 x3_1 x4_1 = some r) ∧ Aside0 (kq ≤ k) ∧ Drawn0 w w')
 case atStart => exact ⟨(t370), ((⟨#[]⟩ : ByteArray)), (by first | rfl | (simp; done) | (simp [*]; done)), (by first | rfl | (simp; done) | (simp [*]; done)), H', ⟨Nat.le_refl _⟩, by repeat (first | exact Drawn0.refl _ | apply Drawn0.step)⟩
 case round =>
  clear H'
  try clear p2
  obtain ⟨x3_1, x4_1, rfl, rfl, HA, HK1, ⟨m1, rfl⟩⟩ := hrel
  cases gk with
  | zero => exact absurd HA.out (by simp [pylonref01_Text.l0])
  | succ k1 =>
   have H := HA.out
   clear HA
   simp only [pylonref01_Text.l0] at H
   by_cases c3 : x3_1 > 0
   ·
    rw [if_pos c3] at H
    have c3b0 : decide (0 < x3_1) = true := decide_eq_true c3
    clear c3
    by_cases c4 : (Go.Utf8.encode (wrap32 (IntKind.u64.wrap (48 + (Int.tmod x3_1 10))))).size + x4_1.size ≤ 9223372036854775807
    ·
     rw [if_pos c4] at H
     have c4b0 := eq_true c4
     have c4b1 : decide ((Go.Utf8.encode (wrap32 (IntKind.u64.wrap (48 + (Int.tmod x3_1 10))))).size + x4_1.size ≤ 9223372036854775807) = true := decide_eq_true c4
     try have c4b2 : (9223372036854775807 < (Go.Utf8.encode (wrap32 (IntKind.u64.wrap (48 + (Int.tmod x3_1 10))))).size + x4_1.size) = False := eq_false (Nat.not_lt.2 c4)
     have H' := Aside0.mk H
     clear H
     go_wp2
     go_roundg k1
     case measure => have := HK1.out; omega
     case rel => exact ⟨(IntKind.u64.wrap (Int.tdiv x3_1 10)), ((Go.Utf8.encode (wrap32 (IntKind.u64.wrap (48 + (Int.tmod x3_1 10))))) ++ x4_1), (by first | rfl | (simp; done) | (simp [*]; done)), (by first | rfl | (simp; done) | (simp [*]; done)), H', ⟨by have := HK1.out; omega⟩, by repeat (first | exact Drawn0.refl _ | apply Drawn0.step)⟩
    ·
     rw [if_neg c4] at H
     exact absurd H (by simp)
   ·
    rw [if_neg c3] at H
    have c3b0 : decide (0 < x3_1) = false := decide_eq_false c3
    clear c3
    by_cases c5 : x4_1.toList = ([] : List UInt8)
    ·
     rw [if_pos c5] at H
     have c5b0 : (x4_1.toList == ([] : List UInt8)) = true := beq_iff_eq.mpr c5
     have c5b1 : (x4_1.toList != ([] : List UInt8)) = false := bne_eq_false_iff_eq.mpr c5
     clear c5
     by_cases c6 : (Go.Utf8.encode (wrap32 (IntKind.u64.wrap (48 + (Int.tmod x3_1 10))))).size + x4_1.size ≤ 9223372036854775807
     ·
      rw [if_pos c6] at H
      have c6b0 := eq_true c6
      have c6b1 : decide ((Go.Utf8.encode (wrap32 (IntKind.u64.wrap (48 + (Int.tmod x3_1 10))))).size + x4_1.size ≤ 9223372036854775807) = true := decide_eq_true c6
      try have c6b2 : (9223372036854775807 < (Go.Utf8.encode (wrap32 (IntKind.u64.wrap (48 + (Int.tmod x3_1 10))))).size + x4_1.size) = False := eq_false (Nat.not_lt.2 c6)
      have H' := Aside0.mk H
      clear H
      go_wp2
      go_roundg k1
      case measure => have := HK1.out; omega
      case rel => exact ⟨(IntKind.u64.wrap (Int.tdiv x3_1 10)), ((Go.Utf8.encode (wrap32 (IntKind.u64.wrap (48 + (Int.tmod x3_1 10))))) ++ x4_1), (by first | rfl | (simp; done) | (simp [*]; done)), (by first | rfl | (simp; done) | (simp [*]; done)), H', ⟨by have := HK1.out; omega⟩, by repeat (first | exact Drawn0.refl _ | apply Drawn0.step)⟩
     ·
      rw [if_neg c6] at H
      exact absurd H (by simp)
    ·
     rw [if_neg c5] at H
     have c5b0 : (x4_1.toList == ([] : List UInt8)) = false := beq_eq_false_iff_ne.mpr c5
     have c5b1 : (x4_1.toList != ([] : List UInt8)) = true := bne_iff_ne.mpr c5
     by_cases c7 : a0 < 0
     ·
      rw [if_pos c7] at H
      have c7b0 : decide (a0 < 0) = true := decide_eq_true c7
      clear c7
      by_cases c8 : 1 + x4_1.size ≤ 9223372036854775807
      ·
       rw [if_pos c8] at H
       have c8b0 := eq_true c8
       have c8b1 : decide (1 + x4_1.size ≤ 9223372036854775807) = true := decide_eq_true c8
       try have c8b2 : (9223372036854775807 < 1 + x4_1.size) = False := eq_false (Nat.not_lt.2 c8)
       obtain rfl := Option.some.inj H
       go_wp2
       go_ret
       exact ⟨by first | rfl | (simp; done) | (simp [*]; done), by repeat (first | exact Drawn0.refl _ | apply Drawn0.step)⟩
      ·
       rw [if_neg c8] at H
       exact absurd H (by simp)
     ·
      rw [if_neg c7] at H
      have c7b0 : decide (a0 < 0) = false := decide_eq_false c7
      clear c7
      obtain rfl := Option.some.inj H
      go_wp2
      go_ret
      exact ⟨by first | rfl | (simp; done) | (simp [*]; done), by repeat (first | exact Drawn0.refl _ | apply Drawn0.step)⟩

/-! ### pylonref02_Text: function 33 -/
def pylonref02_Text.f (k : Nat) (a0 : Cx) : Option (ByteArray × Int) := (pylonref02_Fits.f a0).bind fun bt371 => (if bt371.2.2 = true then ((pylonref01_Text.f k bt371.1).bind fun t375 => (if bt371.2.1 ≥ 0 then (if t375.size + 1 ≤ 9223372036854775807 then ((pylonref01_Text.f k bt371.2.1).bind fun t376 => (if (t375 ++ (⟨#[43]⟩ : ByteArray)).size + t376.size ≤ 9223372036854775807 then (if ((t375 ++ (⟨#[43]⟩ : ByteArray)) ++ t376).size + 1 ≤ 9223372036854775807 then (some (((t375 ++ (⟨#[43]⟩ : ByteArray)) ++ t376) ++ (⟨#[105]⟩ : ByteArray), 0)) else (none)) else (none))) else (none)) else ((pylonref01_Text.f k bt371.2.1).bind fun t377 => (if t375.size + t377.size ≤ 9223372036854775807 then (if (t375 ++ t377).size + 1 ≤ 9223372036854775807 then (some ((t375 ++ t377) ++ (⟨#[105]⟩ : ByteArray), 0)) else (none)) else (none))))) else (some ((⟨#[]⟩ : ByteArray), 5)))
theorem pylonref02_Text.mono : ∀ a0 k, LeO (pylonref02_Text.f k a0) (pylonref02_Text.f (k + 1) a0) := by
 intro a0 k
 unfold pylonref02_Text.f
 repeat' first
   | (with_reducible exact pylonref01_Text.mono _ _)
   | (with_reducible exact LeO.refl _)
   | (with_reducible exact LeO.none _)
   | (with_reducible refine LeO.ite ?_ ?_)
   | (with_reducible refine LeO.bind ?_ (fun _ => ?_))
   | exact pylonref01_Text.mono _ _
   | exact LeO.none _
   | refine LeO.ite ?_ ?_
   | refine LeO.bind ?_ (fun _ => ?_)
set_option maxHeartbeats 8000000 in
set_option maxRecDepth 100000 in
theorem pylonref02_Text.calls (k : Nat) (a0 : Cx) (r1 : ByteArray) (r2 : Int) (w : World) (h : pylonref02_Text.f k a0 = some (r1, r2)) :
  Calls Tryz.prog 33 #[.complex .f64 a0.re a0.im] w fun e w' => e = .returned (.tuple #[.string r1, .int .i64 r2]) ∧ Below w.heap.size w w' := by
 have hu59 := Tryz.underlying59
 have HB := Aside0.mk (Below.refl w.heap.size w)
 have H : ((pylonref02_Fits.f a0).bind fun bt371 => (if bt371.2.2 = true then ((pylonref01_Text.f k bt371.1).bind fun t375 => (if bt371.2.1 ≥ 0 then (if t375.size + 1 ≤ 9223372036854775807 then ((pylonref01_Text.f k bt371.2.1).bind fun t376 => (if (t375 ++ (⟨#[43]⟩ : ByteArray)).size + t376.size ≤ 9223372036854775807 then (if ((t375 ++ (⟨#[43]⟩ : ByteArray)) ++ t376).size + 1 ≤ 9223372036854775807 then (some (((t375 ++ (⟨#[43]⟩ : ByteArray)) ++ t376) ++ (⟨#[105]⟩ : ByteArray), 0)) else (none)) else (none))) else (none)) else ((pylonref01_Text.f k bt371.2.1).bind fun t377 => (if t375.size + t377.size ≤ 9223372036854775807 then (if (t375 ++ t377).size + 1 ≤ 9223372036854775807 then (some ((t375 ++ t377) ++ (⟨#[105]⟩ : ByteArray), 0)) else (none)) else (none))))) else (some ((⟨#[]⟩ : ByteArray), 5)))) = some (r1, r2) := h
 clear h
 replace H := Option.bind_eq_some_iff.mp H
 obtain ⟨⟨t371, t372, t373⟩, A20, H⟩ := H
 replace H : (if t373 = true then ((pylonref01_Text.f k t371).bind fun t375 => (if t372 ≥ 0 then (if t375.size + 1 ≤ 9223372036854775807 then ((pylonref01_Text.f k t372).bind fun t376 => (if (t375 ++ (⟨#[43]⟩ : ByteArray)).size + t376.size ≤ 9223372036854775807 then (if ((t375 ++ (⟨#[43]⟩ : ByteArray)) ++ t376).size + 1 ≤ 9223372036854775807 then (some (((t375 ++ (⟨#[43]⟩ : ByteArray)) ++ t376) ++ (⟨#[105]⟩ : ByteArray), 0)) else (none)) else (none))) else (none)) else ((pylonref01_Text.f k t372).bind fun t377 => (if t375.size + t377.size ≤ 9223372036854775807 then (if (t375 ++ t377).size + 1 ≤ 9223372036854775807 then (some ((t375 ++ t377) ++ (⟨#[105]⟩ : ByteArray), 0)) else (none)) else (none))))) else (some ((⟨#[]⟩ : ByteArray), 5))) = some (r1, r2) := H
 have A2 := Aside0.mk A20
 clear A20
 by_cases c3 : t373 = true
 ·
  subst c3
  have H1 : ((pylonref01_Text.f k t371).bind fun t375 => (if t372 ≥ 0 then (if t375.size + 1 ≤ 9223372036854775807 then ((pylonref01_Text.f k t372).bind fun t376 => (if (t375 ++ (⟨#[43]⟩ : ByteArray)).size + t376.size ≤ 9223372036854775807 then (if ((t375 ++ (⟨#[43]⟩ : ByteArray)) ++ t376).size + 1 ≤ 9223372036854775807 then (some (((t375 ++ (⟨#[43]⟩ : ByteArray)) ++ t376) ++ (⟨#[105]⟩ : ByteArray), 0)) else (none)) else (none))) else (none)) else ((pylonref01_Text.f k t372).bind fun t377 => (if t375.size + t377.size ≤ 9223372036854775807 then (if (t375 ++ t377).size + 1 ≤ 9223372036854775807 then (some ((t375 ++ t377) ++ (⟨#[105]⟩ : ByteArray), 0)) else (none)) else (none))))) = some (r1, r2) := by rw [if_pos rfl] at H; exact H
  clear H
  have H := H1
  clear H1
  replace H := Option.bind_eq_some_iff.mp H
  obtain ⟨t375, A40, H⟩ := H
  replace H : (if t372 ≥ 0 then (if t375.size + 1 ≤ 9223372036854775807 then ((pylonref01_Text.f k t372).bind fun t376 => (if (t375 ++ (⟨#[43]⟩ : ByteArray)).size + t376.size ≤ 9223372036854775807 then (if ((t375 ++ (⟨#[43]⟩ : ByteArray)) ++ t376).size + 1 ≤ 9223372036854775807 then (some (((t375 ++ (⟨#[43]⟩ : ByteArray)) ++ t376) ++ (⟨#[105]⟩ : ByteArray), 0)) else (none)) else (none))) else (none)) else ((pylonref01_Text.f k t372).bind fun t377 => (if t375.size + t377.size ≤ 9223372036854775807 then (if (t375 ++ t377).size + 1 ≤ 9223372036854775807 then (some ((t375 ++ t377) ++ (⟨#[105]⟩ : ByteArray), 0)) else (none)) else (none)))) = some (r1, r2) := H
  have A4 := Aside0.mk A40
  clear A40
  by_cases c5 : t372 ≥ 0
  ·
   rw [if_pos c5] at H
   have c5b0 : decide (0 ≤ t372) = true := decide_eq_true c5
   clear c5
   by_cases c6 : t375.size + 1 ≤ 9223372036854775807
   ·
    rw [if_pos c6] at H
    have c6b0 := eq_true c6
    have c6b1 : decide (t375.size + 1 ≤ 9223372036854775807) = true := decide_eq_true c6
    try have c6b2 : (9223372036854775807 < t375.size + 1) = False := eq_false (Nat.not_lt.2 c6)
    replace H := Option.bind_eq_some_iff.mp H
    obtain ⟨t376, A70, H⟩ := H
    replace H : (if (t375 ++ (⟨#[43]⟩ : ByteArray)).size + t376.size ≤ 9223372036854775807 then (if ((t375 ++ (⟨#[43]⟩ : ByteArray)) ++ t376).size + 1 ≤ 9223372036854775807 then (some (((t375 ++ (⟨#[43]⟩ : ByteArray)) ++ t376) ++ (⟨#[105]⟩ : ByteArray), 0)) else (none)) else (none)) = some (r1, r2) := H
    have A7 := Aside0.mk A70
    clear A70
    by_cases c8 : (t375 ++ (⟨#[43]⟩ : ByteArray)).size + t376.size ≤ 9223372036854775807
    ·
     rw [if_pos c8] at H
     have c8b0 := eq_true c8
     have c8b1 : decide ((t375 ++ (⟨#[43]⟩ : ByteArray)).size + t376.size ≤ 9223372036854775807) = true := decide_eq_true c8
     try have c8b2 : (9223372036854775807 < (t375 ++ (⟨#[43]⟩ : ByteArray)).size + t376.size) = False := eq_false (Nat.not_lt.2 c8)
     have c8b4 : (9223372036854775807 < t375.size + 1 + t376.size) = False := eq_false (by have e_ : (t375 ++ (⟨#[43]⟩ : ByteArray)).size + t376.size = t375.size + 1 + t376.size := (by first | (simp only [ByteArray.size_append]; done) | ((try simp only [ByteArray.size_append]); rfl)); rw [← e_]; exact Nat.not_lt.2 c8)
     by_cases c9 : ((t375 ++ (⟨#[43]⟩ : ByteArray)) ++ t376).size + 1 ≤ 9223372036854775807
     ·
      rw [if_pos c9] at H
      have c9b0 := eq_true c9
      have c9b1 : decide (((t375 ++ (⟨#[43]⟩ : ByteArray)) ++ t376).size + 1 ≤ 9223372036854775807) = true := decide_eq_true c9
      try have c9b2 : (9223372036854775807 < ((t375 ++ (⟨#[43]⟩ : ByteArray)) ++ t376).size + 1) = False := eq_false (Nat.not_lt.2 c9)
      have c9b4 : (9223372036854775807 < t375.size + 1 + t376.size + 1) = False := eq_false (by have e_ : ((t375 ++ (⟨#[43]⟩ : ByteArray)) ++ t376).size + 1 = t375.size + 1 + t376.size + 1 := (by first | (simp only [ByteArray.size_append]; done) | ((try simp only [ByteArray.size_append]); rfl)); rw [← e_]; exact Nat.not_lt.2 c9)
      simp only [Option.some.injEq, Prod.mk.injEq] at H
      obtain ⟨rfl, rfl⟩ := H
      go_enter Tryz.func33, Tryz.ntmps33
      go_wp2_with (first | ((with_reducible refine gate_callee (f := 23) rfl ?_); refine gL_ (some 9) Tryz.func23 #[.complex .f64 a0.re a0.im] ?_; (with_reducible refine (pylonref02_Fits.calls a0 t371 t372 true _ A2.out).mono ?_); rintro e w10 ⟨rfl, hb⟩; refine ⟨_, rfl, ?_⟩; replace HB := Aside0.mk (bst_ hb); (try clear hb); (try clear hb2); (try clear hk); (try clear hi)) | ((with_reducible refine gate_dst (N := 4) rfl ?_); refine box_event ?hg (N := 4) ?hd (cs := #[.int .i64 0, .int .i64 0]) (t := 59) ?hr ?_; (case hd => rfl); (case hg => rfl); (case hr => first | (go_simp; done) | (go_simp; rfl)); intro gb374 hg w11 hbox hb; have BK374 := Aside0.mk (hbox); have GW374 := Aside0.mk ((ge_ hg : w.heap.size ≤ gb374)); have GE374 := Aside0.mk ((ge_ hg : w.heap.size ≤ gb374)); replace HB := Aside0.mk (bst_ hb); clear hb hbox hg; have hcz12_0 : w11.cell? ⟨gb374, 0, none⟩ = some (.int .i64 0) := (blk_cell BK374.out 0).trans rfl; have hcz12_1 : w11.cell? ⟨gb374, 1, none⟩ = some (.int .i64 0) := (blk_cell BK374.out 1).trans rfl; have hfz12_0 := blk_frozen BK374.out 0; have hfz12_1 := blk_frozen BK374.out 1) | ((with_reducible refine gate_callee (f := 53) rfl ?_); refine gL_ (some 16) Tryz.func53 #[.int .i64 t371] ?_; (with_reducible refine (pylonref01_Text.calls k t371 t375 _ A4.out).mono ?_); rintro e w' ⟨rfl, ⟨nd, rfl⟩⟩; refine ⟨_, rfl, ?_⟩) | ((with_reducible refine gate_callee (f := 53) rfl ?_); refine gL_ (some 25) Tryz.func53 #[.int .i64 t372] ?_; (with_reducible refine (pylonref01_Text.calls k t372 t376 _ A7.out).mono ?_); rintro e w' ⟨rfl, ⟨nd, rfl⟩⟩; refine ⟨_, rfl, ?_⟩))
      go_ret2
      exact fin_
     ·
      rw [if_neg c9] at H
      exact absurd H (by simp)
    ·
     rw [if_neg c8] at H
     exact absurd H (by simp)
   ·
    rw [if_neg c6] at H
    exact absurd H (by simp)
  ·
   rw [if_neg c5] at H
   have c5b0 : decide (0 ≤ t372) = false := decide_eq_false c5
   clear c5
   replace H := Option.bind_eq_some_iff.mp H
   obtain ⟨t377, A130, H⟩ := H
   replace H : (if t375.size + t377.size ≤ 9223372036854775807 then (if (t375 ++ t377).size + 1 ≤ 9223372036854775807 then (some ((t375 ++ t377) ++ (⟨#[105]⟩ : ByteArray), 0)) else (none)) else (none)) = some (r1, r2) := H
   have A13 := Aside0.mk A130
   clear A130
   by_cases c14 : t375.size + t377.size ≤ 9223372036854775807
   ·
    rw [if_pos c14] at H
    have c14b0 := eq_true c14
    have c14b1 : decide (t375.size + t377.size ≤ 9223372036854775807) = true := decide_eq_true c14
    try have c14b2 : (9223372036854775807 < t375.size + t377.size) = False := eq_false (Nat.not_lt.2 c14)
    by_cases c15 : (t375 ++ t377).size + 1 ≤ 9223372036854775807
    ·
     rw [if_pos c15] at H
     have c15b0 := eq_true c15
     have c15b1 : decide ((t375 ++ t377).size + 1 ≤ 9223372036854775807) = true := decide_eq_true c15
     try have c15b2 : (9223372036854775807 < (t375 ++ t377).size + 1) = False := eq_false (Nat.not_lt.2 c15)
     have c15b4 : (9223372036854775807 < t375.size + t377.size + 1) = False := eq_false (by have e_ : (t375 ++ t377).size + 1 = t375.size + t377.size + 1 := (by first | (simp only [ByteArray.size_append]; done) | ((try simp only [ByteArray.size_append]); rfl)); rw [← e_]; exact Nat.not_lt.2 c15)
     simp only [Option.some.injEq, Prod.mk.injEq] at H
     obtain ⟨rfl, rfl⟩ := H
     go_enter Tryz.func33, Tryz.ntmps33
     go_wp2_with (first | ((with_reducible refine gate_callee (f := 23) rfl ?_); refine gL_ (some 9) Tryz.func23 #[.complex .f64 a0.re a0.im] ?_; (with_reducible refine (pylonref02_Fits.calls a0 t371 t372 true _ A2.out).mono ?_); rintro e w16 ⟨rfl, hb⟩; refine ⟨_, rfl, ?_⟩; replace HB := Aside0.mk (bst_ hb); (try clear hb); (try clear hb2); (try clear hk); (try clear hi)) | ((with_reducible refine gate_dst (N := 4) rfl ?_); refine box_event ?hg (N := 4) ?hd (cs := #[.int .i64 0, .int .i64 0]) (t := 59) ?hr ?_; (case hd => rfl); (case hg => rfl); (case hr => first | (go_simp; done) | (go_simp; rfl)); intro gb374 hg w17 hbox hb; have BK374 := Aside0.mk (hbox); have GW374 := Aside0.mk ((ge_ hg : w.heap.size ≤ gb374)); have GE374 := Aside0.mk ((ge_ hg : w.heap.size ≤ gb374)); replace HB := Aside0.mk (bst_ hb); clear hb hbox hg; have hcz18_0 : w17.cell? ⟨gb374, 0, none⟩ = some (.int .i64 0) := (blk_cell BK374.out 0).trans rfl; have hcz18_1 : w17.cell? ⟨gb374, 1, none⟩ = some (.int .i64 0) := (blk_cell BK374.out 1).trans rfl; have hfz18_0 := blk_frozen BK374.out 0; have hfz18_1 := blk_frozen BK374.out 1) | ((with_reducible refine gate_callee (f := 53) rfl ?_); refine gL_ (some 16) Tryz.func53 #[.int .i64 t371] ?_; (with_reducible refine (pylonref01_Text.calls k t371 t375 _ A4.out).mono ?_); rintro e w' ⟨rfl, ⟨nd, rfl⟩⟩; refine ⟨_, rfl, ?_⟩) | ((with_reducible refine gate_callee (f := 53) rfl ?_); refine gL_ (some 25) Tryz.func53 #[.int .i64 t372] ?_; (with_reducible refine (pylonref01_Text.calls k t372 t377 _ A13.out).mono ?_); rintro e w' ⟨rfl, ⟨nd, rfl⟩⟩; refine ⟨_, rfl, ?_⟩))
     go_ret2
     exact fin_
    ·
     rw [if_neg c15] at H
     exact absurd H (by simp)
   ·
    rw [if_neg c14] at H
    exact absurd H (by simp)
 ·
  replace c3 := Bool.eq_false_iff.mpr c3
  subst c3
  have H1 : (some ((⟨#[]⟩ : ByteArray), 5)) = some (r1, r2) := by rw [if_neg (show ¬ (false = true) by decide)] at H; exact H
  clear H
  have H := H1
  clear H1
  simp only [Option.some.injEq, Prod.mk.injEq] at H
  obtain ⟨rfl, rfl⟩ := H
  go_enter Tryz.func33, Tryz.ntmps33
  go_wp2_with (first | ((with_reducible refine gate_callee (f := 23) rfl ?_); refine gL_ (some 9) Tryz.func23 #[.complex .f64 a0.re a0.im] ?_; (with_reducible refine (pylonref02_Fits.calls a0 t371 t372 false _ A2.out).mono ?_); rintro e w19 ⟨rfl, hb⟩; refine ⟨_, rfl, ?_⟩; replace HB := Aside0.mk (bst_ hb); (try clear hb); (try clear hb2); (try clear hk); (try clear hi)) | ((with_reducible refine gate_dst (N := 4) rfl ?_); refine box_event ?hg (N := 4) ?hd (cs := #[.int .i64 0, .int .i64 0]) (t := 59) ?hr ?_; (case hd => rfl); (case hg => rfl); (case hr => first | (go_simp; done) | (go_simp; rfl)); intro gb374 hg w20 hbox hb; have BK374 := Aside0.mk (hbox); have GW374 := Aside0.mk ((ge_ hg : w.heap.size ≤ gb374)); have GE374 := Aside0.mk ((ge_ hg : w.heap.size ≤ gb374)); replace HB := Aside0.mk (bst_ hb); clear hb hbox hg; have hcz21_0 : w20.cell? ⟨gb374, 0, none⟩ = some (.int .i64 0) := (blk_cell BK374.out 0).trans rfl; have hcz21_1 : w20.cell? ⟨gb374, 1, none⟩ = some (.int .i64 0) := (blk_cell BK374.out 1).trans rfl; have hfz21_0 := blk_frozen BK374.out 0; have hfz21_1 := blk_frozen BK374.out 1))
  go_ret2
  exact fin_

end Go.Proofs.YtofedlghaopciaaGreatDoor.PA
