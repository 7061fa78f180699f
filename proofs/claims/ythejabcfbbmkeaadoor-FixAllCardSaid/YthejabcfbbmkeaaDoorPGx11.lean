-- Written by a program of this session for this claim (wip/print2.sh). Lean checks it.
import Derived.Test.YthejabcfbbmkeaaDoorPGx0
import Derived.Test.YthejabcfbbmkeaaDoorPGx8
import Derived.Test.YthejabcfbbmkeaaDoorPGx9
import Derived.Test.YthejabcfbbmkeaaDoorPGx10
namespace Go.Proofs.YthejabcfbbmkeaaDoor.PG
open Go.Proofs.YthejabcfbbmkeaaDoorW.PrintWords
attribute [local go_sem high] fx_eql fx_neq fx_lss fx_leq fx_gtr fx_geq fx_add fx_sub fx_mul fx_neg fx_toint cxx_add cxx_sub cxx_mul cxx_eql cxx_neq cxx_pick st_float st_complex
open Go.RowKit Go.Proofs.YthejabcfbbmkeaaDoorW.PrintWords Go.Proofs.YthejabcfbbmkeaaDoorW.PrintLast Go.Proofs.YthejabcfbbmkeaaDoorW.PrintMore
attribute [local go_sem] max2_int min2_int max_two min_two max_three min_three max_four min_four   -- for this text's walks alone
set_option linter.unusedVariables false
set_option linter.unusedSimpArgs false

/-! ### pylonref01_Div: function 41 -/
def pylonref01_Div.j0 : Nat → Int → Int → Int → Bool → Bool → Option (Int × Int × Int)
  | 0, _, _, _, _, _ => none
  | k + 1, x1, x7, x8, x9, x34 => if x34 = true then ((pylonref01_mag.f x1).bind fun t269 => (if x9 = true then ((pylonref01_signed.f k ((IntKind.u64.wrap (x7 + 1)) != 0) 0 (IntKind.u64.wrap (x7 + 1))).bind fun bt270 => (if bt270.2 = 0 then (some (bt270.1, wrap64 (IntKind.u64.wrap (t269 - x8)), 0)) else (some (0, 0, bt270.2)))) else ((pylonref01_signed.f k false 0 (IntKind.u64.wrap (x7 + 1))).bind fun bt272 => (if bt272.2 = 0 then (some (bt272.1, wrap64 (IntKind.u64.wrap (t269 - x8)), 0)) else (some (0, 0, bt272.2)))))) else (if x9 = true then ((pylonref01_signed.f k (x7 != 0) 0 x7).bind fun bt274 => (if bt274.2 = 0 then (some (bt274.1, wrap64 (x8), 0)) else (some (0, 0, bt274.2)))) else ((pylonref01_signed.f k false 0 x7).bind fun bt276 => (if bt276.2 = 0 then (some (bt276.1, wrap64 (x8), 0)) else (some (0, 0, bt276.2)))))
def pylonref01_Div.f (k : Nat) (a0 : Int) (a1 : Int) : Option (Int × Int × Int) := if a1 = 0 then (some (0, 0, 6)) else ((pylonref01_mag.f a0).bind fun t265 => ((pylonref01_mag.f a1).bind fun t266 => (if t266 = 0 then (none) else ((pylonref01_mag.f a0).bind fun t267 => ((pylonref01_mag.f a1).bind fun t268 => (if t268 = 0 then (none) else (if a0 < 0 then (pylonref01_Div.j0 k a1 (IntKind.u64.wrap (Int.tdiv t265 t266)) (Int.tmod t267 t268) (!((decide (a0 < 0)) == (decide (a1 < 0)))) ((Int.tmod t267 t268) != 0)) else (pylonref01_Div.j0 k a1 (IntKind.u64.wrap (Int.tdiv t265 t266)) (Int.tmod t267 t268) (!((decide (a0 < 0)) == (decide (a1 < 0)))) false))))))))
theorem pylonref01_Div.mono_l : ∀ k, (∀ y0 y1 y2 y3 y4, LeO (pylonref01_Div.j0 k y0 y1 y2 y3 y4) (pylonref01_Div.j0 (k + 1) y0 y1 y2 y3 y4))
  | 0 => fun _ _ _ _ _ r h => by simp [pylonref01_Div.j0] at h
  | k + 1 => by
    have ih0 := pylonref01_Div.mono_l k
    · intro y0 y1 y2 y3 y4
      unfold pylonref01_Div.j0
      repeat' first
      | (with_reducible exact ih0 _ _ _ _ _)
      | (with_reducible exact pylonref01_signed.mono _ _ _ _)
      | (with_reducible exact LeO.refl _)
      | (with_reducible exact LeO.none _)
      | (with_reducible refine LeO.ite ?_ ?_)
      | (with_reducible refine LeO.bind ?_ (fun _ => ?_))
      | exact ih0 _ _ _ _ _
      | exact pylonref01_signed.mono _ _ _ _
      | exact LeO.none _
      | refine LeO.ite ?_ ?_
      | refine LeO.bind ?_ (fun _ => ?_)
theorem pylonref01_Div.mono : ∀ a0 a1 k, LeO (pylonref01_Div.f k a0 a1) (pylonref01_Div.f (k + 1) a0 a1) := by
  intro a0 a1 k
  have ih0 := pylonref01_Div.mono_l k
  unfold pylonref01_Div.f
  repeat' first
      | (with_reducible exact ih0 _ _ _ _ _)
      | (with_reducible exact pylonref01_signed.mono _ _ _ _)
      | (with_reducible exact LeO.refl _)
      | (with_reducible exact LeO.none _)
      | (with_reducible refine LeO.ite ?_ ?_)
      | (with_reducible refine LeO.bind ?_ (fun _ => ?_))
      | exact ih0 _ _ _ _ _
      | exact pylonref01_signed.mono _ _ _ _
      | exact LeO.none _
      | refine LeO.ite ?_ ?_
      | refine LeO.bind ?_ (fun _ => ?_)
set_option maxHeartbeats 8000000 in
set_option maxRecDepth 100000 in
theorem pylonref01_Div.calls (k : Nat) (a0 : Int) (a1 : Int) (r1 : Int) (r2 : Int) (r3 : Int) (w : World) (h : pylonref01_Div.f k a0 a1 = some (r1, r2, r3)) :
    Calls Tryd.prog 41 #[.int .i64 a0, .int .i64 a1] w fun e w' => e = .returned (.tuple #[.int .i64 r1, .int .i64 r2, .int .i64 r3]) ∧ Drawn0 w w' := by
  have H : (if a1 = 0 then (some (0, 0, 6)) else ((pylonref01_mag.f a0).bind fun t265 => ((pylonref01_mag.f a1).bind fun t266 => (if t266 = 0 then (none) else ((pylonref01_mag.f a0).bind fun t267 => ((pylonref01_mag.f a1).bind fun t268 => (if t268 = 0 then (none) else (if a0 < 0 then (pylonref01_Div.j0 k a1 (IntKind.u64.wrap (Int.tdiv t265 t266)) (Int.tmod t267 t268) (!((decide (a0 < 0)) == (decide (a1 < 0)))) ((Int.tmod t267 t268) != 0)) else (pylonref01_Div.j0 k a1 (IntKind.u64.wrap (Int.tdiv t265 t266)) (Int.tmod t267 t268) (!((decide (a0 < 0)) == (decide (a1 < 0)))) false))))))))) = some (r1, r2, r3) := h
  clear h
  by_cases c3 : a1 = 0
  · rw [if_pos c3] at H
    have c3b0 : (a1 == 0) = true := beq_iff_eq.mpr c3
    have c3b1 : (a1 != 0) = false := bne_eq_false_iff_eq.mpr c3
    clear c3
    simp only [Option.some.injEq, Prod.mk.injEq] at H
    obtain ⟨rfl, rfl, rfl⟩ := H
    go_enter Tryd.func41, Tryd.ntmps41
    go_wp2
    repeat (go_quiet (fail); try go_wp2)
    go_ret3
    exact ⟨by first | rfl | (simp; done) | (simp [*]; done), by repeat (first | exact Drawn0.refl _ | apply Drawn0.step)⟩
  · rw [if_neg c3] at H
    have c3b0 : (a1 == 0) = false := beq_eq_false_iff_ne.mpr c3
    have c3b1 : (a1 != 0) = true := bne_iff_ne.mpr c3
    replace H := Option.bind_eq_some_iff.mp H
    obtain ⟨t265, A40, H⟩ := H
    replace H : ((pylonref01_mag.f a1).bind fun t266 => (if t266 = 0 then (none) else ((pylonref01_mag.f a0).bind fun t267 => ((pylonref01_mag.f a1).bind fun t268 => (if t268 = 0 then (none) else (if a0 < 0 then (pylonref01_Div.j0 k a1 (IntKind.u64.wrap (Int.tdiv t265 t266)) (Int.tmod t267 t268) (!((decide (a0 < 0)) == (decide (a1 < 0)))) ((Int.tmod t267 t268) != 0)) else (pylonref01_Div.j0 k a1 (IntKind.u64.wrap (Int.tdiv t265 t266)) (Int.tmod t267 t268) (!((decide (a0 < 0)) == (decide (a1 < 0)))) false))))))) = some (r1, r2, r3) := H
    have A4 := Aside0.mk A40
    clear A40
    replace H := Option.bind_eq_some_iff.mp H
    obtain ⟨t266, A50, H⟩ := H
    replace H : (if t266 = 0 then (none) else ((pylonref01_mag.f a0).bind fun t267 => ((pylonref01_mag.f a1).bind fun t268 => (if t268 = 0 then (none) else (if a0 < 0 then (pylonref01_Div.j0 k a1 (IntKind.u64.wrap (Int.tdiv t265 t266)) (Int.tmod t267 t268) (!((decide (a0 < 0)) == (decide (a1 < 0)))) ((Int.tmod t267 t268) != 0)) else (pylonref01_Div.j0 k a1 (IntKind.u64.wrap (Int.tdiv t265 t266)) (Int.tmod t267 t268) (!((decide (a0 < 0)) == (decide (a1 < 0)))) false)))))) = some (r1, r2, r3) := H
    have A5 := Aside0.mk A50
    clear A50
    by_cases c6 : t266 = 0
    · rw [if_pos c6] at H
      exact absurd H (by simp)
    · rw [if_neg c6] at H
      have c6b0 : (t266 == 0) = false := beq_eq_false_iff_ne.mpr c6
      have c6b1 : (t266 != 0) = true := bne_iff_ne.mpr c6
      replace H := Option.bind_eq_some_iff.mp H
      obtain ⟨t267, A70, H⟩ := H
      replace H : ((pylonref01_mag.f a1).bind fun t268 => (if t268 = 0 then (none) else (if a0 < 0 then (pylonref01_Div.j0 k a1 (IntKind.u64.wrap (Int.tdiv t265 t266)) (Int.tmod t267 t268) (!((decide (a0 < 0)) == (decide (a1 < 0)))) ((Int.tmod t267 t268) != 0)) else (pylonref01_Div.j0 k a1 (IntKind.u64.wrap (Int.tdiv t265 t266)) (Int.tmod t267 t268) (!((decide (a0 < 0)) == (decide (a1 < 0)))) false)))) = some (r1, r2, r3) := H
      have A7 := Aside0.mk A70
      have same_ : t265 = t267 := Option.some.inj (A4.out.symm.trans A7.out)
      subst same_
      clear A70
      replace H := Option.bind_eq_some_iff.mp H
      obtain ⟨t268, A80, H⟩ := H
      replace H : (if t268 = 0 then (none) else (if a0 < 0 then (pylonref01_Div.j0 k a1 (IntKind.u64.wrap (Int.tdiv t265 t266)) (Int.tmod t265 t268) (!((decide (a0 < 0)) == (decide (a1 < 0)))) ((Int.tmod t265 t268) != 0)) else (pylonref01_Div.j0 k a1 (IntKind.u64.wrap (Int.tdiv t265 t266)) (Int.tmod t265 t268) (!((decide (a0 < 0)) == (decide (a1 < 0)))) false))) = some (r1, r2, r3) := H
      have A8 := Aside0.mk A80
      have same_ : t266 = t268 := Option.some.inj (A5.out.symm.trans A8.out)
      subst same_
      clear A80
      by_cases c9 : t266 = 0
      · rw [if_pos c9] at H
        exact absurd H (by simp)
      · rw [if_neg c9] at H
        have c9b0 : (t266 == 0) = false := beq_eq_false_iff_ne.mpr c9
        have c9b1 : (t266 != 0) = true := bne_iff_ne.mpr c9
        have HC10 := Aside0.mk H
        clear H
        go_enter Tryd.func41, Tryd.ntmps41
        go_upto_region 5 with (first | (go_at_call 54; (with_reducible refine (pylonref01_mag.calls a0 t265 _ A4.out).mono ?_); rintro e w' ⟨rfl, ⟨nd, rfl⟩⟩; (try first | exact ⟨rfl, _, World.drewN_drewN _ _ _⟩ | exact ⟨rfl, _, Eq.trans (World.drewN_drewN _ _ _) (congrArg (World.drewN _) (Nat.add_assoc _ _ _))⟩)) | (go_at_call 54; (with_reducible refine (pylonref01_mag.calls a1 t266 _ A5.out).mono ?_); rintro e w' ⟨rfl, ⟨nd, rfl⟩⟩; (try first | exact ⟨rfl, _, World.drewN_drewN _ _ _⟩ | exact ⟨rfl, _, Eq.trans (World.drewN_drewN _ _ _) (congrArg (World.drewN _) (Nat.add_assoc _ _ _))⟩)) | (go_at_call 54; (with_reducible refine (pylonref01_mag.calls a0 t265 _ A7.out).mono ?_); rintro e w' ⟨rfl, ⟨nd, rfl⟩⟩; (try first | exact ⟨rfl, _, World.drewN_drewN _ _ _⟩ | exact ⟨rfl, _, Eq.trans (World.drewN_drewN _ _ _) (congrArg (World.drewN _) (Nat.add_assoc _ _ _))⟩)) | (go_at_call 54; (with_reducible refine (pylonref01_mag.calls a1 t266 _ A8.out).mono ?_); rintro e w' ⟨rfl, ⟨nd, rfl⟩⟩; (try first | exact ⟨rfl, _, World.drewN_drewN _ _ _⟩ | exact ⟨rfl, _, Eq.trans (World.drewN_drewN _ _ _) (congrArg (World.drewN _) (Nat.add_assoc _ _ _))⟩)))
        repeat (go_quiet (first | (go_at_call 54; (with_reducible refine (pylonref01_mag.calls a0 t265 _ A4.out).mono ?_); rintro e w' ⟨rfl, ⟨nd, rfl⟩⟩; (try first | exact ⟨rfl, _, World.drewN_drewN _ _ _⟩ | exact ⟨rfl, _, Eq.trans (World.drewN_drewN _ _ _) (congrArg (World.drewN _) (Nat.add_assoc _ _ _))⟩)) | (go_at_call 54; (with_reducible refine (pylonref01_mag.calls a1 t266 _ A5.out).mono ?_); rintro e w' ⟨rfl, ⟨nd, rfl⟩⟩; (try first | exact ⟨rfl, _, World.drewN_drewN _ _ _⟩ | exact ⟨rfl, _, Eq.trans (World.drewN_drewN _ _ _) (congrArg (World.drewN _) (Nat.add_assoc _ _ _))⟩)) | (go_at_call 54; (with_reducible refine (pylonref01_mag.calls a0 t265 _ A7.out).mono ?_); rintro e w' ⟨rfl, ⟨nd, rfl⟩⟩; (try first | exact ⟨rfl, _, World.drewN_drewN _ _ _⟩ | exact ⟨rfl, _, Eq.trans (World.drewN_drewN _ _ _) (congrArg (World.drewN _) (Nat.add_assoc _ _ _))⟩)) | (go_at_call 54; (with_reducible refine (pylonref01_mag.calls a1 t266 _ A8.out).mono ?_); rintro e w' ⟨rfl, ⟨nd, rfl⟩⟩; (try first | exact ⟨rfl, _, World.drewN_drewN _ _ _⟩ | exact ⟨rfl, _, Eq.trans (World.drewN_drewN _ _ _) (congrArg (World.drewN _) (Nat.add_assoc _ _ _))⟩))); go_upto_region 5 with (first | (go_at_call 54; (with_reducible refine (pylonref01_mag.calls a0 t265 _ A4.out).mono ?_); rintro e w' ⟨rfl, ⟨nd, rfl⟩⟩; (try first | exact ⟨rfl, _, World.drewN_drewN _ _ _⟩ | exact ⟨rfl, _, Eq.trans (World.drewN_drewN _ _ _) (congrArg (World.drewN _) (Nat.add_assoc _ _ _))⟩)) | (go_at_call 54; (with_reducible refine (pylonref01_mag.calls a1 t266 _ A5.out).mono ?_); rintro e w' ⟨rfl, ⟨nd, rfl⟩⟩; (try first | exact ⟨rfl, _, World.drewN_drewN _ _ _⟩ | exact ⟨rfl, _, Eq.trans (World.drewN_drewN _ _ _) (congrArg (World.drewN _) (Nat.add_assoc _ _ _))⟩)) | (go_at_call 54; (with_reducible refine (pylonref01_mag.calls a0 t265 _ A7.out).mono ?_); rintro e w' ⟨rfl, ⟨nd, rfl⟩⟩; (try first | exact ⟨rfl, _, World.drewN_drewN _ _ _⟩ | exact ⟨rfl, _, Eq.trans (World.drewN_drewN _ _ _) (congrArg (World.drewN _) (Nat.add_assoc _ _ _))⟩)) | (go_at_call 54; (with_reducible refine (pylonref01_mag.calls a1 t266 _ A8.out).mono ?_); rintro e w' ⟨rfl, ⟨nd, rfl⟩⟩; (try first | exact ⟨rfl, _, World.drewN_drewN _ _ _⟩ | exact ⟨rfl, _, Eq.trans (World.drewN_drewN _ _ _) (congrArg (World.drewN _) (Nat.add_assoc _ _ _))⟩))))
        (try simp only [Act.put, List.setIfInBounds_toArray, List.set_cons_zero, List.set_cons_succ])
        go_cut [9, 34] (fun v9 v34 wc => ∃ (kq : Nat) (x9_9 : Bool) (x34_9 : Bool), v9 = .bool x9_9 ∧ v34 = .bool x34_9 ∧ Aside0 (pylonref01_Div.j0 kq a1 (IntKind.u64.wrap (Int.tdiv t265 t266)) (Int.tmod t265 t266) x9_9 x34_9 = some (r1, r2, r3)) ∧ Aside0 (kq ≤ k) ∧ Drawn0 w wc)
        case first =>
          have H := HC10.out
          clear HC10
          by_cases c11 : a0 < 0
          · rw [if_pos c11] at H
            have c11b0 : decide (a0 < 0) = true := decide_eq_true c11
            clear c11
            (first | rw [c11b0] | (simp only [i64_w, i32_w]; rw [c11b0]) | skip)
            have H' := Aside0.mk H
            clear H
            go_wp2
            repeat (go_quiet (fail); try go_wp2)
            go_meet
            case rel => exact ⟨_, ((!((decide (a0 < 0)) == (decide (a1 < 0))))), (((Int.tmod t265 t266) != 0)), (by first | rfl | (simp; done) | (simp [*]; done) | (by_cases hdp0_ : a0 < 0 <;> by_cases hdp1_ : a1 < 0 <;> simp [*] <;> done)), (by first | rfl | (simp; done) | (simp [*]; done)), H', ⟨by first | omega | exact Nat.le_refl _⟩, by repeat (first | exact Drawn0.refl _ | apply Drawn0.step)⟩
          · rw [if_neg c11] at H
            have c11b0 : decide (a0 < 0) = false := decide_eq_false c11
            clear c11
            (first | rw [c11b0] | (simp only [i64_w, i32_w]; rw [c11b0]) | skip)
            have H' := Aside0.mk H
            clear H
            go_wp2
            repeat (go_quiet (fail); try go_wp2)
            go_meet
            case rel => exact ⟨_, ((!((decide (a0 < 0)) == (decide (a1 < 0))))), (false), (by first | rfl | (simp; done) | (simp [*]; done) | (by_cases hdp0_ : a0 < 0 <;> by_cases hdp1_ : a1 < 0 <;> simp [*] <;> done)), (by first | rfl | (simp; done) | (simp [*]; done)), H', ⟨by first | omega | exact Nat.le_refl _⟩, by repeat (first | exact Drawn0.refl _ | apply Drawn0.step)⟩
        case rest =>
          clear HC10
          try clear c1
          try clear p1
          try clear p2
          try clear c3
          try clear c3b0
          try clear c3b1
          try clear c4
          try clear c6
          try clear c6b0
          try clear c6b1
          try clear c9
          try clear c9b0
          try clear c9b1
          try clear c11
          try clear c11b0
          obtain ⟨kq, x9_9, x34_9, rfl, rfl, HA, HJ9, ⟨mc9, rfl⟩⟩ := hcut
          cases kq with
          | zero => exact absurd HA.out (by simp [pylonref01_Div.j0])
          | succ kj9 =>
            have H := HA.out
            clear HA
            simp only [pylonref01_Div.j0] at H
            by_cases c12 : x34_9 = true
            · subst c12
              have H1 : ((pylonref01_mag.f a1).bind fun t269 => (if x9_9 = true then ((pylonref01_signed.f kj9 ((IntKind.u64.wrap ((IntKind.u64.wrap (Int.tdiv t265 t266)) + 1)) != 0) 0 (IntKind.u64.wrap ((IntKind.u64.wrap (Int.tdiv t265 t266)) + 1))).bind fun bt270 => (if bt270.2 = 0 then (some (bt270.1, wrap64 (IntKind.u64.wrap (t269 - (Int.tmod t265 t266))), 0)) else (some (0, 0, bt270.2)))) else ((pylonref01_signed.f kj9 false 0 (IntKind.u64.wrap ((IntKind.u64.wrap (Int.tdiv t265 t266)) + 1))).bind fun bt272 => (if bt272.2 = 0 then (some (bt272.1, wrap64 (IntKind.u64.wrap (t269 - (Int.tmod t265 t266))), 0)) else (some (0, 0, bt272.2)))))) = some (r1, r2, r3) := by rw [if_pos rfl] at H; exact H
              clear H
              have H := H1
              clear H1
              replace H := Option.bind_eq_some_iff.mp H
              obtain ⟨t269, A130, H⟩ := H
              replace H : (if x9_9 = true then ((pylonref01_signed.f kj9 ((IntKind.u64.wrap ((IntKind.u64.wrap (Int.tdiv t265 t266)) + 1)) != 0) 0 (IntKind.u64.wrap ((IntKind.u64.wrap (Int.tdiv t265 t266)) + 1))).bind fun bt270 => (if bt270.2 = 0 then (some (bt270.1, wrap64 (IntKind.u64.wrap (t269 - (Int.tmod t265 t266))), 0)) else (some (0, 0, bt270.2)))) else ((pylonref01_signed.f kj9 false 0 (IntKind.u64.wrap ((IntKind.u64.wrap (Int.tdiv t265 t266)) + 1))).bind fun bt272 => (if bt272.2 = 0 then (some (bt272.1, wrap64 (IntKind.u64.wrap (t269 - (Int.tmod t265 t266))), 0)) else (some (0, 0, bt272.2))))) = some (r1, r2, r3) := H
              have A13 := Aside0.mk A130
              clear A130
              by_cases c14 : x9_9 = true
              · subst c14
                have H1 : ((pylonref01_signed.f kj9 ((IntKind.u64.wrap ((IntKind.u64.wrap (Int.tdiv t265 t266)) + 1)) != 0) 0 (IntKind.u64.wrap ((IntKind.u64.wrap (Int.tdiv t265 t266)) + 1))).bind fun bt270 => (if bt270.2 = 0 then (some (bt270.1, wrap64 (IntKind.u64.wrap (t269 - (Int.tmod t265 t266))), 0)) else (some (0, 0, bt270.2)))) = some (r1, r2, r3) := by rw [if_pos rfl] at H; exact H
                clear H
                have H := H1
                clear H1
                replace H := Option.bind_eq_some_iff.mp H
                obtain ⟨⟨t270, t271⟩, A150, H⟩ := H
                replace H : (if t271 = 0 then (some (t270, wrap64 (IntKind.u64.wrap (t269 - (Int.tmod t265 t266))), 0)) else (some (0, 0, t271))) = some (r1, r2, r3) := H
                have A15 := Aside0.mk A150
                clear A150
                by_cases c16 : t271 = 0
                · rw [if_pos c16] at H
                  have c16b0 : (t271 == 0) = true := beq_iff_eq.mpr c16
                  have c16b1 : (t271 != 0) = false := bne_eq_false_iff_eq.mpr c16
                  clear c16
                  simp only [Option.some.injEq, Prod.mk.injEq] at H
                  obtain ⟨rfl, rfl, rfl⟩ := H
                  go_wp2_with (first | (go_at_call 54; (with_reducible refine (pylonref01_mag.calls a1 t269 _ A13.out).mono ?_); rintro e w' ⟨rfl, ⟨nd, rfl⟩⟩; (try first | exact ⟨rfl, _, World.drewN_drewN _ _ _⟩ | exact ⟨rfl, _, Eq.trans (World.drewN_drewN _ _ _) (congrArg (World.drewN _) (Nat.add_assoc _ _ _))⟩)) | (go_at_call 55; (with_reducible refine (pylonref01_signed.calls kj9 ((IntKind.u64.wrap ((IntKind.u64.wrap (Int.tdiv t265 t266)) + 1)) != 0) 0 (IntKind.u64.wrap ((IntKind.u64.wrap (Int.tdiv t265 t266)) + 1)) t270 t271 _ A15.out).mono ?_); rintro e w' ⟨rfl, ⟨nd, rfl⟩⟩; (try first | exact ⟨rfl, _, World.drewN_drewN _ _ _⟩ | exact ⟨rfl, _, Eq.trans (World.drewN_drewN _ _ _) (congrArg (World.drewN _) (Nat.add_assoc _ _ _))⟩)))
                  repeat (go_quiet (first | (go_at_call 54; (with_reducible refine (pylonref01_mag.calls a1 t269 _ A13.out).mono ?_); rintro e w' ⟨rfl, ⟨nd, rfl⟩⟩; (try first | exact ⟨rfl, _, World.drewN_drewN _ _ _⟩ | exact ⟨rfl, _, Eq.trans (World.drewN_drewN _ _ _) (congrArg (World.drewN _) (Nat.add_assoc _ _ _))⟩)) | (go_at_call 55; (with_reducible refine (pylonref01_signed.calls kj9 ((IntKind.u64.wrap ((IntKind.u64.wrap (Int.tdiv t265 t266)) + 1)) != 0) 0 (IntKind.u64.wrap ((IntKind.u64.wrap (Int.tdiv t265 t266)) + 1)) t270 t271 _ A15.out).mono ?_); rintro e w' ⟨rfl, ⟨nd, rfl⟩⟩; (try first | exact ⟨rfl, _, World.drewN_drewN _ _ _⟩ | exact ⟨rfl, _, Eq.trans (World.drewN_drewN _ _ _) (congrArg (World.drewN _) (Nat.add_assoc _ _ _))⟩))); try go_wp2_with (first | (go_at_call 54; (with_reducible refine (pylonref01_mag.calls a1 t269 _ A13.out).mono ?_); rintro e w' ⟨rfl, ⟨nd, rfl⟩⟩; (try first | exact ⟨rfl, _, World.drewN_drewN _ _ _⟩ | exact ⟨rfl, _, Eq.trans (World.drewN_drewN _ _ _) (congrArg (World.drewN _) (Nat.add_assoc _ _ _))⟩)) | (go_at_call 55; (with_reducible refine (pylonref01_signed.calls kj9 ((IntKind.u64.wrap ((IntKind.u64.wrap (Int.tdiv t265 t266)) + 1)) != 0) 0 (IntKind.u64.wrap ((IntKind.u64.wrap (Int.tdiv t265 t266)) + 1)) t270 t271 _ A15.out).mono ?_); rintro e w' ⟨rfl, ⟨nd, rfl⟩⟩; (try first | exact ⟨rfl, _, World.drewN_drewN _ _ _⟩ | exact ⟨rfl, _, Eq.trans (World.drewN_drewN _ _ _) (congrArg (World.drewN _) (Nat.add_assoc _ _ _))⟩))))
                  go_ret3
                  exact ⟨by first | rfl | (simp; done) | (simp [*]; done), by repeat (first | exact Drawn0.refl _ | apply Drawn0.step)⟩
                · rw [if_neg c16] at H
                  have c16b0 : (t271 == 0) = false := beq_eq_false_iff_ne.mpr c16
                  have c16b1 : (t271 != 0) = true := bne_iff_ne.mpr c16
                  simp only [Option.some.injEq, Prod.mk.injEq] at H
                  obtain ⟨rfl, rfl, rfl⟩ := H
                  go_wp2_with (first | (go_at_call 54; (with_reducible refine (pylonref01_mag.calls a1 t269 _ A13.out).mono ?_); rintro e w' ⟨rfl, ⟨nd, rfl⟩⟩; (try first | exact ⟨rfl, _, World.drewN_drewN _ _ _⟩ | exact ⟨rfl, _, Eq.trans (World.drewN_drewN _ _ _) (congrArg (World.drewN _) (Nat.add_assoc _ _ _))⟩)) | (go_at_call 55; (with_reducible refine (pylonref01_signed.calls kj9 ((IntKind.u64.wrap ((IntKind.u64.wrap (Int.tdiv t265 t266)) + 1)) != 0) 0 (IntKind.u64.wrap ((IntKind.u64.wrap (Int.tdiv t265 t266)) + 1)) t270 t271 _ A15.out).mono ?_); rintro e w' ⟨rfl, ⟨nd, rfl⟩⟩; (try first | exact ⟨rfl, _, World.drewN_drewN _ _ _⟩ | exact ⟨rfl, _, Eq.trans (World.drewN_drewN _ _ _) (congrArg (World.drewN _) (Nat.add_assoc _ _ _))⟩)))
                  repeat (go_quiet (first | (go_at_call 54; (with_reducible refine (pylonref01_mag.calls a1 t269 _ A13.out).mono ?_); rintro e w' ⟨rfl, ⟨nd, rfl⟩⟩; (try first | exact ⟨rfl, _, World.drewN_drewN _ _ _⟩ | exact ⟨rfl, _, Eq.trans (World.drewN_drewN _ _ _) (congrArg (World.drewN _) (Nat.add_assoc _ _ _))⟩)) | (go_at_call 55; (with_reducible refine (pylonref01_signed.calls kj9 ((IntKind.u64.wrap ((IntKind.u64.wrap (Int.tdiv t265 t266)) + 1)) != 0) 0 (IntKind.u64.wrap ((IntKind.u64.wrap (Int.tdiv t265 t266)) + 1)) t270 t271 _ A15.out).mono ?_); rintro e w' ⟨rfl, ⟨nd, rfl⟩⟩; (try first | exact ⟨rfl, _, World.drewN_drewN _ _ _⟩ | exact ⟨rfl, _, Eq.trans (World.drewN_drewN _ _ _) (congrArg (World.drewN _) (Nat.add_assoc _ _ _))⟩))); try go_wp2_with (first | (go_at_call 54; (with_reducible refine (pylonref01_mag.calls a1 t269 _ A13.out).mono ?_); rintro e w' ⟨rfl, ⟨nd, rfl⟩⟩; (try first | exact ⟨rfl, _, World.drewN_drewN _ _ _⟩ | exact ⟨rfl, _, Eq.trans (World.drewN_drewN _ _ _) (congrArg (World.drewN _) (Nat.add_assoc _ _ _))⟩)) | (go_at_call 55; (with_reducible refine (pylonref01_signed.calls kj9 ((IntKind.u64.wrap ((IntKind.u64.wrap (Int.tdiv t265 t266)) + 1)) != 0) 0 (IntKind.u64.wrap ((IntKind.u64.wrap (Int.tdiv t265 t266)) + 1)) t270 t271 _ A15.out).mono ?_); rintro e w' ⟨rfl, ⟨nd, rfl⟩⟩; (try first | exact ⟨rfl, _, World.drewN_drewN _ _ _⟩ | exact ⟨rfl, _, Eq.trans (World.drewN_drewN _ _ _) (congrArg (World.drewN _) (Nat.add_assoc _ _ _))⟩))))
                  go_ret3
                  exact ⟨by first | rfl | (simp; done) | (simp [*]; done), by repeat (first | exact Drawn0.refl _ | apply Drawn0.step)⟩
              · replace c14 := Bool.eq_false_iff.mpr c14
                subst c14
                have H1 : ((pylonref01_signed.f kj9 false 0 (IntKind.u64.wrap ((IntKind.u64.wrap (Int.tdiv t265 t266)) + 1))).bind fun bt272 => (if bt272.2 = 0 then (some (bt272.1, wrap64 (IntKind.u64.wrap (t269 - (Int.tmod t265 t266))), 0)) else (some (0, 0, bt272.2)))) = some (r1, r2, r3) := by rw [if_neg (show ¬ (false = true) by decide)] at H; exact H
                clear H
                have H := H1
                clear H1
                replace H := Option.bind_eq_some_iff.mp H
                obtain ⟨⟨t272, t273⟩, A170, H⟩ := H
                replace H : (if t273 = 0 then (some (t272, wrap64 (IntKind.u64.wrap (t269 - (Int.tmod t265 t266))), 0)) else (some (0, 0, t273))) = some (r1, r2, r3) := H
                have A17 := Aside0.mk A170
                clear A170
                by_cases c18 : t273 = 0
                · rw [if_pos c18] at H
                  have c18b0 : (t273 == 0) = true := beq_iff_eq.mpr c18
                  have c18b1 : (t273 != 0) = false := bne_eq_false_iff_eq.mpr c18
                  clear c18
                  simp only [Option.some.injEq, Prod.mk.injEq] at H
                  obtain ⟨rfl, rfl, rfl⟩ := H
                  go_wp2_with (first | (go_at_call 54; (with_reducible refine (pylonref01_mag.calls a1 t269 _ A13.out).mono ?_); rintro e w' ⟨rfl, ⟨nd, rfl⟩⟩; (try first | exact ⟨rfl, _, World.drewN_drewN _ _ _⟩ | exact ⟨rfl, _, Eq.trans (World.drewN_drewN _ _ _) (congrArg (World.drewN _) (Nat.add_assoc _ _ _))⟩)) | (go_at_call 55; (with_reducible refine (pylonref01_signed.calls kj9 false 0 (IntKind.u64.wrap ((IntKind.u64.wrap (Int.tdiv t265 t266)) + 1)) t272 t273 _ A17.out).mono ?_); rintro e w' ⟨rfl, ⟨nd, rfl⟩⟩; (try first | exact ⟨rfl, _, World.drewN_drewN _ _ _⟩ | exact ⟨rfl, _, Eq.trans (World.drewN_drewN _ _ _) (congrArg (World.drewN _) (Nat.add_assoc _ _ _))⟩)))
                  repeat (go_quiet (first | (go_at_call 54; (with_reducible refine (pylonref01_mag.calls a1 t269 _ A13.out).mono ?_); rintro e w' ⟨rfl, ⟨nd, rfl⟩⟩; (try first | exact ⟨rfl, _, World.drewN_drewN _ _ _⟩ | exact ⟨rfl, _, Eq.trans (World.drewN_drewN _ _ _) (congrArg (World.drewN _) (Nat.add_assoc _ _ _))⟩)) | (go_at_call 55; (with_reducible refine (pylonref01_signed.calls kj9 false 0 (IntKind.u64.wrap ((IntKind.u64.wrap (Int.tdiv t265 t266)) + 1)) t272 t273 _ A17.out).mono ?_); rintro e w' ⟨rfl, ⟨nd, rfl⟩⟩; (try first | exact ⟨rfl, _, World.drewN_drewN _ _ _⟩ | exact ⟨rfl, _, Eq.trans (World.drewN_drewN _ _ _) (congrArg (World.drewN _) (Nat.add_assoc _ _ _))⟩))); try go_wp2_with (first | (go_at_call 54; (with_reducible refine (pylonref01_mag.calls a1 t269 _ A13.out).mono ?_); rintro e w' ⟨rfl, ⟨nd, rfl⟩⟩; (try first | exact ⟨rfl, _, World.drewN_drewN _ _ _⟩ | exact ⟨rfl, _, Eq.trans (World.drewN_drewN _ _ _) (congrArg (World.drewN _) (Nat.add_assoc _ _ _))⟩)) | (go_at_call 55; (with_reducible refine (pylonref01_signed.calls kj9 false 0 (IntKind.u64.wrap ((IntKind.u64.wrap (Int.tdiv t265 t266)) + 1)) t272 t273 _ A17.out).mono ?_); rintro e w' ⟨rfl, ⟨nd, rfl⟩⟩; (try first | exact ⟨rfl, _, World.drewN_drewN _ _ _⟩ | exact ⟨rfl, _, Eq.trans (World.drewN_drewN _ _ _) (congrArg (World.drewN _) (Nat.add_assoc _ _ _))⟩))))
                  go_ret3
                  exact ⟨by first | rfl | (simp; done) | (simp [*]; done), by repeat (first | exact Drawn0.refl _ | apply Drawn0.step)⟩
                · rw [if_neg c18] at H
                  have c18b0 : (t273 == 0) = false := beq_eq_false_iff_ne.mpr c18
                  have c18b1 : (t273 != 0) = true := bne_iff_ne.mpr c18
                  simp only [Option.some.injEq, Prod.mk.injEq] at H
                  obtain ⟨rfl, rfl, rfl⟩ := H
                  go_wp2_with (first | (go_at_call 54; (with_reducible refine (pylonref01_mag.calls a1 t269 _ A13.out).mono ?_); rintro e w' ⟨rfl, ⟨nd, rfl⟩⟩; (try first | exact ⟨rfl, _, World.drewN_drewN _ _ _⟩ | exact ⟨rfl, _, Eq.trans (World.drewN_drewN _ _ _) (congrArg (World.drewN _) (Nat.add_assoc _ _ _))⟩)) | (go_at_call 55; (with_reducible refine (pylonref01_signed.calls kj9 false 0 (IntKind.u64.wrap ((IntKind.u64.wrap (Int.tdiv t265 t266)) + 1)) t272 t273 _ A17.out).mono ?_); rintro e w' ⟨rfl, ⟨nd, rfl⟩⟩; (try first | exact ⟨rfl, _, World.drewN_drewN _ _ _⟩ | exact ⟨rfl, _, Eq.trans (World.drewN_drewN _ _ _) (congrArg (World.drewN _) (Nat.add_assoc _ _ _))⟩)))
                  repeat (go_quiet (first | (go_at_call 54; (with_reducible refine (pylonref01_mag.calls a1 t269 _ A13.out).mono ?_); rintro e w' ⟨rfl, ⟨nd, rfl⟩⟩; (try first | exact ⟨rfl, _, World.drewN_drewN _ _ _⟩ | exact ⟨rfl, _, Eq.trans (World.drewN_drewN _ _ _) (congrArg (World.drewN _) (Nat.add_assoc _ _ _))⟩)) | (go_at_call 55; (with_reducible refine (pylonref01_signed.calls kj9 false 0 (IntKind.u64.wrap ((IntKind.u64.wrap (Int.tdiv t265 t266)) + 1)) t272 t273 _ A17.out).mono ?_); rintro e w' ⟨rfl, ⟨nd, rfl⟩⟩; (try first | exact ⟨rfl, _, World.drewN_drewN _ _ _⟩ | exact ⟨rfl, _, Eq.trans (World.drewN_drewN _ _ _) (congrArg (World.drewN _) (Nat.add_assoc _ _ _))⟩))); try go_wp2_with (first | (go_at_call 54; (with_reducible refine (pylonref01_mag.calls a1 t269 _ A13.out).mono ?_); rintro e w' ⟨rfl, ⟨nd, rfl⟩⟩; (try first | exact ⟨rfl, _, World.drewN_drewN _ _ _⟩ | exact ⟨rfl, _, Eq.trans (World.drewN_drewN _ _ _) (congrArg (World.drewN _) (Nat.add_assoc _ _ _))⟩)) | (go_at_call 55; (with_reducible refine (pylonref01_signed.calls kj9 false 0 (IntKind.u64.wrap ((IntKind.u64.wrap (Int.tdiv t265 t266)) + 1)) t272 t273 _ A17.out).mono ?_); rintro e w' ⟨rfl, ⟨nd, rfl⟩⟩; (try first | exact ⟨rfl, _, World.drewN_drewN _ _ _⟩ | exact ⟨rfl, _, Eq.trans (World.drewN_drewN _ _ _) (congrArg (World.drewN _) (Nat.add_assoc _ _ _))⟩))))
                  go_ret3
                  exact ⟨by first | rfl | (simp; done) | (simp [*]; done), by repeat (first | exact Drawn0.refl _ | apply Drawn0.step)⟩
            · replace c12 := Bool.eq_false_iff.mpr c12
              subst c12
              have H1 : (if x9_9 = true then ((pylonref01_signed.f kj9 ((IntKind.u64.wrap (Int.tdiv t265 t266)) != 0) 0 (IntKind.u64.wrap (Int.tdiv t265 t266))).bind fun bt274 => (if bt274.2 = 0 then (some (bt274.1, wrap64 ((Int.tmod t265 t266)), 0)) else (some (0, 0, bt274.2)))) else ((pylonref01_signed.f kj9 false 0 (IntKind.u64.wrap (Int.tdiv t265 t266))).bind fun bt276 => (if bt276.2 = 0 then (some (bt276.1, wrap64 ((Int.tmod t265 t266)), 0)) else (some (0, 0, bt276.2))))) = some (r1, r2, r3) := by rw [if_neg (show ¬ (false = true) by decide)] at H; exact H
              clear H
              have H := H1
              clear H1
              by_cases c19 : x9_9 = true
              · subst c19
                have H1 : ((pylonref01_signed.f kj9 ((IntKind.u64.wrap (Int.tdiv t265 t266)) != 0) 0 (IntKind.u64.wrap (Int.tdiv t265 t266))).bind fun bt274 => (if bt274.2 = 0 then (some (bt274.1, wrap64 ((Int.tmod t265 t266)), 0)) else (some (0, 0, bt274.2)))) = some (r1, r2, r3) := by rw [if_pos rfl] at H; exact H
                clear H
                have H := H1
                clear H1
                replace H := Option.bind_eq_some_iff.mp H
                obtain ⟨⟨t274, t275⟩, A200, H⟩ := H
                replace H : (if t275 = 0 then (some (t274, wrap64 ((Int.tmod t265 t266)), 0)) else (some (0, 0, t275))) = some (r1, r2, r3) := H
                have A20 := Aside0.mk A200
                clear A200
                by_cases c21 : t275 = 0
                · rw [if_pos c21] at H
                  have c21b0 : (t275 == 0) = true := beq_iff_eq.mpr c21
                  have c21b1 : (t275 != 0) = false := bne_eq_false_iff_eq.mpr c21
                  clear c21
                  simp only [Option.some.injEq, Prod.mk.injEq] at H
                  obtain ⟨rfl, rfl, rfl⟩ := H
                  go_wp2_with (first | (go_at_call 55; (with_reducible refine (pylonref01_signed.calls kj9 ((IntKind.u64.wrap (Int.tdiv t265 t266)) != 0) 0 (IntKind.u64.wrap (Int.tdiv t265 t266)) t274 t275 _ A20.out).mono ?_); rintro e w' ⟨rfl, ⟨nd, rfl⟩⟩; (try first | exact ⟨rfl, _, World.drewN_drewN _ _ _⟩ | exact ⟨rfl, _, Eq.trans (World.drewN_drewN _ _ _) (congrArg (World.drewN _) (Nat.add_assoc _ _ _))⟩)))
                  repeat (go_quiet (first | (go_at_call 55; (with_reducible refine (pylonref01_signed.calls kj9 ((IntKind.u64.wrap (Int.tdiv t265 t266)) != 0) 0 (IntKind.u64.wrap (Int.tdiv t265 t266)) t274 t275 _ A20.out).mono ?_); rintro e w' ⟨rfl, ⟨nd, rfl⟩⟩; (try first | exact ⟨rfl, _, World.drewN_drewN _ _ _⟩ | exact ⟨rfl, _, Eq.trans (World.drewN_drewN _ _ _) (congrArg (World.drewN _) (Nat.add_assoc _ _ _))⟩))); try go_wp2_with (first | (go_at_call 55; (with_reducible refine (pylonref01_signed.calls kj9 ((IntKind.u64.wrap (Int.tdiv t265 t266)) != 0) 0 (IntKind.u64.wrap (Int.tdiv t265 t266)) t274 t275 _ A20.out).mono ?_); rintro e w' ⟨rfl, ⟨nd, rfl⟩⟩; (try first | exact ⟨rfl, _, World.drewN_drewN _ _ _⟩ | exact ⟨rfl, _, Eq.trans (World.drewN_drewN _ _ _) (congrArg (World.drewN _) (Nat.add_assoc _ _ _))⟩))))
                  go_ret3
                  exact ⟨by first | rfl | (simp; done) | (simp [*]; done), by repeat (first | exact Drawn0.refl _ | apply Drawn0.step)⟩
                · rw [if_neg c21] at H
                  have c21b0 : (t275 == 0) = false := beq_eq_false_iff_ne.mpr c21
                  have c21b1 : (t275 != 0) = true := bne_iff_ne.mpr c21
                  simp only [Option.some.injEq, Prod.mk.injEq] at H
                  obtain ⟨rfl, rfl, rfl⟩ := H
                  go_wp2_with (first | (go_at_call 55; (with_reducible refine (pylonref01_signed.calls kj9 ((IntKind.u64.wrap (Int.tdiv t265 t266)) != 0) 0 (IntKind.u64.wrap (Int.tdiv t265 t266)) t274 t275 _ A20.out).mono ?_); rintro e w' ⟨rfl, ⟨nd, rfl⟩⟩; (try first | exact ⟨rfl, _, World.drewN_drewN _ _ _⟩ | exact ⟨rfl, _, Eq.trans (World.drewN_drewN _ _ _) (congrArg (World.drewN _) (Nat.add_assoc _ _ _))⟩)))
                  repeat (go_quiet (first | (go_at_call 55; (with_reducible refine (pylonref01_signed.calls kj9 ((IntKind.u64.wrap (Int.tdiv t265 t266)) != 0) 0 (IntKind.u64.wrap (Int.tdiv t265 t266)) t274 t275 _ A20.out).mono ?_); rintro e w' ⟨rfl, ⟨nd, rfl⟩⟩; (try first | exact ⟨rfl, _, World.drewN_drewN _ _ _⟩ | exact ⟨rfl, _, Eq.trans (World.drewN_drewN _ _ _) (congrArg (World.drewN _) (Nat.add_assoc _ _ _))⟩))); try go_wp2_with (first | (go_at_call 55; (with_reducible refine (pylonref01_signed.calls kj9 ((IntKind.u64.wrap (Int.tdiv t265 t266)) != 0) 0 (IntKind.u64.wrap (Int.tdiv t265 t266)) t274 t275 _ A20.out).mono ?_); rintro e w' ⟨rfl, ⟨nd, rfl⟩⟩; (try first | exact ⟨rfl, _, World.drewN_drewN _ _ _⟩ | exact ⟨rfl, _, Eq.trans (World.drewN_drewN _ _ _) (congrArg (World.drewN _) (Nat.add_assoc _ _ _))⟩))))
                  go_ret3
                  exact ⟨by first | rfl | (simp; done) | (simp [*]; done), by repeat (first | exact Drawn0.refl _ | apply Drawn0.step)⟩
              · replace c19 := Bool.eq_false_iff.mpr c19
                subst c19
                have H1 : ((pylonref01_signed.f kj9 false 0 (IntKind.u64.wrap (Int.tdiv t265 t266))).bind fun bt276 => (if bt276.2 = 0 then (some (bt276.1, wrap64 ((Int.tmod t265 t266)), 0)) else (some (0, 0, bt276.2)))) = some (r1, r2, r3) := by rw [if_neg (show ¬ (false = true) by decide)] at H; exact H
                clear H
                have H := H1
                clear H1
                replace H := Option.bind_eq_some_iff.mp H
                obtain ⟨⟨t276, t277⟩, A220, H⟩ := H
                replace H : (if t277 = 0 then (some (t276, wrap64 ((Int.tmod t265 t266)), 0)) else (some (0, 0, t277))) = some (r1, r2, r3) := H
                have A22 := Aside0.mk A220
                clear A220
                by_cases c23 : t277 = 0
                · rw [if_pos c23] at H
                  have c23b0 : (t277 == 0) = true := beq_iff_eq.mpr c23
                  have c23b1 : (t277 != 0) = false := bne_eq_false_iff_eq.mpr c23
                  clear c23
                  simp only [Option.some.injEq, Prod.mk.injEq] at H
                  obtain ⟨rfl, rfl, rfl⟩ := H
                  go_wp2_with (first | (go_at_call 55; (with_reducible refine (pylonref01_signed.calls kj9 false 0 (IntKind.u64.wrap (Int.tdiv t265 t266)) t276 t277 _ A22.out).mono ?_); rintro e w' ⟨rfl, ⟨nd, rfl⟩⟩; (try first | exact ⟨rfl, _, World.drewN_drewN _ _ _⟩ | exact ⟨rfl, _, Eq.trans (World.drewN_drewN _ _ _) (congrArg (World.drewN _) (Nat.add_assoc _ _ _))⟩)))
                  repeat (go_quiet (first | (go_at_call 55; (with_reducible refine (pylonref01_signed.calls kj9 false 0 (IntKind.u64.wrap (Int.tdiv t265 t266)) t276 t277 _ A22.out).mono ?_); rintro e w' ⟨rfl, ⟨nd, rfl⟩⟩; (try first | exact ⟨rfl, _, World.drewN_drewN _ _ _⟩ | exact ⟨rfl, _, Eq.trans (World.drewN_drewN _ _ _) (congrArg (World.drewN _) (Nat.add_assoc _ _ _))⟩))); try go_wp2_with (first | (go_at_call 55; (with_reducible refine (pylonref01_signed.calls kj9 false 0 (IntKind.u64.wrap (Int.tdiv t265 t266)) t276 t277 _ A22.out).mono ?_); rintro e w' ⟨rfl, ⟨nd, rfl⟩⟩; (try first | exact ⟨rfl, _, World.drewN_drewN _ _ _⟩ | exact ⟨rfl, _, Eq.trans (World.drewN_drewN _ _ _) (congrArg (World.drewN _) (Nat.add_assoc _ _ _))⟩))))
                  go_ret3
                  exact ⟨by first | rfl | (simp; done) | (simp [*]; done), by repeat (first | exact Drawn0.refl _ | apply Drawn0.step)⟩
                · rw [if_neg c23] at H
                  have c23b0 : (t277 == 0) = false := beq_eq_false_iff_ne.mpr c23
                  have c23b1 : (t277 != 0) = true := bne_iff_ne.mpr c23
                  simp only [Option.some.injEq, Prod.mk.injEq] at H
                  obtain ⟨rfl, rfl, rfl⟩ := H
                  go_wp2_with (first | (go_at_call 55; (with_reducible refine (pylonref01_signed.calls kj9 false 0 (IntKind.u64.wrap (Int.tdiv t265 t266)) t276 t277 _ A22.out).mono ?_); rintro e w' ⟨rfl, ⟨nd, rfl⟩⟩; (try first | exact ⟨rfl, _, World.drewN_drewN _ _ _⟩ | exact ⟨rfl, _, Eq.trans (World.drewN_drewN _ _ _) (congrArg (World.drewN _) (Nat.add_assoc _ _ _))⟩)))
                  repeat (go_quiet (first | (go_at_call 55; (with_reducible refine (pylonref01_signed.calls kj9 false 0 (IntKind.u64.wrap (Int.tdiv t265 t266)) t276 t277 _ A22.out).mono ?_); rintro e w' ⟨rfl, ⟨nd, rfl⟩⟩; (try first | exact ⟨rfl, _, World.drewN_drewN _ _ _⟩ | exact ⟨rfl, _, Eq.trans (World.drewN_drewN _ _ _) (congrArg (World.drewN _) (Nat.add_assoc _ _ _))⟩))); try go_wp2_with (first | (go_at_call 55; (with_reducible refine (pylonref01_signed.calls kj9 false 0 (IntKind.u64.wrap (Int.tdiv t265 t266)) t276 t277 _ A22.out).mono ?_); rintro e w' ⟨rfl, ⟨nd, rfl⟩⟩; (try first | exact ⟨rfl, _, World.drewN_drewN _ _ _⟩ | exact ⟨rfl, _, Eq.trans (World.drewN_drewN _ _ _) (congrArg (World.drewN _) (Nat.add_assoc _ _ _))⟩))))
                  go_ret3
                  exact ⟨by first | rfl | (simp; done) | (simp [*]; done), by repeat (first | exact Drawn0.refl _ | apply Drawn0.step)⟩

/-! ### pylonref01_Half: function 42 -/
def pylonref01_Half.f (k : Nat) (a0 : Int) (a1 : Int) : Option (Int × Int) := (pylonref01_MulDiv.f k a0 1 a1).bind fun bt278 => (some (bt278.1, bt278.2))
theorem pylonref01_Half.mono : ∀ a0 a1 k, LeO (pylonref01_Half.f k a0 a1) (pylonref01_Half.f (k + 1) a0 a1) := by
  intro a0 a1 k
  unfold pylonref01_Half.f
  repeat' first
      | (with_reducible exact pylonref01_MulDiv.mono _ _ _ _)
      | (with_reducible exact LeO.refl _)
      | (with_reducible exact LeO.none _)
      | (with_reducible refine LeO.ite ?_ ?_)
      | (with_reducible refine LeO.bind ?_ (fun _ => ?_))
      | exact pylonref01_MulDiv.mono _ _ _ _
      | exact LeO.none _
      | refine LeO.ite ?_ ?_
      | refine LeO.bind ?_ (fun _ => ?_)
set_option maxHeartbeats 8000000 in
set_option maxRecDepth 100000 in
theorem pylonref01_Half.calls (k : Nat) (a0 : Int) (a1 : Int) (r1 : Int) (r2 : Int) (w : World) (h : pylonref01_Half.f k a0 a1 = some (r1, r2)) :
    Calls Tryd.prog 42 #[.int .i64 a0, .int .i64 a1] w fun e w' => e = .returned (.tuple #[.int .i64 r1, .int .i64 r2]) ∧ Drawn0 w w' := by
  have H : ((pylonref01_MulDiv.f k a0 1 a1).bind fun bt278 => (some (bt278.1, bt278.2))) = some (r1, r2) := h
  clear h
  replace H := Option.bind_eq_some_iff.mp H
  obtain ⟨⟨t278, t279⟩, A30, H⟩ := H
  replace H : (some (t278, t279)) = some (r1, r2) := H
  have A3 := Aside0.mk A30
  clear A30
  simp only [Option.some.injEq, Prod.mk.injEq] at H
  obtain ⟨rfl, rfl⟩ := H
  go_enter Tryd.func42, Tryd.ntmps42
  go_wp2_with (first | ((with_reducible refine gate_callee (f := 43) rfl ?_); refine goesL_ (some 8) rfl rfl Tryd.func43 (by kernel_rfl) rfl #[.int .i64 a0, .int .i64 1, .int .i64 a1] rfl (by (try simp only [List.map_toArray, List.map_cons, List.map_nil]); first | done | rfl | (simp only [List.length_drop, List.length_take]; rfl)) ?_; (with_reducible refine (pylonref01_MulDiv.calls k a0 1 a1 t278 t279 _ A3.out).mono ?_); rintro e w' ⟨rfl, ⟨nd, rfl⟩⟩; refine ⟨_, rfl, ?_⟩))
  go_ret2
  exact ⟨by first | rfl | (simp; done) | (simp [*]; done), by repeat (first | exact Drawn0.refl _ | apply Drawn0.step)⟩

/-! ### pylonref01_root: function 58 -/
def pylonref01_root.l0 : Nat → Int → Int → Int → Int → Option (Int)
  | 0, _, _, _, _ => none
  | k + 1, x0, x1, x5, x6 => if x6 ≥ 0 then (if 0 ≤ (IntKind.u64.wrap (x6)) then ((pylonref01_product.f (Go.bits .or .u64 x5 (shl .u64 1 (IntKind.u64.wrap (x6)))) (Go.bits .or .u64 x5 (shl .u64 1 (IntKind.u64.wrap (x6))))).bind fun bt280 => (if bt280.1 < x0 then (pylonref01_root.l0 k x0 x1 (Go.bits .or .u64 x5 (shl .u64 1 (IntKind.u64.wrap (x6)))) (wrap64 (x6 - 1))) else (if bt280.1 = x0 then (if bt280.2 ≤ x1 then (pylonref01_root.l0 k x0 x1 (Go.bits .or .u64 x5 (shl .u64 1 (IntKind.u64.wrap (x6)))) (wrap64 (x6 - 1))) else (pylonref01_root.l0 k x0 x1 x5 (wrap64 (x6 - 1)))) else (pylonref01_root.l0 k x0 x1 x5 (wrap64 (x6 - 1)))))) else (none)) else (some x5)
def pylonref01_root.f (k : Nat) (a0 : Int) (a1 : Int) : Option (Int) := pylonref01_root.l0 k a0 a1 0 63
theorem pylonref01_root.mono_l : ∀ k, (∀ y0 y1 y2 y3, LeO (pylonref01_root.l0 k y0 y1 y2 y3) (pylonref01_root.l0 (k + 1) y0 y1 y2 y3))
  | 0 => fun _ _ _ _ r h => by simp [pylonref01_root.l0] at h
  | k + 1 => by
    have ih0 := pylonref01_root.mono_l k
    · intro y0 y1 y2 y3
      unfold pylonref01_root.l0
      repeat' first
      | (with_reducible exact ih0 _ _ _ _)
      | (with_reducible exact LeO.refl _)
      | (with_reducible exact LeO.none _)
      | (with_reducible refine LeO.ite ?_ ?_)
      | (with_reducible refine LeO.bind ?_ (fun _ => ?_))
      | exact ih0 _ _ _ _
      | exact LeO.none _
      | refine LeO.ite ?_ ?_
      | refine LeO.bind ?_ (fun _ => ?_)
theorem pylonref01_root.mono : ∀ a0 a1 k, LeO (pylonref01_root.f k a0 a1) (pylonref01_root.f (k + 1) a0 a1) := by
  intro a0 a1 k
  have ih0 := pylonref01_root.mono_l k
  unfold pylonref01_root.f
  repeat' first
      | (with_reducible exact ih0 _ _ _ _)
      | (with_reducible exact LeO.refl _)
      | (with_reducible exact LeO.none _)
      | (with_reducible refine LeO.ite ?_ ?_)
      | (with_reducible refine LeO.bind ?_ (fun _ => ?_))
      | exact ih0 _ _ _ _
      | exact LeO.none _
      | refine LeO.ite ?_ ?_
      | refine LeO.bind ?_ (fun _ => ?_)
set_option maxHeartbeats 8000000 in
set_option maxRecDepth 100000 in
theorem pylonref01_root.calls (k : Nat) (a0 : Int) (a1 : Int) (r : Int) (w : World) (h : pylonref01_root.f k a0 a1 = some r) :
    Calls Tryd.prog 58 #[.int .u64 a0, .int .u64 a1] w fun e w' => e = .returned (.int .u64 r) ∧ Drawn0 w w' := by
  have H : (pylonref01_root.l0 k a0 a1 0 63) = some r := h
  clear h
  have H' := Aside0.mk H
  clear H
  go_enter Tryd.func58, Tryd.ntmps58
  go_wp2
  go_loopg [5, 6] k (fun kq v5 v6 w' => ∃ (x5_1 : Int) (x6_1 : Int), v5 = .int .u64 x5_1 ∧ v6 = .int .i64 x6_1 ∧ Aside0 (pylonref01_root.l0 kq a0 a1 x5_1 x6_1 = some r) ∧ Aside0 (kq ≤ k) ∧ Drawn0 w w')
  case atStart => exact ⟨(0), (63), (by first | rfl | (simp; done) | (simp [*]; done)), (by first | rfl | (simp; done) | (simp [*]; done)), H', ⟨Nat.le_refl _⟩, by repeat (first | exact Drawn0.refl _ | apply Drawn0.step)⟩
  case round =>
    clear H'
    try clear p2
    obtain ⟨x5_1, x6_1, rfl, rfl, HA, HK1, ⟨m1, rfl⟩⟩ := hrel
    cases gk with
    | zero => exact absurd HA.out (by simp [pylonref01_root.l0])
    | succ k1 =>
      have H := HA.out
      clear HA
      simp only [pylonref01_root.l0] at H
      by_cases c3 : x6_1 ≥ 0
      · rw [if_pos c3] at H
        have c3b0 : decide (0 ≤ x6_1) = true := decide_eq_true c3
        clear c3
        obtain ⟨ji4, hji4⟩ : ∃ j_ : Int, (IntKind.u64.wrap (x6_1)) = j_ := ⟨_, rfl⟩
        replace H : (if 0 ≤ (ji4) then ((pylonref01_product.f (Go.bits .or .u64 x5_1 (shl .u64 1 (ji4))) (Go.bits .or .u64 x5_1 (shl .u64 1 (ji4)))).bind fun bt280 => (if bt280.1 < a0 then (pylonref01_root.l0 k1 a0 a1 (Go.bits .or .u64 x5_1 (shl .u64 1 (ji4))) (wrap64 (x6_1 - 1))) else (if bt280.1 = a0 then (if bt280.2 ≤ a1 then (pylonref01_root.l0 k1 a0 a1 (Go.bits .or .u64 x5_1 (shl .u64 1 (ji4))) (wrap64 (x6_1 - 1))) else (pylonref01_root.l0 k1 a0 a1 x5_1 (wrap64 (x6_1 - 1)))) else (pylonref01_root.l0 k1 a0 a1 x5_1 (wrap64 (x6_1 - 1)))))) else (none)) = some r := by first | (rw [hji4] at H; exact H) | (simp only [hji4] at H ⊢; exact H)
        by_cases c5 : 0 ≤ (ji4)
        · rw [if_pos c5] at H
          have c5b0 := eq_true c5
          have c5b1 : decide (0 ≤ (ji4)) = true := decide_eq_true c5
          clear c5
          obtain ⟨ji6, hji6⟩ : ∃ j_ : Int, (shl .u64 1 (ji4)) = j_ := ⟨_, rfl⟩
          replace H : ((pylonref01_product.f (Go.bits .or .u64 x5_1 (ji6)) (Go.bits .or .u64 x5_1 (ji6))).bind fun bt280 => (if bt280.1 < a0 then (pylonref01_root.l0 k1 a0 a1 (Go.bits .or .u64 x5_1 (ji6)) (wrap64 (x6_1 - 1))) else (if bt280.1 = a0 then (if bt280.2 ≤ a1 then (pylonref01_root.l0 k1 a0 a1 (Go.bits .or .u64 x5_1 (ji6)) (wrap64 (x6_1 - 1))) else (pylonref01_root.l0 k1 a0 a1 x5_1 (wrap64 (x6_1 - 1)))) else (pylonref01_root.l0 k1 a0 a1 x5_1 (wrap64 (x6_1 - 1)))))) = some r := by first | (rw [hji6] at H; exact H) | (simp only [hji6] at H ⊢; exact H)
          have hji6_ : (IntKind.u64.wrap (1 * 2 ^ min (ji4).toNat 64)) = ji6 := hji6
          have hji6z : (ji4) ≤ 64 → (IntKind.u64.wrap (1 * 2 ^ (ji4).toNat)) = ji6 := shl_small hji6
          have hji6u : (IntKind.u64.wrap (2 ^ min (ji4).toNat 64)) = ji6 := by have h_ := hji6_; rw [Int.one_mul] at h_; exact h_
          have hji6v : (ji4) ≤ 64 → (IntKind.u64.wrap (2 ^ (ji4).toNat)) = ji6 := fun hle_ => by have h_ := hji6z hle_; rw [Int.one_mul] at h_; exact h_
          replace H := Option.bind_eq_some_iff.mp H
          obtain ⟨⟨t280, t281⟩, A70, H⟩ := H
          replace H : (if t280 < a0 then (pylonref01_root.l0 k1 a0 a1 (Go.bits .or .u64 x5_1 (ji6)) (wrap64 (x6_1 - 1))) else (if t280 = a0 then (if t281 ≤ a1 then (pylonref01_root.l0 k1 a0 a1 (Go.bits .or .u64 x5_1 (ji6)) (wrap64 (x6_1 - 1))) else (pylonref01_root.l0 k1 a0 a1 x5_1 (wrap64 (x6_1 - 1)))) else (pylonref01_root.l0 k1 a0 a1 x5_1 (wrap64 (x6_1 - 1))))) = some r := H
          have A7 := Aside0.mk A70
          clear A70
          by_cases c8 : t280 < a0
          · rw [if_pos c8] at H
            have c8b0 : decide (t280 < a0) = true := decide_eq_true c8
            clear c8
            have H' := Aside0.mk H
            clear H
            go_wp2_with (first | ((with_reducible refine gate_callee (f := 56) rfl ?_); refine goesL_ (some 22) rfl rfl Tryd.func56 (by kernel_rfl) rfl #[.int .u64 (Go.bits .or .u64 x5_1 (ji6)), .int .u64 (Go.bits .or .u64 x5_1 (ji6))] rfl (by (try simp only [List.map_toArray, List.map_cons, List.map_nil]); first | done | (simp only [hji6]; rfl) | rfl | (simp only [List.length_drop, List.length_take]; rfl)) ?_; (with_reducible refine (pylonref01_product.calls (Go.bits .or .u64 x5_1 (ji6)) (Go.bits .or .u64 x5_1 (ji6)) t280 t281 _ A7.out).mono ?_); rintro e w' ⟨rfl, ⟨nd, rfl⟩⟩; refine ⟨_, rfl, ?_⟩))
            go_roundg k1
            case measure => have := HK1.out; omega
            case rel => exact ⟨(Go.bits .or .u64 x5_1 (ji6)), (wrap64 (x6_1 - 1)), (by first | rfl | (simp; done) | (simp only [← hji6] <;> (first | rfl | simp)) | (simp [*]; done)), (by first | rfl | (simp; done) | (simp [*]; done)), H', ⟨by have := HK1.out; omega⟩, by repeat (first | exact Drawn0.refl _ | apply Drawn0.step)⟩
          · rw [if_neg c8] at H
            have c8b0 : decide (t280 < a0) = false := decide_eq_false c8
            clear c8
            by_cases c9 : t280 = a0
            · rw [if_pos c9] at H
              have c9b0 : (t280 == a0) = true := beq_iff_eq.mpr c9
              have c9b1 : (t280 != a0) = false := bne_eq_false_iff_eq.mpr c9
              clear c9
              by_cases c10 : t281 ≤ a1
              · rw [if_pos c10] at H
                have c10b0 : decide (t281 ≤ a1) = true := decide_eq_true c10
                clear c10
                have H' := Aside0.mk H
                clear H
                go_wp2_with (first | ((with_reducible refine gate_callee (f := 56) rfl ?_); refine goesL_ (some 22) rfl rfl Tryd.func56 (by kernel_rfl) rfl #[.int .u64 (Go.bits .or .u64 x5_1 (ji6)), .int .u64 (Go.bits .or .u64 x5_1 (ji6))] rfl (by (try simp only [List.map_toArray, List.map_cons, List.map_nil]); first | done | (simp only [hji6]; rfl) | rfl | (simp only [List.length_drop, List.length_take]; rfl)) ?_; (with_reducible refine (pylonref01_product.calls (Go.bits .or .u64 x5_1 (ji6)) (Go.bits .or .u64 x5_1 (ji6)) t280 t281 _ A7.out).mono ?_); rintro e w' ⟨rfl, ⟨nd, rfl⟩⟩; refine ⟨_, rfl, ?_⟩))
                go_roundg k1
                case measure => have := HK1.out; omega
                case rel => exact ⟨(Go.bits .or .u64 x5_1 (ji6)), (wrap64 (x6_1 - 1)), (by first | rfl | (simp; done) | (simp only [← hji6] <;> (first | rfl | simp)) | (simp [*]; done)), (by first | rfl | (simp; done) | (simp [*]; done)), H', ⟨by have := HK1.out; omega⟩, by repeat (first | exact Drawn0.refl _ | apply Drawn0.step)⟩
              · rw [if_neg c10] at H
                have c10b0 : decide (t281 ≤ a1) = false := decide_eq_false c10
                clear c10
                have H' := Aside0.mk H
                clear H
                go_wp2_with (first | ((with_reducible refine gate_callee (f := 56) rfl ?_); refine goesL_ (some 22) rfl rfl Tryd.func56 (by kernel_rfl) rfl #[.int .u64 (Go.bits .or .u64 x5_1 (ji6)), .int .u64 (Go.bits .or .u64 x5_1 (ji6))] rfl (by (try simp only [List.map_toArray, List.map_cons, List.map_nil]); first | done | (simp only [hji6]; rfl) | rfl | (simp only [List.length_drop, List.length_take]; rfl)) ?_; (with_reducible refine (pylonref01_product.calls (Go.bits .or .u64 x5_1 (ji6)) (Go.bits .or .u64 x5_1 (ji6)) t280 t281 _ A7.out).mono ?_); rintro e w' ⟨rfl, ⟨nd, rfl⟩⟩; refine ⟨_, rfl, ?_⟩))
                go_roundg k1
                case measure => have := HK1.out; omega
                case rel => exact ⟨(x5_1), (wrap64 (x6_1 - 1)), (by first | rfl | (simp; done) | (simp [*]; done)), (by first | rfl | (simp; done) | (simp [*]; done)), H', ⟨by have := HK1.out; omega⟩, by repeat (first | exact Drawn0.refl _ | apply Drawn0.step)⟩
            · rw [if_neg c9] at H
              have c9b0 : (t280 == a0) = false := beq_eq_false_iff_ne.mpr c9
              have c9b1 : (t280 != a0) = true := bne_iff_ne.mpr c9
              have H' := Aside0.mk H
              clear H
              go_wp2_with (first | ((with_reducible refine gate_callee (f := 56) rfl ?_); refine goesL_ (some 22) rfl rfl Tryd.func56 (by kernel_rfl) rfl #[.int .u64 (Go.bits .or .u64 x5_1 (ji6)), .int .u64 (Go.bits .or .u64 x5_1 (ji6))] rfl (by (try simp only [List.map_toArray, List.map_cons, List.map_nil]); first | done | (simp only [hji6]; rfl) | rfl | (simp only [List.length_drop, List.length_take]; rfl)) ?_; (with_reducible refine (pylonref01_product.calls (Go.bits .or .u64 x5_1 (ji6)) (Go.bits .or .u64 x5_1 (ji6)) t280 t281 _ A7.out).mono ?_); rintro e w' ⟨rfl, ⟨nd, rfl⟩⟩; refine ⟨_, rfl, ?_⟩))
              go_roundg k1
              case measure => have := HK1.out; omega
              case rel => exact ⟨(x5_1), (wrap64 (x6_1 - 1)), (by first | rfl | (simp; done) | (simp [*]; done)), (by first | rfl | (simp; done) | (simp [*]; done)), H', ⟨by have := HK1.out; omega⟩, by repeat (first | exact Drawn0.refl _ | apply Drawn0.step)⟩
        · rw [if_neg c5] at H
          exact absurd H (by simp)
      · rw [if_neg c3] at H
        have c3b0 : decide (0 ≤ x6_1) = false := decide_eq_false c3
        clear c3
        obtain rfl := Option.some.inj H
        go_wp2
        go_ret
        exact ⟨by first | rfl | (simp; done) | (simp [*]; done), by repeat (first | exact Drawn0.refl _ | apply Drawn0.step)⟩

/-! ### pylonref01_Root: function 44 -/
def pylonref01_Root.f (k : Nat) (a0 : Int) : Option (Int × Int) := if a0 < 0 then (some (0, 5)) else ((pylonref01_root.f k 0 (IntKind.u64.wrap (a0))).bind fun t282 => (some (wrap64 (t282), 0)))
theorem pylonref01_Root.mono : ∀ a0 k, LeO (pylonref01_Root.f k a0) (pylonref01_Root.f (k + 1) a0) := by
  intro a0 k
  unfold pylonref01_Root.f
  repeat' first
      | (with_reducible exact pylonref01_root.mono _ _ _)
      | (with_reducible exact LeO.refl _)
      | (with_reducible exact LeO.none _)
      | (with_reducible refine LeO.ite ?_ ?_)
      | (with_reducible refine LeO.bind ?_ (fun _ => ?_))
      | exact pylonref01_root.mono _ _ _
      | exact LeO.none _
      | refine LeO.ite ?_ ?_
      | refine LeO.bind ?_ (fun _ => ?_)
set_option maxHeartbeats 8000000 in
set_option maxRecDepth 100000 in
theorem pylonref01_Root.calls (k : Nat) (a0 : Int) (r1 : Int) (r2 : Int) (w : World) (h : pylonref01_Root.f k a0 = some (r1, r2)) :
    Calls Tryd.prog 44 #[.int .i64 a0] w fun e w' => e = .returned (.tuple #[.int .i64 r1, .int .i64 r2]) ∧ Drawn0 w w' := by
  have H : (if a0 < 0 then (some (0, 5)) else ((pylonref01_root.f k 0 (IntKind.u64.wrap (a0))).bind fun t282 => (some (wrap64 (t282), 0)))) = some (r1, r2) := h
  clear h
  by_cases c2 : a0 < 0
  · rw [if_pos c2] at H
    have c2b0 : decide (a0 < 0) = true := decide_eq_true c2
    clear c2
    simp only [Option.some.injEq, Prod.mk.injEq] at H
    obtain ⟨rfl, rfl⟩ := H
    go_enter Tryd.func44, Tryd.ntmps44
    go_wp2
    go_ret2
    exact ⟨by first | rfl | (simp; done) | (simp [*]; done), by repeat (first | exact Drawn0.refl _ | apply Drawn0.step)⟩
  · rw [if_neg c2] at H
    have c2b0 : decide (a0 < 0) = false := decide_eq_false c2
    clear c2
    replace H := Option.bind_eq_some_iff.mp H
    obtain ⟨t282, A30, H⟩ := H
    replace H : (some (wrap64 (t282), 0)) = some (r1, r2) := H
    have A3 := Aside0.mk A30
    clear A30
    simp only [Option.some.injEq, Prod.mk.injEq] at H
    obtain ⟨rfl, rfl⟩ := H
    go_enter Tryd.func44, Tryd.ntmps44
    go_wp2_with (first | ((with_reducible refine gate_callee (f := 58) rfl ?_); refine goesL_ (some 8) rfl rfl Tryd.func58 (by kernel_rfl) rfl #[.int .u64 0, .int .u64 (IntKind.u64.wrap (a0))] rfl (by (try simp only [List.map_toArray, List.map_cons, List.map_nil]); first | done | rfl | (simp only [List.length_drop, List.length_take]; rfl)) ?_; (with_reducible refine (pylonref01_root.calls k 0 (IntKind.u64.wrap (a0)) t282 _ A3.out).mono ?_); rintro e w' ⟨rfl, ⟨nd, rfl⟩⟩; refine ⟨_, rfl, ?_⟩))
    go_ret2
    exact ⟨by first | rfl | (simp; done) | (simp [*]; done), by repeat (first | exact Drawn0.refl _ | apply Drawn0.step)⟩

/-! ### pylonref01_Hyp: function 45 -/
def pylonref01_Hyp.f (k : Nat) (a0 : Int) (a1 : Int) : Option (Int × Int) := (pylonref01_mag.f a0).bind fun t283 => ((pylonref01_mag.f a0).bind fun t284 => ((pylonref01_product.f t283 t284).bind fun bt285 => ((pylonref01_mag.f a1).bind fun t287 => ((pylonref01_mag.f a1).bind fun t288 => ((pylonref01_product.f t287 t288).bind fun bt289 => (if (IntKind.u64.wrap (bt285.2 + bt289.2)) < bt285.2 then ((pylonref01_root.f k (IntKind.u64.wrap ((IntKind.u64.wrap (bt285.1 + bt289.1)) + 1)) (IntKind.u64.wrap (bt285.2 + bt289.2))).bind fun t291 => ((pylonref01_signed.f k false 0 t291).bind fun bt292 => (some (bt292.1, bt292.2)))) else ((pylonref01_root.f k (IntKind.u64.wrap (bt285.1 + bt289.1)) (IntKind.u64.wrap (bt285.2 + bt289.2))).bind fun t294 => ((pylonref01_signed.f k false 0 t294).bind fun bt295 => (some (bt295.1, bt295.2))))))))))
theorem pylonref01_Hyp.mono : ∀ a0 a1 k, LeO (pylonref01_Hyp.f k a0 a1) (pylonref01_Hyp.f (k + 1) a0 a1) := by
  intro a0 a1 k
  unfold pylonref01_Hyp.f
  repeat' first
      | (with_reducible exact pylonref01_root.mono _ _ _)
      | (with_reducible exact pylonref01_signed.mono _ _ _ _)
      | (with_reducible exact LeO.refl _)
      | (with_reducible exact LeO.none _)
      | (with_reducible refine LeO.ite ?_ ?_)
      | (with_reducible refine LeO.bind ?_ (fun _ => ?_))
      | exact pylonref01_root.mono _ _ _
      | exact pylonref01_signed.mono _ _ _ _
      | exact LeO.none _
      | refine LeO.ite ?_ ?_
      | refine LeO.bind ?_ (fun _ => ?_)
set_option maxHeartbeats 8000000 in
set_option maxRecDepth 100000 in
theorem pylonref01_Hyp.calls (k : Nat) (a0 : Int) (a1 : Int) (r1 : Int) (r2 : Int) (w : World) (h : pylonref01_Hyp.f k a0 a1 = some (r1, r2)) :
    Calls Tryd.prog 45 #[.int .i64 a0, .int .i64 a1] w fun e w' => e = .returned (.tuple #[.int .i64 r1, .int .i64 r2]) ∧ Drawn0 w w' := by
  have H : ((pylonref01_mag.f a0).bind fun t283 => ((pylonref01_mag.f a0).bind fun t284 => ((pylonref01_product.f t283 t284).bind fun bt285 => ((pylonref01_mag.f a1).bind fun t287 => ((pylonref01_mag.f a1).bind fun t288 => ((pylonref01_product.f t287 t288).bind fun bt289 => (if (IntKind.u64.wrap (bt285.2 + bt289.2)) < bt285.2 then ((pylonref01_root.f k (IntKind.u64.wrap ((IntKind.u64.wrap (bt285.1 + bt289.1)) + 1)) (IntKind.u64.wrap (bt285.2 + bt289.2))).bind fun t291 => ((pylonref01_signed.f k false 0 t291).bind fun bt292 => (some (bt292.1, bt292.2)))) else ((pylonref01_root.f k (IntKind.u64.wrap (bt285.1 + bt289.1)) (IntKind.u64.wrap (bt285.2 + bt289.2))).bind fun t294 => ((pylonref01_signed.f k false 0 t294).bind fun bt295 => (some (bt295.1, bt295.2))))))))))) = some (r1, r2) := h
  clear h
  replace H := Option.bind_eq_some_iff.mp H
  obtain ⟨t283, A30, H⟩ := H
  replace H : ((pylonref01_mag.f a0).bind fun t284 => ((pylonref01_product.f t283 t284).bind fun bt285 => ((pylonref01_mag.f a1).bind fun t287 => ((pylonref01_mag.f a1).bind fun t288 => ((pylonref01_product.f t287 t288).bind fun bt289 => (if (IntKind.u64.wrap (bt285.2 + bt289.2)) < bt285.2 then ((pylonref01_root.f k (IntKind.u64.wrap ((IntKind.u64.wrap (bt285.1 + bt289.1)) + 1)) (IntKind.u64.wrap (bt285.2 + bt289.2))).bind fun t291 => ((pylonref01_signed.f k false 0 t291).bind fun bt292 => (some (bt292.1, bt292.2)))) else ((pylonref01_root.f k (IntKind.u64.wrap (bt285.1 + bt289.1)) (IntKind.u64.wrap (bt285.2 + bt289.2))).bind fun t294 => ((pylonref01_signed.f k false 0 t294).bind fun bt295 => (some (bt295.1, bt295.2)))))))))) = some (r1, r2) := H
  have A3 := Aside0.mk A30
  clear A30
  replace H := Option.bind_eq_some_iff.mp H
  obtain ⟨t284, A40, H⟩ := H
  replace H : ((pylonref01_product.f t283 t284).bind fun bt285 => ((pylonref01_mag.f a1).bind fun t287 => ((pylonref01_mag.f a1).bind fun t288 => ((pylonref01_product.f t287 t288).bind fun bt289 => (if (IntKind.u64.wrap (bt285.2 + bt289.2)) < bt285.2 then ((pylonref01_root.f k (IntKind.u64.wrap ((IntKind.u64.wrap (bt285.1 + bt289.1)) + 1)) (IntKind.u64.wrap (bt285.2 + bt289.2))).bind fun t291 => ((pylonref01_signed.f k false 0 t291).bind fun bt292 => (some (bt292.1, bt292.2)))) else ((pylonref01_root.f k (IntKind.u64.wrap (bt285.1 + bt289.1)) (IntKind.u64.wrap (bt285.2 + bt289.2))).bind fun t294 => ((pylonref01_signed.f k false 0 t294).bind fun bt295 => (some (bt295.1, bt295.2))))))))) = some (r1, r2) := H
  have A4 := Aside0.mk A40
  clear A40
  replace H := Option.bind_eq_some_iff.mp H
  obtain ⟨⟨t285, t286⟩, A50, H⟩ := H
  replace H : ((pylonref01_mag.f a1).bind fun t287 => ((pylonref01_mag.f a1).bind fun t288 => ((pylonref01_product.f t287 t288).bind fun bt289 => (if (IntKind.u64.wrap (t286 + bt289.2)) < t286 then ((pylonref01_root.f k (IntKind.u64.wrap ((IntKind.u64.wrap (t285 + bt289.1)) + 1)) (IntKind.u64.wrap (t286 + bt289.2))).bind fun t291 => ((pylonref01_signed.f k false 0 t291).bind fun bt292 => (some (bt292.1, bt292.2)))) else ((pylonref01_root.f k (IntKind.u64.wrap (t285 + bt289.1)) (IntKind.u64.wrap (t286 + bt289.2))).bind fun t294 => ((pylonref01_signed.f k false 0 t294).bind fun bt295 => (some (bt295.1, bt295.2)))))))) = some (r1, r2) := H
  have A5 := Aside0.mk A50
  clear A50
  replace H := Option.bind_eq_some_iff.mp H
  obtain ⟨t287, A60, H⟩ := H
  replace H : ((pylonref01_mag.f a1).bind fun t288 => ((pylonref01_product.f t287 t288).bind fun bt289 => (if (IntKind.u64.wrap (t286 + bt289.2)) < t286 then ((pylonref01_root.f k (IntKind.u64.wrap ((IntKind.u64.wrap (t285 + bt289.1)) + 1)) (IntKind.u64.wrap (t286 + bt289.2))).bind fun t291 => ((pylonref01_signed.f k false 0 t291).bind fun bt292 => (some (bt292.1, bt292.2)))) else ((pylonref01_root.f k (IntKind.u64.wrap (t285 + bt289.1)) (IntKind.u64.wrap (t286 + bt289.2))).bind fun t294 => ((pylonref01_signed.f k false 0 t294).bind fun bt295 => (some (bt295.1, bt295.2))))))) = some (r1, r2) := H
  have A6 := Aside0.mk A60
  clear A60
  replace H := Option.bind_eq_some_iff.mp H
  obtain ⟨t288, A70, H⟩ := H
  replace H : ((pylonref01_product.f t287 t288).bind fun bt289 => (if (IntKind.u64.wrap (t286 + bt289.2)) < t286 then ((pylonref01_root.f k (IntKind.u64.wrap ((IntKind.u64.wrap (t285 + bt289.1)) + 1)) (IntKind.u64.wrap (t286 + bt289.2))).bind fun t291 => ((pylonref01_signed.f k false 0 t291).bind fun bt292 => (some (bt292.1, bt292.2)))) else ((pylonref01_root.f k (IntKind.u64.wrap (t285 + bt289.1)) (IntKind.u64.wrap (t286 + bt289.2))).bind fun t294 => ((pylonref01_signed.f k false 0 t294).bind fun bt295 => (some (bt295.1, bt295.2)))))) = some (r1, r2) := H
  have A7 := Aside0.mk A70
  clear A70
  replace H := Option.bind_eq_some_iff.mp H
  obtain ⟨⟨t289, t290⟩, A80, H⟩ := H
  replace H : (if (IntKind.u64.wrap (t286 + t290)) < t286 then ((pylonref01_root.f k (IntKind.u64.wrap ((IntKind.u64.wrap (t285 + t289)) + 1)) (IntKind.u64.wrap (t286 + t290))).bind fun t291 => ((pylonref01_signed.f k false 0 t291).bind fun bt292 => (some (bt292.1, bt292.2)))) else ((pylonref01_root.f k (IntKind.u64.wrap (t285 + t289)) (IntKind.u64.wrap (t286 + t290))).bind fun t294 => ((pylonref01_signed.f k false 0 t294).bind fun bt295 => (some (bt295.1, bt295.2))))) = some (r1, r2) := H
  have A8 := Aside0.mk A80
  clear A80
  by_cases c9 : (IntKind.u64.wrap (t286 + t290)) < t286
  · rw [if_pos c9] at H
    have c9b0 : decide ((IntKind.u64.wrap (t286 + t290)) < t286) = true := decide_eq_true c9
    clear c9
    replace H := Option.bind_eq_some_iff.mp H
    obtain ⟨t291, A100, H⟩ := H
    replace H : ((pylonref01_signed.f k false 0 t291).bind fun bt292 => (some (bt292.1, bt292.2))) = some (r1, r2) := H
    have A10 := Aside0.mk A100
    clear A100
    replace H := Option.bind_eq_some_iff.mp H
    obtain ⟨⟨t292, t293⟩, A110, H⟩ := H
    replace H : (some (t292, t293)) = some (r1, r2) := H
    have A11 := Aside0.mk A110
    clear A110
    simp only [Option.some.injEq, Prod.mk.injEq] at H
    obtain ⟨rfl, rfl⟩ := H
    go_enter Tryd.func45, Tryd.ntmps45
    go_wp2_with (first | ((with_reducible refine gate_callee (f := 54) rfl ?_); refine goesL_ (some 15) rfl rfl Tryd.func54 (by kernel_rfl) rfl #[.int .i64 a0] rfl (by (try simp only [List.map_toArray, List.map_cons, List.map_nil]); first | done | rfl | (simp only [List.length_drop, List.length_take]; rfl)) ?_; (with_reducible refine (pylonref01_mag.calls a0 t283 _ A3.out).mono ?_); rintro e w' ⟨rfl, ⟨nd, rfl⟩⟩; refine ⟨_, rfl, ?_⟩) | ((with_reducible refine gate_callee (f := 54) rfl ?_); refine goesL_ (some 17) rfl rfl Tryd.func54 (by kernel_rfl) rfl #[.int .i64 a0] rfl (by (try simp only [List.map_toArray, List.map_cons, List.map_nil]); first | done | rfl | (simp only [List.length_drop, List.length_take]; rfl)) ?_; (with_reducible refine (pylonref01_mag.calls a0 t284 _ A4.out).mono ?_); rintro e w' ⟨rfl, ⟨nd, rfl⟩⟩; refine ⟨_, rfl, ?_⟩) | ((with_reducible refine gate_callee (f := 56) rfl ?_); refine goesL_ (some 18) rfl rfl Tryd.func56 (by kernel_rfl) rfl #[.int .u64 t283, .int .u64 t284] rfl (by (try simp only [List.map_toArray, List.map_cons, List.map_nil]); first | done | rfl | (simp only [List.length_drop, List.length_take]; rfl)) ?_; (with_reducible refine (pylonref01_product.calls t283 t284 t285 t286 _ A5.out).mono ?_); rintro e w' ⟨rfl, ⟨nd, rfl⟩⟩; refine ⟨_, rfl, ?_⟩) | ((with_reducible refine gate_callee (f := 54) rfl ?_); refine goesL_ (some 23) rfl rfl Tryd.func54 (by kernel_rfl) rfl #[.int .i64 a1] rfl (by (try simp only [List.map_toArray, List.map_cons, List.map_nil]); first | done | rfl | (simp only [List.length_drop, List.length_take]; rfl)) ?_; (with_reducible refine (pylonref01_mag.calls a1 t287 _ A6.out).mono ?_); rintro e w' ⟨rfl, ⟨nd, rfl⟩⟩; refine ⟨_, rfl, ?_⟩) | ((with_reducible refine gate_callee (f := 54) rfl ?_); refine goesL_ (some 25) rfl rfl Tryd.func54 (by kernel_rfl) rfl #[.int .i64 a1] rfl (by (try simp only [List.map_toArray, List.map_cons, List.map_nil]); first | done | rfl | (simp only [List.length_drop, List.length_take]; rfl)) ?_; (with_reducible refine (pylonref01_mag.calls a1 t288 _ A7.out).mono ?_); rintro e w' ⟨rfl, ⟨nd, rfl⟩⟩; refine ⟨_, rfl, ?_⟩) | ((with_reducible refine gate_callee (f := 56) rfl ?_); refine goesL_ (some 26) rfl rfl Tryd.func56 (by kernel_rfl) rfl #[.int .u64 t287, .int .u64 t288] rfl (by (try simp only [List.map_toArray, List.map_cons, List.map_nil]); first | done | rfl | (simp only [List.length_drop, List.length_take]; rfl)) ?_; (with_reducible refine (pylonref01_product.calls t287 t288 t289 t290 _ A8.out).mono ?_); rintro e w' ⟨rfl, ⟨nd, rfl⟩⟩; refine ⟨_, rfl, ?_⟩) | ((with_reducible refine gate_callee (f := 58) rfl ?_); refine goesL_ (some 42) rfl rfl Tryd.func58 (by kernel_rfl) rfl #[.int .u64 (IntKind.u64.wrap ((IntKind.u64.wrap (t285 + t289)) + 1)), .int .u64 (IntKind.u64.wrap (t286 + t290))] rfl (by (try simp only [List.map_toArray, List.map_cons, List.map_nil]); first | done | rfl | (simp only [List.length_drop, List.length_take]; rfl)) ?_; (with_reducible refine (pylonref01_root.calls k (IntKind.u64.wrap ((IntKind.u64.wrap (t285 + t289)) + 1)) (IntKind.u64.wrap (t286 + t290)) t291 _ A10.out).mono ?_); rintro e w' ⟨rfl, ⟨nd, rfl⟩⟩; refine ⟨_, rfl, ?_⟩) | ((with_reducible refine gate_callee (f := 55) rfl ?_); refine goesL_ (some 44) rfl rfl Tryd.func55 (by kernel_rfl) rfl #[.bool false, .int .u64 0, .int .u64 t291] rfl (by (try simp only [List.map_toArray, List.map_cons, List.map_nil]); first | done | rfl | (simp only [List.length_drop, List.length_take]; rfl)) ?_; (with_reducible refine (pylonref01_signed.calls k false 0 t291 t292 t293 _ A11.out).mono ?_); rintro e w' ⟨rfl, ⟨nd, rfl⟩⟩; refine ⟨_, rfl, ?_⟩))
    go_ret2
    exact ⟨by first | rfl | (simp; done) | (simp [*]; done), by repeat (first | exact Drawn0.refl _ | apply Drawn0.step)⟩
  · rw [if_neg c9] at H
    have c9b0 : decide ((IntKind.u64.wrap (t286 + t290)) < t286) = false := decide_eq_false c9
    clear c9
    replace H := Option.bind_eq_some_iff.mp H
    obtain ⟨t294, A120, H⟩ := H
    replace H : ((pylonref01_signed.f k false 0 t294).bind fun bt295 => (some (bt295.1, bt295.2))) = some (r1, r2) := H
    have A12 := Aside0.mk A120
    clear A120
    replace H := Option.bind_eq_some_iff.mp H
    obtain ⟨⟨t295, t296⟩, A130, H⟩ := H
    replace H : (some (t295, t296)) = some (r1, r2) := H
    have A13 := Aside0.mk A130
    clear A130
    simp only [Option.some.injEq, Prod.mk.injEq] at H
    obtain ⟨rfl, rfl⟩ := H
    go_enter Tryd.func45, Tryd.ntmps45
    go_wp2_with (first | ((with_reducible refine gate_callee (f := 54) rfl ?_); refine goesL_ (some 15) rfl rfl Tryd.func54 (by kernel_rfl) rfl #[.int .i64 a0] rfl (by (try simp only [List.map_toArray, List.map_cons, List.map_nil]); first | done | rfl | (simp only [List.length_drop, List.length_take]; rfl)) ?_; (with_reducible refine (pylonref01_mag.calls a0 t283 _ A3.out).mono ?_); rintro e w' ⟨rfl, ⟨nd, rfl⟩⟩; refine ⟨_, rfl, ?_⟩) | ((with_reducible refine gate_callee (f := 54) rfl ?_); refine goesL_ (some 17) rfl rfl Tryd.func54 (by kernel_rfl) rfl #[.int .i64 a0] rfl (by (try simp only [List.map_toArray, List.map_cons, List.map_nil]); first | done | rfl | (simp only [List.length_drop, List.length_take]; rfl)) ?_; (with_reducible refine (pylonref01_mag.calls a0 t284 _ A4.out).mono ?_); rintro e w' ⟨rfl, ⟨nd, rfl⟩⟩; refine ⟨_, rfl, ?_⟩) | ((with_reducible refine gate_callee (f := 56) rfl ?_); refine goesL_ (some 18) rfl rfl Tryd.func56 (by kernel_rfl) rfl #[.int .u64 t283, .int .u64 t284] rfl (by (try simp only [List.map_toArray, List.map_cons, List.map_nil]); first | done | rfl | (simp only [List.length_drop, List.length_take]; rfl)) ?_; (with_reducible refine (pylonref01_product.calls t283 t284 t285 t286 _ A5.out).mono ?_); rintro e w' ⟨rfl, ⟨nd, rfl⟩⟩; refine ⟨_, rfl, ?_⟩) | ((with_reducible refine gate_callee (f := 54) rfl ?_); refine goesL_ (some 23) rfl rfl Tryd.func54 (by kernel_rfl) rfl #[.int .i64 a1] rfl (by (try simp only [List.map_toArray, List.map_cons, List.map_nil]); first | done | rfl | (simp only [List.length_drop, List.length_take]; rfl)) ?_; (with_reducible refine (pylonref01_mag.calls a1 t287 _ A6.out).mono ?_); rintro e w' ⟨rfl, ⟨nd, rfl⟩⟩; refine ⟨_, rfl, ?_⟩) | ((with_reducible refine gate_callee (f := 54) rfl ?_); refine goesL_ (some 25) rfl rfl Tryd.func54 (by kernel_rfl) rfl #[.int .i64 a1] rfl (by (try simp only [List.map_toArray, List.map_cons, List.map_nil]); first | done | rfl | (simp only [List.length_drop, List.length_take]; rfl)) ?_; (with_reducible refine (pylonref01_mag.calls a1 t288 _ A7.out).mono ?_); rintro e w' ⟨rfl, ⟨nd, rfl⟩⟩; refine ⟨_, rfl, ?_⟩) | ((with_reducible refine gate_callee (f := 56) rfl ?_); refine goesL_ (some 26) rfl rfl Tryd.func56 (by kernel_rfl) rfl #[.int .u64 t287, .int .u64 t288] rfl (by (try simp only [List.map_toArray, List.map_cons, List.map_nil]); first | done | rfl | (simp only [List.length_drop, List.length_take]; rfl)) ?_; (with_reducible refine (pylonref01_product.calls t287 t288 t289 t290 _ A8.out).mono ?_); rintro e w' ⟨rfl, ⟨nd, rfl⟩⟩; refine ⟨_, rfl, ?_⟩) | ((with_reducible refine gate_callee (f := 58) rfl ?_); refine goesL_ (some 42) rfl rfl Tryd.func58 (by kernel_rfl) rfl #[.int .u64 (IntKind.u64.wrap (t285 + t289)), .int .u64 (IntKind.u64.wrap (t286 + t290))] rfl (by (try simp only [List.map_toArray, List.map_cons, List.map_nil]); first | done | rfl | (simp only [List.length_drop, List.length_take]; rfl)) ?_; (with_reducible refine (pylonref01_root.calls k (IntKind.u64.wrap (t285 + t289)) (IntKind.u64.wrap (t286 + t290)) t294 _ A12.out).mono ?_); rintro e w' ⟨rfl, ⟨nd, rfl⟩⟩; refine ⟨_, rfl, ?_⟩) | ((with_reducible refine gate_callee (f := 55) rfl ?_); refine goesL_ (some 44) rfl rfl Tryd.func55 (by kernel_rfl) rfl #[.bool false, .int .u64 0, .int .u64 t294] rfl (by (try simp only [List.map_toArray, List.map_cons, List.map_nil]); first | done | rfl | (simp only [List.length_drop, List.length_take]; rfl)) ?_; (with_reducible refine (pylonref01_signed.calls k false 0 t294 t295 t296 _ A13.out).mono ?_); rintro e w' ⟨rfl, ⟨nd, rfl⟩⟩; refine ⟨_, rfl, ?_⟩))
    go_ret2
    exact ⟨by first | rfl | (simp; done) | (simp [*]; done), by repeat (first | exact Drawn0.refl _ | apply Drawn0.step)⟩

/-! ### pylonref01_Text: function 46 -/
def pylonref01_Text.l0 : Nat → Int → Int → ByteArray → Option (ByteArray)
  | 0, _, _, _ => none
  | k + 1, x0, x3, x4 => if x3 > 0 then (if (Go.Utf8.encode (wrap32 (IntKind.u64.wrap (48 + (Int.tmod x3 10))))).size + x4.size ≤ 9223372036854775807 then (pylonref01_Text.l0 k x0 (IntKind.u64.wrap (Int.tdiv x3 10)) ((Go.Utf8.encode (wrap32 (IntKind.u64.wrap (48 + (Int.tmod x3 10))))) ++ x4)) else (none)) else (if x4.toList = ([] : List UInt8) then (if (Go.Utf8.encode (wrap32 (IntKind.u64.wrap (48 + (Int.tmod x3 10))))).size + x4.size ≤ 9223372036854775807 then (pylonref01_Text.l0 k x0 (IntKind.u64.wrap (Int.tdiv x3 10)) ((Go.Utf8.encode (wrap32 (IntKind.u64.wrap (48 + (Int.tmod x3 10))))) ++ x4)) else (none)) else (if x0 < 0 then (if 1 + x4.size ≤ 9223372036854775807 then (some ((⟨#[45]⟩ : ByteArray) ++ x4)) else (none)) else (some x4)))
def pylonref01_Text.f (k : Nat) (a0 : Int) : Option (ByteArray) := (pylonref01_mag.f a0).bind fun t297 => (pylonref01_Text.l0 k a0 t297 (⟨#[]⟩ : ByteArray))
theorem pylonref01_Text.mono_l : ∀ k, (∀ y0 y1 y2, LeO (pylonref01_Text.l0 k y0 y1 y2) (pylonref01_Text.l0 (k + 1) y0 y1 y2))
  | 0 => fun _ _ _ r h => by simp [pylonref01_Text.l0] at h
  | k + 1 => by
    have ih0 := pylonref01_Text.mono_l k
    · intro y0 y1 y2
      unfold pylonref01_Text.l0
      repeat' first
      | (with_reducible exact ih0 _ _ _)
      | (with_reducible exact LeO.refl _)
      | (with_reducible exact LeO.none _)
      | (with_reducible refine LeO.ite ?_ ?_)
      | (with_reducible refine LeO.bind ?_ (fun _ => ?_))
      | exact ih0 _ _ _
      | exact LeO.none _
      | refine LeO.ite ?_ ?_
      | refine LeO.bind ?_ (fun _ => ?_)
theorem pylonref01_Text.mono : ∀ a0 k, LeO (pylonref01_Text.f k a0) (pylonref01_Text.f (k + 1) a0) := by
  intro a0 k
  have ih0 := pylonref01_Text.mono_l k
  unfold pylonref01_Text.f
  repeat' first
      | (with_reducible exact ih0 _ _ _)
      | (with_reducible exact LeO.refl _)
      | (with_reducible exact LeO.none _)
      | (with_reducible refine LeO.ite ?_ ?_)
      | (with_reducible refine LeO.bind ?_ (fun _ => ?_))
      | exact ih0 _ _ _
      | exact LeO.none _
      | refine LeO.ite ?_ ?_
      | refine LeO.bind ?_ (fun _ => ?_)
set_option maxHeartbeats 8000000 in
set_option maxRecDepth 100000 in
theorem pylonref01_Text.calls (k : Nat) (a0 : Int) (r : ByteArray) (w : World) (h : pylonref01_Text.f k a0 = some r) :
    Calls Tryd.prog 46 #[.int .i64 a0] w fun e w' => e = .returned (.string r) ∧ Drawn0 w w' := by
  have hcv21 : ∀ (n : Int) (W : World), (convert 21 9 (.int .i32 n)).run Tryd.prog W = .ok (.string (Go.Utf8.encode n)) W := fun n W => by rfl
  have H : ((pylonref01_mag.f a0).bind fun t297 => (pylonref01_Text.l0 k a0 t297 (⟨#[]⟩ : ByteArray))) = some r := h
  clear h
  replace H := Option.bind_eq_some_iff.mp H
  obtain ⟨t297, A20, H⟩ := H
  replace H : (pylonref01_Text.l0 k a0 t297 (⟨#[]⟩ : ByteArray)) = some r := H
  have A2 := Aside0.mk A20
  clear A20
  have H' := Aside0.mk H
  clear H
  go_enter Tryd.func46, Tryd.ntmps46
  go_wp2_with (first | ((with_reducible refine gate_callee (f := 54) rfl ?_); refine goesL_ (some 6) rfl rfl Tryd.func54 (by kernel_rfl) rfl #[.int .i64 a0] rfl (by (try simp only [List.map_toArray, List.map_cons, List.map_nil]); first | done | rfl | (simp only [List.length_drop, List.length_take]; rfl)) ?_; (with_reducible refine (pylonref01_mag.calls a0 t297 _ A2.out).mono ?_); rintro e w' ⟨rfl, ⟨nd, rfl⟩⟩; refine ⟨_, rfl, ?_⟩))
  go_loopg [3, 4] k (fun kq v3 v4 w' => ∃ (x3_1 : Int) (x4_1 : ByteArray), v3 = .int .u64 x3_1 ∧ v4 = .string x4_1 ∧ Aside0 (pylonref01_Text.l0 kq a0 x3_1 x4_1 = some r) ∧ Aside0 (kq ≤ k) ∧ Drawn0 w w')
  case atStart => exact ⟨(t297), ((⟨#[]⟩ : ByteArray)), (by first | rfl | (simp; done) | (simp [*]; done)), (by first | rfl | (simp; done) | (simp [*]; done)), H', ⟨Nat.le_refl _⟩, by repeat (first | exact Drawn0.refl _ | apply Drawn0.step)⟩
  case round =>
    clear H'
    try clear p2
    obtain ⟨x3_1, x4_1, rfl, rfl, HA, HK1, ⟨m1, rfl⟩⟩ := hrel
    cases gk with
    | zero => exact absurd HA.out (by simp [pylonref01_Text.l0])
    | succ k1 =>
      have H := HA.out
      clear HA
      simp only [pylonref01_Text.l0] at H
      by_cases c3 : x3_1 > 0
      · rw [if_pos c3] at H
        have c3b0 : decide (0 < x3_1) = true := decide_eq_true c3
        clear c3
        by_cases c4 : (Go.Utf8.encode (wrap32 (IntKind.u64.wrap (48 + (Int.tmod x3_1 10))))).size + x4_1.size ≤ 9223372036854775807
        · rw [if_pos c4] at H
          have c4b0 := eq_true c4
          have c4b1 : decide ((Go.Utf8.encode (wrap32 (IntKind.u64.wrap (48 + (Int.tmod x3_1 10))))).size + x4_1.size ≤ 9223372036854775807) = true := decide_eq_true c4
          try have c4b2 : (9223372036854775807 < (Go.Utf8.encode (wrap32 (IntKind.u64.wrap (48 + (Int.tmod x3_1 10))))).size + x4_1.size) = False := eq_false (Nat.not_lt.2 c4)
          have H' := Aside0.mk H
          clear H
          go_wp2
          go_roundg k1
          case measure => have := HK1.out; omega
          case rel => exact ⟨(IntKind.u64.wrap (Int.tdiv x3_1 10)), ((Go.Utf8.encode (wrap32 (IntKind.u64.wrap (48 + (Int.tmod x3_1 10))))) ++ x4_1), (by first | rfl | (simp; done) | (simp [*]; done)), (by first | rfl | (simp; done) | (simp [*]; done)), H', ⟨by have := HK1.out; omega⟩, by repeat (first | exact Drawn0.refl _ | apply Drawn0.step)⟩
        · rw [if_neg c4] at H
          exact absurd H (by simp)
      · rw [if_neg c3] at H
        have c3b0 : decide (0 < x3_1) = false := decide_eq_false c3
        clear c3
        by_cases c5 : x4_1.toList = ([] : List UInt8)
        · rw [if_pos c5] at H
          have c5b0 : (x4_1.toList == ([] : List UInt8)) = true := beq_iff_eq.mpr c5
          have c5b1 : (x4_1.toList != ([] : List UInt8)) = false := bne_eq_false_iff_eq.mpr c5
          clear c5
          by_cases c6 : (Go.Utf8.encode (wrap32 (IntKind.u64.wrap (48 + (Int.tmod x3_1 10))))).size + x4_1.size ≤ 9223372036854775807
          · rw [if_pos c6] at H
            have c6b0 := eq_true c6
            have c6b1 : decide ((Go.Utf8.encode (wrap32 (IntKind.u64.wrap (48 + (Int.tmod x3_1 10))))).size + x4_1.size ≤ 9223372036854775807) = true := decide_eq_true c6
            try have c6b2 : (9223372036854775807 < (Go.Utf8.encode (wrap32 (IntKind.u64.wrap (48 + (Int.tmod x3_1 10))))).size + x4_1.size) = False := eq_false (Nat.not_lt.2 c6)
            have H' := Aside0.mk H
            clear H
            go_wp2
            go_roundg k1
            case measure => have := HK1.out; omega
            case rel => exact ⟨(IntKind.u64.wrap (Int.tdiv x3_1 10)), ((Go.Utf8.encode (wrap32 (IntKind.u64.wrap (48 + (Int.tmod x3_1 10))))) ++ x4_1), (by first | rfl | (simp; done) | (simp [*]; done)), (by first | rfl | (simp; done) | (simp [*]; done)), H', ⟨by have := HK1.out; omega⟩, by repeat (first | exact Drawn0.refl _ | apply Drawn0.step)⟩
          · rw [if_neg c6] at H
            exact absurd H (by simp)
        · rw [if_neg c5] at H
          have c5b0 : (x4_1.toList == ([] : List UInt8)) = false := beq_eq_false_iff_ne.mpr c5
          have c5b1 : (x4_1.toList != ([] : List UInt8)) = true := bne_iff_ne.mpr c5
          by_cases c7 : a0 < 0
          · rw [if_pos c7] at H
            have c7b0 : decide (a0 < 0) = true := decide_eq_true c7
            clear c7
            by_cases c8 : 1 + x4_1.size ≤ 9223372036854775807
            · rw [if_pos c8] at H
              have c8b0 := eq_true c8
              have c8b1 : decide (1 + x4_1.size ≤ 9223372036854775807) = true := decide_eq_true c8
              try have c8b2 : (9223372036854775807 < 1 + x4_1.size) = False := eq_false (Nat.not_lt.2 c8)
              obtain rfl := Option.some.inj H
              go_wp2
              go_ret
              exact ⟨by first | rfl | (simp; done) | (simp [*]; done), by repeat (first | exact Drawn0.refl _ | apply Drawn0.step)⟩
            · rw [if_neg c8] at H
              exact absurd H (by simp)
          · rw [if_neg c7] at H
            have c7b0 : decide (a0 < 0) = false := decide_eq_false c7
            clear c7
            obtain rfl := Option.some.inj H
            go_wp2
            go_ret
            exact ⟨by first | rfl | (simp; done) | (simp [*]; done), by repeat (first | exact Drawn0.refl _ | apply Drawn0.step)⟩

end Go.Proofs.YthejabcfbbmkeaaDoor.PG
