-- Written by a program of this session for this claim (wip/print2.sh). Lean checks it.
import Derived.Test.YtbjkjakilpifhaaPRLx0
import Derived.Test.YtbjkjakilpifhaaPRLx1
import Derived.Test.YtbjkjakilpifhaaPRLx2
namespace Go.Proofs.Ytbjkjakilpifhaa.PRL
open Go.Proofs.YtbjkjakilpifhaaW.PrintWords
attribute [local go_sem high] fx_eql fx_neq fx_lss fx_leq fx_gtr fx_geq fx_add fx_sub fx_mul fx_neg fx_toint cxx_add cxx_sub cxx_mul cxx_eql cxx_neq cxx_pick st_float st_complex
open Go.RowKit Go.Proofs.YtbjkjakilpifhaaW.PrintWords Go.Proofs.YtbjkjakilpifhaaW.PrintLast Go.Proofs.YtbjkjakilpifhaaW.PrintMore
attribute [local go_sem] max2_int min2_int max_two min_two max_three min_three max_four min_four   -- for this text's walks alone
set_option linter.unusedVariables false
set_option linter.unusedSimpArgs false

/-! ### fix_MulDiv: function 31 -/
def fix_MulDiv.j0 : Nat → Bool → Int → Int → Bool → Option (Int × Int)
  | 0, _, _, _, _ => none
  | k + 1, x10, x12, x13, x63 => if x63 = true then (if c01 0 = true then ((fix_number.f k x10 (IntKind.u64.wrap (x12 + (u64car x13 1 0))) (u64add x13 1 0)).bind fun bt110 => (some (bt110.1, bt110.2))) else (none)) else ((fix_number.f k x10 x12 x13).bind fun bt112 => (some (bt112.1, bt112.2)))
def fix_MulDiv.f (k : Nat) (a0 : Int) (a1 : Int) (a2 : Int) : Option (Int × Int) := if a2 = 0 then (some (0, 6)) else ((fix_size.f a0).bind fun t103 => ((fix_size.f a1).bind fun t104 => ((bits_Mul64.f t103 t104).bind fun bt105 => ((fix_size.f a2).bind fun t107 => (if t107 = 0 then (none) else ((bits_Div64.f k (Int.tmod bt105.1 t107) bt105.2 t107).bind fun bt108 => (if bt108.2 > (IntKind.u64.wrap (t107 - bt108.2)) then (fix_MulDiv.j0 k (!((!((decide (a0 < 0)) == (decide (a1 < 0)))) == (decide (a2 < 0)))) (IntKind.u64.wrap (Int.tdiv bt105.1 t107)) bt108.1 true) else (if bt108.2 = (IntKind.u64.wrap (t107 - bt108.2)) then (fix_MulDiv.j0 k (!((!((decide (a0 < 0)) == (decide (a1 < 0)))) == (decide (a2 < 0)))) (IntKind.u64.wrap (Int.tdiv bt105.1 t107)) bt108.1 (!(!((!((decide (a0 < 0)) == (decide (a1 < 0)))) == (decide (a2 < 0)))))) else (fix_MulDiv.j0 k (!((!((decide (a0 < 0)) == (decide (a1 < 0)))) == (decide (a2 < 0)))) (IntKind.u64.wrap (Int.tdiv bt105.1 t107)) bt108.1 false)))))))))
theorem fix_MulDiv.mono_l : ∀ k, (∀ y0 y1 y2 y3, LeO (fix_MulDiv.j0 k y0 y1 y2 y3) (fix_MulDiv.j0 (k + 1) y0 y1 y2 y3))
  | 0 => fun _ _ _ _ r h => by simp [fix_MulDiv.j0] at h
  | k + 1 => by
    have ih0 := fix_MulDiv.mono_l k
    · intro y0 y1 y2 y3
      unfold fix_MulDiv.j0
      repeat' first
      | (with_reducible exact ih0 _ _ _ _)
      | (with_reducible exact bits_Div64.mono _ _ _ _)
      | (with_reducible exact fix_number.mono _ _ _ _)
      | (with_reducible exact LeO.refl _)
      | (with_reducible exact LeO.none _)
      | (with_reducible refine LeO.ite ?_ ?_)
      | (with_reducible refine LeO.bind ?_ (fun _ => ?_))
      | exact ih0 _ _ _ _
      | exact bits_Div64.mono _ _ _ _
      | exact fix_number.mono _ _ _ _
      | exact LeO.none _
      | refine LeO.ite ?_ ?_
      | refine LeO.bind ?_ (fun _ => ?_)
theorem fix_MulDiv.mono : ∀ a0 a1 a2 k, LeO (fix_MulDiv.f k a0 a1 a2) (fix_MulDiv.f (k + 1) a0 a1 a2) := by
  intro a0 a1 a2 k
  have ih0 := fix_MulDiv.mono_l k
  unfold fix_MulDiv.f
  repeat' first
      | (with_reducible exact ih0 _ _ _ _)
      | (with_reducible exact bits_Div64.mono _ _ _ _)
      | (with_reducible exact fix_number.mono _ _ _ _)
      | (with_reducible exact LeO.refl _)
      | (with_reducible exact LeO.none _)
      | (with_reducible refine LeO.ite ?_ ?_)
      | (with_reducible refine LeO.bind ?_ (fun _ => ?_))
      | exact ih0 _ _ _ _
      | exact bits_Div64.mono _ _ _ _
      | exact fix_number.mono _ _ _ _
      | exact LeO.none _
      | refine LeO.ite ?_ ?_
      | refine LeO.bind ?_ (fun _ => ?_)
set_option maxHeartbeats 8000000 in
set_option maxRecDepth 100000 in
theorem fix_MulDiv.calls (k : Nat) (a0 : Int) (a1 : Int) (a2 : Int) (r1 : Int) (r2 : Int) (w : World) (h : fix_MulDiv.f k a0 a1 a2 = some (r1, r2)) :
    Calls Try.prog 31 #[.int .i64 a0, .int .i64 a1, .int .i64 a2] w fun e w' => e = .returned (.tuple #[.int .i64 r1, .int .i64 r2]) ∧ Drawn0 w w' := by
  have hx40 := @ext40
  have H : (if a2 = 0 then (some (0, 6)) else ((fix_size.f a0).bind fun t103 => ((fix_size.f a1).bind fun t104 => ((bits_Mul64.f t103 t104).bind fun bt105 => ((fix_size.f a2).bind fun t107 => (if t107 = 0 then (none) else ((bits_Div64.f k (Int.tmod bt105.1 t107) bt105.2 t107).bind fun bt108 => (if bt108.2 > (IntKind.u64.wrap (t107 - bt108.2)) then (fix_MulDiv.j0 k (!((!((decide (a0 < 0)) == (decide (a1 < 0)))) == (decide (a2 < 0)))) (IntKind.u64.wrap (Int.tdiv bt105.1 t107)) bt108.1 true) else (if bt108.2 = (IntKind.u64.wrap (t107 - bt108.2)) then (fix_MulDiv.j0 k (!((!((decide (a0 < 0)) == (decide (a1 < 0)))) == (decide (a2 < 0)))) (IntKind.u64.wrap (Int.tdiv bt105.1 t107)) bt108.1 (!(!((!((decide (a0 < 0)) == (decide (a1 < 0)))) == (decide (a2 < 0)))))) else (fix_MulDiv.j0 k (!((!((decide (a0 < 0)) == (decide (a1 < 0)))) == (decide (a2 < 0)))) (IntKind.u64.wrap (Int.tdiv bt105.1 t107)) bt108.1 false)))))))))) = some (r1, r2) := h
  clear h
  by_cases c4 : a2 = 0
  · rw [if_pos c4] at H
    have c4b0 : (a2 == 0) = true := beq_iff_eq.mpr c4
    have c4b1 : (a2 != 0) = false := bne_eq_false_iff_eq.mpr c4
    clear c4
    simp only [Option.some.injEq, Prod.mk.injEq] at H
    obtain ⟨rfl, rfl⟩ := H
    go_enter Try.func31, Try.ntmps31
    go_wp2
    go_ret2
    exact ⟨by first | rfl | (simp; done) | (simp [*]; done), by repeat (first | exact Drawn0.refl _ | apply Drawn0.step)⟩
  · rw [if_neg c4] at H
    have c4b0 : (a2 == 0) = false := beq_eq_false_iff_ne.mpr c4
    have c4b1 : (a2 != 0) = true := bne_iff_ne.mpr c4
    replace H := Option.bind_eq_some_iff.mp H
    obtain ⟨t103, A50, H⟩ := H
    replace H : ((fix_size.f a1).bind fun t104 => ((bits_Mul64.f t103 t104).bind fun bt105 => ((fix_size.f a2).bind fun t107 => (if t107 = 0 then (none) else ((bits_Div64.f k (Int.tmod bt105.1 t107) bt105.2 t107).bind fun bt108 => (if bt108.2 > (IntKind.u64.wrap (t107 - bt108.2)) then (fix_MulDiv.j0 k (!((!((decide (a0 < 0)) == (decide (a1 < 0)))) == (decide (a2 < 0)))) (IntKind.u64.wrap (Int.tdiv bt105.1 t107)) bt108.1 true) else (if bt108.2 = (IntKind.u64.wrap (t107 - bt108.2)) then (fix_MulDiv.j0 k (!((!((decide (a0 < 0)) == (decide (a1 < 0)))) == (decide (a2 < 0)))) (IntKind.u64.wrap (Int.tdiv bt105.1 t107)) bt108.1 (!(!((!((decide (a0 < 0)) == (decide (a1 < 0)))) == (decide (a2 < 0)))))) else (fix_MulDiv.j0 k (!((!((decide (a0 < 0)) == (decide (a1 < 0)))) == (decide (a2 < 0)))) (IntKind.u64.wrap (Int.tdiv bt105.1 t107)) bt108.1 false)))))))) = some (r1, r2) := H
    have A5 := Aside0.mk A50
    clear A50
    replace H := Option.bind_eq_some_iff.mp H
    obtain ⟨t104, A60, H⟩ := H
    replace H : ((bits_Mul64.f t103 t104).bind fun bt105 => ((fix_size.f a2).bind fun t107 => (if t107 = 0 then (none) else ((bits_Div64.f k (Int.tmod bt105.1 t107) bt105.2 t107).bind fun bt108 => (if bt108.2 > (IntKind.u64.wrap (t107 - bt108.2)) then (fix_MulDiv.j0 k (!((!((decide (a0 < 0)) == (decide (a1 < 0)))) == (decide (a2 < 0)))) (IntKind.u64.wrap (Int.tdiv bt105.1 t107)) bt108.1 true) else (if bt108.2 = (IntKind.u64.wrap (t107 - bt108.2)) then (fix_MulDiv.j0 k (!((!((decide (a0 < 0)) == (decide (a1 < 0)))) == (decide (a2 < 0)))) (IntKind.u64.wrap (Int.tdiv bt105.1 t107)) bt108.1 (!(!((!((decide (a0 < 0)) == (decide (a1 < 0)))) == (decide (a2 < 0)))))) else (fix_MulDiv.j0 k (!((!((decide (a0 < 0)) == (decide (a1 < 0)))) == (decide (a2 < 0)))) (IntKind.u64.wrap (Int.tdiv bt105.1 t107)) bt108.1 false))))))) = some (r1, r2) := H
    have A6 := Aside0.mk A60
    clear A60
    replace H := Option.bind_eq_some_iff.mp H
    obtain ⟨⟨t105, t106⟩, A70, H⟩ := H
    replace H : ((fix_size.f a2).bind fun t107 => (if t107 = 0 then (none) else ((bits_Div64.f k (Int.tmod t105 t107) t106 t107).bind fun bt108 => (if bt108.2 > (IntKind.u64.wrap (t107 - bt108.2)) then (fix_MulDiv.j0 k (!((!((decide (a0 < 0)) == (decide (a1 < 0)))) == (decide (a2 < 0)))) (IntKind.u64.wrap (Int.tdiv t105 t107)) bt108.1 true) else (if bt108.2 = (IntKind.u64.wrap (t107 - bt108.2)) then (fix_MulDiv.j0 k (!((!((decide (a0 < 0)) == (decide (a1 < 0)))) == (decide (a2 < 0)))) (IntKind.u64.wrap (Int.tdiv t105 t107)) bt108.1 (!(!((!((decide (a0 < 0)) == (decide (a1 < 0)))) == (decide (a2 < 0)))))) else (fix_MulDiv.j0 k (!((!((decide (a0 < 0)) == (decide (a1 < 0)))) == (decide (a2 < 0)))) (IntKind.u64.wrap (Int.tdiv t105 t107)) bt108.1 false)))))) = some (r1, r2) := H
    have A7 := Aside0.mk A70
    clear A70
    replace H := Option.bind_eq_some_iff.mp H
    obtain ⟨t107, A80, H⟩ := H
    replace H : (if t107 = 0 then (none) else ((bits_Div64.f k (Int.tmod t105 t107) t106 t107).bind fun bt108 => (if bt108.2 > (IntKind.u64.wrap (t107 - bt108.2)) then (fix_MulDiv.j0 k (!((!((decide (a0 < 0)) == (decide (a1 < 0)))) == (decide (a2 < 0)))) (IntKind.u64.wrap (Int.tdiv t105 t107)) bt108.1 true) else (if bt108.2 = (IntKind.u64.wrap (t107 - bt108.2)) then (fix_MulDiv.j0 k (!((!((decide (a0 < 0)) == (decide (a1 < 0)))) == (decide (a2 < 0)))) (IntKind.u64.wrap (Int.tdiv t105 t107)) bt108.1 (!(!((!((decide (a0 < 0)) == (decide (a1 < 0)))) == (decide (a2 < 0)))))) else (fix_MulDiv.j0 k (!((!((decide (a0 < 0)) == (decide (a1 < 0)))) == (decide (a2 < 0)))) (IntKind.u64.wrap (Int.tdiv t105 t107)) bt108.1 false))))) = some (r1, r2) := H
    have A8 := Aside0.mk A80
    clear A80
    by_cases c9 : t107 = 0
    · rw [if_pos c9] at H
      exact absurd H (by simp)
    · rw [if_neg c9] at H
      have c9b0 : (t107 == 0) = false := beq_eq_false_iff_ne.mpr c9
      have c9b1 : (t107 != 0) = true := bne_iff_ne.mpr c9
      replace H := Option.bind_eq_some_iff.mp H
      obtain ⟨⟨t108, t109⟩, A100, H⟩ := H
      replace H : (if t109 > (IntKind.u64.wrap (t107 - t109)) then (fix_MulDiv.j0 k (!((!((decide (a0 < 0)) == (decide (a1 < 0)))) == (decide (a2 < 0)))) (IntKind.u64.wrap (Int.tdiv t105 t107)) t108 true) else (if t109 = (IntKind.u64.wrap (t107 - t109)) then (fix_MulDiv.j0 k (!((!((decide (a0 < 0)) == (decide (a1 < 0)))) == (decide (a2 < 0)))) (IntKind.u64.wrap (Int.tdiv t105 t107)) t108 (!(!((!((decide (a0 < 0)) == (decide (a1 < 0)))) == (decide (a2 < 0)))))) else (fix_MulDiv.j0 k (!((!((decide (a0 < 0)) == (decide (a1 < 0)))) == (decide (a2 < 0)))) (IntKind.u64.wrap (Int.tdiv t105 t107)) t108 false))) = some (r1, r2) := H
      have A10 := Aside0.mk A100
      clear A100
      have HC11 := Aside0.mk H
      clear H
      go_enter Try.func31, Try.ntmps31
      go_upto_region 9 with (first | ((with_reducible refine gate_callee (f := 38) rfl ?_); refine goesL_ (some 21) rfl rfl Try.func38 (by kernel_rfl) rfl #[.int .i64 a0] rfl (by (try simp only [List.map_toArray, List.map_cons, List.map_nil]); first | done | rfl | (simp only [List.length_drop, List.length_take]; rfl)) ?_; (with_reducible refine (fix_size.calls a0 t103 _ A5.out).mono ?_); rintro e w' ⟨rfl, ⟨nd, rfl⟩⟩; refine ⟨_, rfl, ?_⟩) | ((with_reducible refine gate_callee (f := 38) rfl ?_); refine goesL_ (some 23) rfl rfl Try.func38 (by kernel_rfl) rfl #[.int .i64 a1] rfl (by (try simp only [List.map_toArray, List.map_cons, List.map_nil]); first | done | rfl | (simp only [List.length_drop, List.length_take]; rfl)) ?_; (with_reducible refine (fix_size.calls a1 t104 _ A6.out).mono ?_); rintro e w' ⟨rfl, ⟨nd, rfl⟩⟩; refine ⟨_, rfl, ?_⟩) | ((with_reducible refine gate_callee (f := 37) rfl ?_); refine goesL_ (some 24) rfl rfl Try.func37 (by kernel_rfl) rfl #[.int .u64 t103, .int .u64 t104] rfl (by (try simp only [List.map_toArray, List.map_cons, List.map_nil]); first | done | rfl | (simp only [List.length_drop, List.length_take]; rfl)) ?_; (with_reducible refine (bits_Mul64.calls t103 t104 t105 t106 _ A7.out).mono ?_); rintro e w' ⟨rfl, ⟨nd, rfl⟩⟩; refine ⟨_, rfl, ?_⟩) | ((with_reducible refine gate_callee (f := 38) rfl ?_); refine goesL_ (some 36) rfl rfl Try.func38 (by kernel_rfl) rfl #[.int .i64 a2] rfl (by (try simp only [List.map_toArray, List.map_cons, List.map_nil]); first | done | rfl | (simp only [List.length_drop, List.length_take]; rfl)) ?_; (with_reducible refine (fix_size.calls a2 t107 _ A8.out).mono ?_); rintro e w' ⟨rfl, ⟨nd, rfl⟩⟩; refine ⟨_, rfl, ?_⟩) | ((with_reducible refine gate_callee (f := 39) rfl ?_); refine goesL_ (some 46) rfl rfl Try.func39 (by kernel_rfl) rfl #[.int .u64 (Int.tmod t105 t107), .int .u64 t106, .int .u64 t107] rfl (by (try simp only [List.map_toArray, List.map_cons, List.map_nil]); first | done | rfl | (simp only [List.length_drop, List.length_take]; rfl)) ?_; (with_reducible refine (bits_Div64.calls k (Int.tmod t105 t107) t106 t107 t108 t109 _ A10.out).mono ?_); rintro e w' ⟨rfl, ⟨nd, rfl⟩⟩; refine ⟨_, rfl, ?_⟩))
      (try simp only [Act.put, List.setIfInBounds_toArray, List.set_cons_zero, List.set_cons_succ])
      go_cut [10, 63] (fun v10 v63 wc => ∃ (kq : Nat) (x10_10 : Bool) (x63_10 : Bool), v10 = .bool x10_10 ∧ v63 = .bool x63_10 ∧ Aside0 (fix_MulDiv.j0 kq x10_10 (IntKind.u64.wrap (Int.tdiv t105 t107)) t108 x63_10 = some (r1, r2)) ∧ Aside0 (kq ≤ k) ∧ Drawn0 w wc)
      case first =>
        have H := HC11.out
        clear HC11
        by_cases c12 : t109 > (IntKind.u64.wrap (t107 - t109))
        · rw [if_pos c12] at H
          have c12b0 : decide ((IntKind.u64.wrap (t107 - t109)) < t109) = true := decide_eq_true c12
          clear c12
          (first | rw [c12b0] | (simp only [i64_w, i32_w]; rw [c12b0]) | skip)
          have H' := Aside0.mk H
          clear H
          go_wp2
          go_meet
          case rel => exact ⟨_, ((!((!((decide (a0 < 0)) == (decide (a1 < 0)))) == (decide (a2 < 0))))), (true), (by first | rfl | (simp; done) | (simp [*]; done) | (by_cases hdp0_ : a0 < 0 <;> by_cases hdp1_ : a1 < 0 <;> by_cases hdp2_ : a2 < 0 <;> simp [*] <;> done)), (by first | rfl | (simp; done) | (simp [*]; done)), H', ⟨by first | omega | exact Nat.le_refl _⟩, by repeat (first | exact Drawn0.refl _ | apply Drawn0.step)⟩
        · rw [if_neg c12] at H
          have c12b0 : decide ((IntKind.u64.wrap (t107 - t109)) < t109) = false := decide_eq_false c12
          clear c12
          (first | rw [c12b0] | (simp only [i64_w, i32_w]; rw [c12b0]) | skip)
          by_cases c13 : t109 = (IntKind.u64.wrap (t107 - t109))
          · rw [if_pos c13] at H
            have c13b0 : (t109 == (IntKind.u64.wrap (t107 - t109))) = true := beq_iff_eq.mpr c13
            have c13b1 : (t109 != (IntKind.u64.wrap (t107 - t109))) = false := bne_eq_false_iff_eq.mpr c13
            clear c13
            have H' := Aside0.mk H
            clear H
            go_wp2
            go_meet
            case rel => exact ⟨_, ((!((!((decide (a0 < 0)) == (decide (a1 < 0)))) == (decide (a2 < 0))))), (!(!((!((decide (a0 < 0)) == (decide (a1 < 0)))) == (decide (a2 < 0))))), (by first | rfl | (simp; done) | (simp [*]; done) | (by_cases hdp0_ : a0 < 0 <;> by_cases hdp1_ : a1 < 0 <;> by_cases hdp2_ : a2 < 0 <;> simp [*] <;> done)), (by first | rfl | (simp; done) | (simp [*]; done) | (by_cases hdp0_ : a0 < 0 <;> by_cases hdp1_ : a1 < 0 <;> by_cases hdp2_ : a2 < 0 <;> simp [*] <;> done)), H', ⟨by first | omega | exact Nat.le_refl _⟩, by repeat (first | exact Drawn0.refl _ | apply Drawn0.step)⟩
          · rw [if_neg c13] at H
            have c13b0 : (t109 == (IntKind.u64.wrap (t107 - t109))) = false := beq_eq_false_iff_ne.mpr c13
            have c13b1 : (t109 != (IntKind.u64.wrap (t107 - t109))) = true := bne_iff_ne.mpr c13
            have H' := Aside0.mk H
            clear H
            go_wp2
            go_meet
            case rel => exact ⟨_, ((!((!((decide (a0 < 0)) == (decide (a1 < 0)))) == (decide (a2 < 0))))), (false), (by first | rfl | (simp; done) | (simp [*]; done) | (by_cases hdp0_ : a0 < 0 <;> by_cases hdp1_ : a1 < 0 <;> by_cases hdp2_ : a2 < 0 <;> simp [*] <;> done)), (by first | rfl | (simp; done) | (simp [*]; done)), H', ⟨by first | omega | exact Nat.le_refl _⟩, by repeat (first | exact Drawn0.refl _ | apply Drawn0.step)⟩
      case rest =>
        clear HC11
        try clear c1
        try clear p1
        try clear p2
        try clear c3
        try clear c4
        try clear c4b0
        try clear c4b1
        try clear c9
        try clear c9b0
        try clear c9b1
        try clear c12
        try clear c12b0
        try clear c13
        try clear c13b0
        try clear c13b1
        obtain ⟨kq, x10_10, x63_10, rfl, rfl, HA, HJ10, ⟨mc10, rfl⟩⟩ := hcut
        cases kq with
        | zero => exact absurd HA.out (by simp [fix_MulDiv.j0])
        | succ kj10 =>
          have H := HA.out
          clear HA
          simp only [fix_MulDiv.j0] at H
          by_cases c14 : x63_10 = true
          · subst c14
            have H1 : (if c01 0 = true then ((fix_number.f kj10 x10_10 (IntKind.u64.wrap ((IntKind.u64.wrap (Int.tdiv t105 t107)) + (u64car t108 1 0))) (u64add t108 1 0)).bind fun bt110 => (some (bt110.1, bt110.2))) else (none)) = some (r1, r2) := by rw [if_pos rfl] at H; exact H
            clear H
            have H := H1
            clear H1
            by_cases c15 : c01 0 = true
            · rw [if_pos c15] at H
              have c15b0 := eq_true c15
              have c15b1 : decide (c01 0 = true) = true := decide_eq_true c15
              clear c15
              replace H := Option.bind_eq_some_iff.mp H
              obtain ⟨⟨t110, t111⟩, A160, H⟩ := H
              replace H : (some (t110, t111)) = some (r1, r2) := H
              have A16 := Aside0.mk A160
              clear A160
              simp only [Option.some.injEq, Prod.mk.injEq] at H
              obtain ⟨rfl, rfl⟩ := H
              go_wp2_with (first | ((with_reducible refine gate_callee (f := 41) rfl ?_); refine goesL_ (some 75) rfl rfl Try.func41 (by kernel_rfl) rfl #[.bool x10_10, .int .u64 (IntKind.u64.wrap ((IntKind.u64.wrap (Int.tdiv t105 t107)) + (u64car t108 1 0))), .int .u64 (u64add t108 1 0)] rfl (by (try simp only [List.map_toArray, List.map_cons, List.map_nil]); first | done | rfl | (simp only [List.length_drop, List.length_take]; rfl)) ?_; (with_reducible refine (fix_number.calls kj10 x10_10 (IntKind.u64.wrap ((IntKind.u64.wrap (Int.tdiv t105 t107)) + (u64car t108 1 0))) (u64add t108 1 0) t110 t111 _ A16.out).mono ?_); rintro e w' ⟨rfl, ⟨nd, rfl⟩⟩; refine ⟨_, rfl, ?_⟩))
              go_ret2
              exact ⟨by first | rfl | (simp; done) | (simp [*]; done), by repeat (first | exact Drawn0.refl _ | apply Drawn0.step)⟩
            · rw [if_neg c15] at H
              exact absurd H (by simp)
          · replace c14 := Bool.eq_false_iff.mpr c14
            subst c14
            have H1 : ((fix_number.f kj10 x10_10 (IntKind.u64.wrap (Int.tdiv t105 t107)) t108).bind fun bt112 => (some (bt112.1, bt112.2))) = some (r1, r2) := by rw [if_neg (show ¬ (false = true) by decide)] at H; exact H
            clear H
            have H := H1
            clear H1
            replace H := Option.bind_eq_some_iff.mp H
            obtain ⟨⟨t112, t113⟩, A170, H⟩ := H
            replace H : (some (t112, t113)) = some (r1, r2) := H
            have A17 := Aside0.mk A170
            clear A170
            simp only [Option.some.injEq, Prod.mk.injEq] at H
            obtain ⟨rfl, rfl⟩ := H
            go_wp2_with (first | ((with_reducible refine gate_callee (f := 41) rfl ?_); refine goesL_ (some 75) rfl rfl Try.func41 (by kernel_rfl) rfl #[.bool x10_10, .int .u64 (IntKind.u64.wrap (Int.tdiv t105 t107)), .int .u64 t108] rfl (by (try simp only [List.map_toArray, List.map_cons, List.map_nil]); first | done | rfl | (simp only [List.length_drop, List.length_take]; rfl)) ?_; (with_reducible refine (fix_number.calls kj10 x10_10 (IntKind.u64.wrap (Int.tdiv t105 t107)) t108 t112 t113 _ A17.out).mono ?_); rintro e w' ⟨rfl, ⟨nd, rfl⟩⟩; refine ⟨_, rfl, ?_⟩))
            go_ret2
            exact ⟨by first | rfl | (simp; done) | (simp [*]; done), by repeat (first | exact Drawn0.refl _ | apply Drawn0.step)⟩

/-! ### ratchet_Billed: function 22 -/
mutual
def ratchet_Billed.j0 : Nat → List Int → Int → Int → Bool → Option (Int × Int)
  | 0, _, _, _, _ => none
  | k + 1, x0, x1, x2, x34 => if x34 = true then (some (0, 8)) else (ratchet_Billed.l0 k x0 x1 x2 x0 (x0.length : Int) 0)
def ratchet_Billed.l0 : Nat → List Int → Int → Int → List Int → Int → Int → Option (Int × Int)
  | 0, _, _, _, _, _, _ => none
  | k + 1, x0, x1, x2, x35, x36, x37 => if x37 < x36 then (if 0 ≤ x37 then (if x37 < (x35.length : Int) then ((ratchet_peak.f (rd x35 x37)).bind fun t115 => (if t115 = true then (ratchet_Billed.l0 k x0 x1 x2 x35 x36 (wrap64 (x37 + 1))) else (some (0, 5)))) else (none)) else (none)) else (if 0 ≤ (mx (wrap64 ((wrap64 ((x0.length : Int) - 1)) - x2)) 0) then (if (mx (wrap64 ((wrap64 ((x0.length : Int) - 1)) - x2)) 0) ≤ (wrap64 ((x0.length : Int) - 1)) then (if (wrap64 ((x0.length : Int) - 1)) ≤ (x0.length : Int) then ((some ((x0.take ((wrap64 ((x0.length : Int) - 1)) : Int).toNat).drop ((mx (wrap64 ((wrap64 ((x0.length : Int) - 1)) - x2)) 0) : Int).toNat : List Int)).bind fun y116 => (ratchet_Billed.l1 k x0 x1 (wrap64 ((x0.length : Int) - 1)) 0 y116 (y116.length : Int) 0)) else (none)) else (none)) else (none))
def ratchet_Billed.l1 : Nat → List Int → Int → Int → Int → List Int → Int → Int → Option (Int × Int)
  | 0, _, _, _, _, _, _, _ => none
  | k + 1, x0, x1, x10, x11, x54, x55, x56 => if x56 < x55 then (if 0 ≤ x56 then (if x56 < (x54.length : Int) then (ratchet_Billed.l1 k x0 x1 x10 (mx x11 (rd x54 x56)) x54 x55 (wrap64 (x56 + 1))) else (none)) else (none)) else ((fix_MulDiv.f k x11 x1 100).bind fun bt121 => (if 0 ≤ x10 then (if x10 < (x0.length : Int) then (some (mx bt121.1 (rd x0 x10), 0)) else (none)) else (none)))
end
def ratchet_Billed.f (k : Nat) (l0 : List Int) (a1 : Int) (a2 : Int) : Option (Int × Int) := if (l0.length : Int) = 0 then (ratchet_Billed.j0 k l0 a1 a2 true) else (if a1 < 0 then (ratchet_Billed.j0 k l0 a1 a2 true) else (if a1 > 100 then (ratchet_Billed.j0 k l0 a1 a2 true) else (if a2 < 0 then (ratchet_Billed.j0 k l0 a1 a2 true) else (ratchet_Billed.j0 k l0 a1 a2 (decide (a2 > 36))))))
theorem ratchet_Billed.mono_l : ∀ k, (∀ y0 y1 y2 y3, LeO (ratchet_Billed.j0 k y0 y1 y2 y3) (ratchet_Billed.j0 (k + 1) y0 y1 y2 y3)) ∧ (∀ y0 y1 y2 y3 y4 y5, LeO (ratchet_Billed.l0 k y0 y1 y2 y3 y4 y5) (ratchet_Billed.l0 (k + 1) y0 y1 y2 y3 y4 y5)) ∧ (∀ y0 y1 y2 y3 y4 y5 y6, LeO (ratchet_Billed.l1 k y0 y1 y2 y3 y4 y5 y6) (ratchet_Billed.l1 (k + 1) y0 y1 y2 y3 y4 y5 y6))
  | 0 => ⟨fun _ _ _ _ r h => by simp [ratchet_Billed.j0] at h, fun _ _ _ _ _ _ r h => by simp [ratchet_Billed.l0] at h, fun _ _ _ _ _ _ _ r h => by simp [ratchet_Billed.l1] at h⟩
  | k + 1 => by
    obtain ⟨ih0, ih1, ih2⟩ := ratchet_Billed.mono_l k
    refine ⟨?_, ?_, ?_⟩
    · intro y0 y1 y2 y3
      unfold ratchet_Billed.j0
      repeat' first
      | (with_reducible exact ih0 _ _ _ _)
      | (with_reducible exact ih1 _ _ _ _ _ _)
      | (with_reducible exact ih2 _ _ _ _ _ _ _)
      | (with_reducible exact fix_MulDiv.mono _ _ _ _)
      | (with_reducible exact LeO.refl _)
      | (with_reducible exact LeO.none _)
      | (with_reducible refine LeO.ite ?_ ?_)
      | (with_reducible refine LeO.bind ?_ (fun _ => ?_))
      | exact ih0 _ _ _ _
      | exact ih1 _ _ _ _ _ _
      | exact ih2 _ _ _ _ _ _ _
      | exact fix_MulDiv.mono _ _ _ _
      | exact LeO.none _
      | refine LeO.ite ?_ ?_
      | refine LeO.bind ?_ (fun _ => ?_)
    · intro y0 y1 y2 y3 y4 y5
      unfold ratchet_Billed.l0
      repeat' first
      | (with_reducible exact ih0 _ _ _ _)
      | (with_reducible exact ih1 _ _ _ _ _ _)
      | (with_reducible exact ih2 _ _ _ _ _ _ _)
      | (with_reducible exact fix_MulDiv.mono _ _ _ _)
      | (with_reducible exact LeO.refl _)
      | (with_reducible exact LeO.none _)
      | (with_reducible refine LeO.ite ?_ ?_)
      | (with_reducible refine LeO.bind ?_ (fun _ => ?_))
      | exact ih0 _ _ _ _
      | exact ih1 _ _ _ _ _ _
      | exact ih2 _ _ _ _ _ _ _
      | exact fix_MulDiv.mono _ _ _ _
      | exact LeO.none _
      | refine LeO.ite ?_ ?_
      | refine LeO.bind ?_ (fun _ => ?_)
    · intro y0 y1 y2 y3 y4 y5 y6
      unfold ratchet_Billed.l1
      repeat' first
      | (with_reducible exact ih0 _ _ _ _)
      | (with_reducible exact ih1 _ _ _ _ _ _)
      | (with_reducible exact ih2 _ _ _ _ _ _ _)
      | (with_reducible exact fix_MulDiv.mono _ _ _ _)
      | (with_reducible exact LeO.refl _)
      | (with_reducible exact LeO.none _)
      | (with_reducible refine LeO.ite ?_ ?_)
      | (with_reducible refine LeO.bind ?_ (fun _ => ?_))
      | exact ih0 _ _ _ _
      | exact ih1 _ _ _ _ _ _
      | exact ih2 _ _ _ _ _ _ _
      | exact fix_MulDiv.mono _ _ _ _
      | exact LeO.none _
      | refine LeO.ite ?_ ?_
      | refine LeO.bind ?_ (fun _ => ?_)
theorem ratchet_Billed.mono : ∀ a0 a1 a2 k, LeO (ratchet_Billed.f k a0 a1 a2) (ratchet_Billed.f (k + 1) a0 a1 a2) := by
  intro a0 a1 a2 k
  obtain ⟨ih0, ih1, ih2⟩ := ratchet_Billed.mono_l k
  unfold ratchet_Billed.f
  repeat' first
      | (with_reducible exact ih0 _ _ _ _)
      | (with_reducible exact ih1 _ _ _ _ _ _)
      | (with_reducible exact ih2 _ _ _ _ _ _ _)
      | (with_reducible exact fix_MulDiv.mono _ _ _ _)
      | (with_reducible exact LeO.refl _)
      | (with_reducible exact LeO.none _)
      | (with_reducible refine LeO.ite ?_ ?_)
      | (with_reducible refine LeO.bind ?_ (fun _ => ?_))
      | exact ih0 _ _ _ _
      | exact ih1 _ _ _ _ _ _
      | exact ih2 _ _ _ _ _ _ _
      | exact fix_MulDiv.mono _ _ _ _
      | exact LeO.none _
      | refine LeO.ite ?_ ?_
      | refine LeO.bind ?_ (fun _ => ?_)
set_option maxHeartbeats 8000000 in
set_option maxRecDepth 100000 in
theorem ratchet_Billed.calls (k : Nat) (A0 : Option Addr) (c0 : Nat) (l0 : List Int) (a1 : Int) (a2 : Int) (r1 : Int) (r2 : Int) (w : World) (hr0 : Kd.C (Kd.int .i64) w A0 l0.length l0) (hc0 : l0.length ≤ c0) (h : ratchet_Billed.f k l0 a1 a2 = some (r1, r2)) :
    Calls Try.prog 22 #[.slice A0 l0.length c0, .int .i64 a1, .int .i64 a2] w fun e w' => e = .returned (.tuple #[.int .i64 r1, .int .i64 r2]) ∧ Below w.heap.size w w' := by
  have HR0 := Aside0.mk hr0
  have HC0 := Aside0.mk hc0
  clear hr0 hc0
  have HB := Aside0.mk (Below.refl w.heap.size w)
  have H : (if (l0.length : Int) = 0 then (ratchet_Billed.j0 k l0 a1 a2 true) else (if a1 < 0 then (ratchet_Billed.j0 k l0 a1 a2 true) else (if a1 > 100 then (ratchet_Billed.j0 k l0 a1 a2 true) else (if a2 < 0 then (ratchet_Billed.j0 k l0 a1 a2 true) else (ratchet_Billed.j0 k l0 a1 a2 (decide (a2 > 36))))))) = some (r1, r2) := h
  clear h
  have HC4 := Aside0.mk H
  clear H
  go_enter Try.func22, Try.ntmps22
  go_upto_region 1 with (fail)
  go_cut [34] (fun v34 wc => ∃ (kq : Nat) (x34_3 : Bool), v34 = .bool x34_3 ∧ Aside0 (ratchet_Billed.j0 kq l0 a1 a2 x34_3 = some (r1, r2)) ∧ Aside0 (kq ≤ k) ∧ Aside0 (Below w.heap.size w wc))
  case first =>
    have H := HC4.out
    clear HC4
    by_cases c5 : (l0.length : Int) = 0
    · rw [if_pos c5] at H
      have c5b0 : ((l0.length : Int) == 0) = true := beq_iff_eq.mpr c5
      have c5b1 : ((l0.length : Int) != 0) = false := bne_eq_false_iff_eq.mpr c5
      clear c5
      (first | rw [c5b0] | (simp only [i64_w, i32_w]; rw [c5b0]) | skip)
      have H' := Aside0.mk H
      clear H
      go_wp2
      go_meet
      case rel => exact ⟨_, (true), (by first | rfl | (simp; done) | (simp [*]; done)), H', ⟨by first | omega | exact Nat.le_refl _⟩, ⟨by repeat (first | (with_reducible first | exact HB.out | apply below_alloc | apply pw_below_drewN | apply below_drew1) | exact HB.out)⟩⟩
    · rw [if_neg c5] at H
      have c5b0 : ((l0.length : Int) == 0) = false := beq_eq_false_iff_ne.mpr c5
      have c5b1 : ((l0.length : Int) != 0) = true := bne_iff_ne.mpr c5
      have c5b2 : ¬ (l0 = []) := fun h_ => c5 (by rw [h_]; rfl)
      (first | rw [c5b0] | (simp only [i64_w, i32_w]; rw [c5b0]) | skip)
      by_cases c6 : a1 < 0
      · rw [if_pos c6] at H
        have c6b0 : decide (a1 < 0) = true := decide_eq_true c6
        clear c6
        have H' := Aside0.mk H
        clear H
        go_wp2
        go_meet
        case rel => exact ⟨_, (true), (by first | rfl | (simp; done) | (simp [*]; done)), H', ⟨by first | omega | exact Nat.le_refl _⟩, ⟨by repeat (first | (with_reducible first | exact HB.out | apply below_alloc | apply pw_below_drewN | apply below_drew1) | exact HB.out)⟩⟩
      · rw [if_neg c6] at H
        have c6b0 : decide (a1 < 0) = false := decide_eq_false c6
        clear c6
        by_cases c7 : a1 > 100
        · rw [if_pos c7] at H
          have c7b0 : decide (100 < a1) = true := decide_eq_true c7
          clear c7
          have H' := Aside0.mk H
          clear H
          go_wp2
          go_meet
          case rel => exact ⟨_, (true), (by first | rfl | (simp; done) | (simp [*]; done)), H', ⟨by first | omega | exact Nat.le_refl _⟩, ⟨by repeat (first | (with_reducible first | exact HB.out | apply below_alloc | apply pw_below_drewN | apply below_drew1) | exact HB.out)⟩⟩
        · rw [if_neg c7] at H
          have c7b0 : decide (100 < a1) = false := decide_eq_false c7
          clear c7
          by_cases c8 : a2 < 0
          · rw [if_pos c8] at H
            have c8b0 : decide (a2 < 0) = true := decide_eq_true c8
            clear c8
            have H' := Aside0.mk H
            clear H
            go_wp2
            go_meet
            case rel => exact ⟨_, (true), (by first | rfl | (simp; done) | (simp [*]; done)), H', ⟨by first | omega | exact Nat.le_refl _⟩, ⟨by repeat (first | (with_reducible first | exact HB.out | apply below_alloc | apply pw_below_drewN | apply below_drew1) | exact HB.out)⟩⟩
          · rw [if_neg c8] at H
            have c8b0 : decide (a2 < 0) = false := decide_eq_false c8
            clear c8
            have H' := Aside0.mk H
            clear H
            go_wp2
            go_meet
            case rel => exact ⟨_, (decide (a2 > 36)), (by first | rfl | (simp; done) | (simp [*]; done) | (by_cases hdp0_ : a2 > 36 <;> simp [*] <;> done)), H', ⟨by first | omega | exact Nat.le_refl _⟩, ⟨by repeat (first | (with_reducible first | exact HB.out | apply below_alloc | apply pw_below_drewN | apply below_drew1) | exact HB.out)⟩⟩
  case rest =>
    clear HC4
    try clear c2
    try clear p2
    try clear c5
    try clear c5b0
    try clear c5b1
    try clear c5b2
    try clear c6
    try clear c6b0
    try clear c7
    try clear c7b0
    try clear c8
    try clear c8b0
    obtain ⟨kq, x34_3, rfl, HA, HJ3, HB⟩ := hcut
    cases kq with
    | zero => exact absurd HA.out (by simp [ratchet_Billed.j0])
    | succ kj3 =>
      have H := HA.out
      clear HA
      simp only [ratchet_Billed.j0] at H
      by_cases c9 : x34_3 = true
      · subst c9
        have H1 : (some (0, 8)) = some (r1, r2) := by rw [if_pos rfl] at H; exact H
        clear H
        have H := H1
        clear H1
        simp only [Option.some.injEq, Prod.mk.injEq] at H
        obtain ⟨rfl, rfl⟩ := H
        go_wp2
        go_ret2
        exact ⟨by first | rfl | (simp [errW_none, errW_some] <;> rfl) | (simp [*, errW_none, errW_some] <;> rfl), by repeat (first | (with_reducible first | exact HB.out | apply below_alloc | apply pw_below_drewN | apply below_drew1) | exact HB.out)⟩
      · replace c9 := Bool.eq_false_iff.mpr c9
        subst c9
        have H1 : (ratchet_Billed.l0 kj3 l0 a1 a2 l0 (l0.length : Int) 0) = some (r1, r2) := by rw [if_neg (show ¬ (false = true) by decide)] at H; exact H
        clear H
        have H := H1
        clear H1
        have H' := Aside0.mk H
        clear H
        go_wp2
        go_loopg [37] kj3 (fun kq v37 w' => ∃ (x37_2 : Int), v37 = .int .i64 x37_2 ∧ Aside0 (ratchet_Billed.l0 kq l0 a1 a2 l0 (l0.length : Int) x37_2 = some (r1, r2)) ∧ Aside0 (kq ≤ kj3) ∧ Aside0 (Below w.heap.size w w'))
        case atStart => exact ⟨(0), (by first | rfl | (simp; done) | (simp [*]; done)), H', ⟨Nat.le_refl _⟩, ⟨by repeat (first | (with_reducible first | exact HB.out | apply below_alloc | apply pw_below_drewN | apply below_drew1) | exact HB.out)⟩⟩
        case round =>
          clear H'
          try clear c2
          try clear p2
          try clear c5
          try clear c5b0
          try clear c5b1
          try clear c5b2
          try clear c6
          try clear c6b0
          try clear c7
          try clear c7b0
          try clear c8
          try clear c8b0
          try clear c9
          try clear p2
          obtain ⟨x37_2, rfl, HA, HK2, HB⟩ := hrel
          cases gk with
          | zero => exact absurd HA.out (by simp [ratchet_Billed.l0])
          | succ k2 =>
            have H := HA.out
            clear HA
            simp only [ratchet_Billed.l0] at H
            by_cases c10 : x37_2 < (l0.length : Int)
            · rw [if_pos c10] at H
              have c10b0 : decide (x37_2 < (l0.length : Int)) = true := decide_eq_true c10
              clear c10
              by_cases c11 : 0 ≤ x37_2
              · rw [if_pos c11] at H
                have c11b0 : decide (0 ≤ x37_2) = true := decide_eq_true c11
                clear c11
                by_cases c12 : x37_2 < (l0.length : Int)
                · rw [if_pos c12] at H
                  have c12b0 : decide (x37_2 < (l0.length : Int)) = true := decide_eq_true c12
                  clear c12
                  replace H := Option.bind_eq_some_iff.mp H
                  obtain ⟨t115, A130, H⟩ := H
                  replace H : (if t115 = true then (ratchet_Billed.l0 k2 l0 a1 a2 l0 (l0.length : Int) (wrap64 (x37_2 + 1))) else (some (0, 5))) = some (r1, r2) := H
                  have A13 := Aside0.mk A130
                  clear A130
                  by_cases c14 : t115 = true
                  · subst c14
                    have H1 : (ratchet_Billed.l0 k2 l0 a1 a2 l0 (l0.length : Int) (wrap64 (x37_2 + 1))) = some (r1, r2) := by rw [if_pos rfl] at H; exact H
                    clear H
                    have H := H1
                    clear H1
                    have H' := Aside0.mk H
                    clear H
                    have p114 : 0 ≤ (x37_2 : Int) := of_decide_eq_true (by first | (with_reducible assumption) | assumption)
                    have q114 : x37_2 < (l0.length : Int) := of_decide_eq_true (by first | (with_reducible assumption) | assumption)
                    obtain ⟨ad114, e114, hx114_0⟩ := Kd.at_int HR0.out x37_2 p114 q114
                    cases e114
                    replace hx114_0 := (HB.out.cell (World.block_lt_of_cell? w _ hx114_0)).trans hx114_0
                    replace p114 := eq_true p114
                    replace q114 := eq_true q114
                    go_wp2_with (first | ((with_reducible refine gate_callee (f := 30) rfl ?_); refine goesL_ (some 42) rfl rfl Try.func30 (by kernel_rfl) rfl #[.int .i64 (rd l0 x37_2)] rfl (by (try simp only [List.map_toArray, List.map_cons, List.map_nil]); first | done | rfl | (simp only [List.length_drop, List.length_take]; rfl)) ?_; (with_reducible refine (ratchet_peak.calls (rd l0 x37_2) true _ A13.out).mono ?_); rintro e w' ⟨rfl, ⟨nd, rfl⟩⟩; refine ⟨_, rfl, ?_⟩))
                    go_roundg k2
                    case measure => have := HJ3.out; have := HK2.out; omega
                    case rel => exact ⟨(wrap64 (x37_2 + 1)), (by first | rfl | (simp; done) | (simp [*]; done)), H', ⟨by have := HJ3.out; have := HK2.out; omega⟩, ⟨by repeat (first | (with_reducible first | exact HB.out | apply below_alloc | apply pw_below_drewN | apply below_drew1) | exact HB.out)⟩⟩
                  · replace c14 := Bool.eq_false_iff.mpr c14
                    subst c14
                    have H1 : (some (0, 5)) = some (r1, r2) := by rw [if_neg (show ¬ (false = true) by decide)] at H; exact H
                    clear H
                    have H := H1
                    clear H1
                    simp only [Option.some.injEq, Prod.mk.injEq] at H
                    obtain ⟨rfl, rfl⟩ := H
                    have p114 : 0 ≤ (x37_2 : Int) := of_decide_eq_true (by first | (with_reducible assumption) | assumption)
                    have q114 : x37_2 < (l0.length : Int) := of_decide_eq_true (by first | (with_reducible assumption) | assumption)
                    obtain ⟨ad114, e114, hx114_0⟩ := Kd.at_int HR0.out x37_2 p114 q114
                    cases e114
                    replace hx114_0 := (HB.out.cell (World.block_lt_of_cell? w _ hx114_0)).trans hx114_0
                    replace p114 := eq_true p114
                    replace q114 := eq_true q114
                    go_wp2_with (first | ((with_reducible refine gate_callee (f := 30) rfl ?_); refine goesL_ (some 42) rfl rfl Try.func30 (by kernel_rfl) rfl #[.int .i64 (rd l0 x37_2)] rfl (by (try simp only [List.map_toArray, List.map_cons, List.map_nil]); first | done | rfl | (simp only [List.length_drop, List.length_take]; rfl)) ?_; (with_reducible refine (ratchet_peak.calls (rd l0 x37_2) false _ A13.out).mono ?_); rintro e w' ⟨rfl, ⟨nd, rfl⟩⟩; refine ⟨_, rfl, ?_⟩))
                    go_ret2
                    exact ⟨by first | rfl | (simp [errW_none, errW_some] <;> rfl) | (simp [*, errW_none, errW_some] <;> rfl), by repeat (first | (with_reducible first | exact HB.out | apply below_alloc | apply pw_below_drewN | apply below_drew1) | exact HB.out)⟩
                · rw [if_neg c12] at H
                  exact absurd H (by simp)
              · rw [if_neg c11] at H
                exact absurd H (by simp)
            · rw [if_neg c10] at H
              have c10b0 : decide (x37_2 < (l0.length : Int)) = false := decide_eq_false c10
              clear c10
              obtain ⟨ji15, hji15⟩ : ∃ j_ : Int, (mx (wrap64 ((wrap64 ((l0.length : Int) - 1)) - a2)) 0) = j_ := ⟨_, rfl⟩
              replace H : (if 0 ≤ (ji15) then (if (ji15) ≤ (wrap64 ((l0.length : Int) - 1)) then (if (wrap64 ((l0.length : Int) - 1)) ≤ (l0.length : Int) then ((some ((l0.take ((wrap64 ((l0.length : Int) - 1)) : Int).toNat).drop ((ji15) : Int).toNat : List Int)).bind fun y116 => (ratchet_Billed.l1 k2 l0 a1 (wrap64 ((l0.length : Int) - 1)) 0 y116 (y116.length : Int) 0)) else (none)) else (none)) else (none)) = some (r1, r2) := by first | (rw [hji15] at H; exact H) | (simp only [hji15] at H ⊢; exact H)
              have hji15_ : (if (wrap64 ((wrap64 ((l0.length : Int) - 1)) - a2)) < 0 then 0 else (wrap64 ((wrap64 ((l0.length : Int) - 1)) - a2))) = ji15 := hji15
              by_cases c16 : 0 ≤ (ji15)
              · rw [if_pos c16] at H
                have c16b0 := eq_true c16
                have c16b1 : decide (0 ≤ (ji15)) = true := decide_eq_true c16
                clear c16
                by_cases c17 : (ji15) ≤ (wrap64 ((l0.length : Int) - 1))
                · rw [if_pos c17] at H
                  have c17b0 := eq_true c17
                  have c17b1 : decide ((ji15) ≤ (wrap64 ((l0.length : Int) - 1))) = true := decide_eq_true c17
                  clear c17
                  by_cases c18 : (wrap64 ((l0.length : Int) - 1)) ≤ (l0.length : Int)
                  · rw [if_pos c18] at H
                    have c18b0 := eq_true c18
                    have c18b1 : decide ((wrap64 ((l0.length : Int) - 1)) ≤ (l0.length : Int)) = true := decide_eq_true c18
                    clear c18
                    obtain ⟨y116, hy116⟩ : ∃ y_ : List Int, y_ = ((l0.take ((wrap64 ((l0.length : Int) - 1)) : Int).toNat).drop ((ji15) : Int).toNat) := ⟨_, rfl⟩
                    replace H : (ratchet_Billed.l1 k2 l0 a1 (wrap64 ((l0.length : Int) - 1)) 0 y116 (y116.length : Int) 0) = some (r1, r2) := by first | (rw [hy116]; with_reducible exact H) | (have H2_ := (Option.bind_some _ _).symm.trans H; rw [hy116]; with_reducible exact H2_) | (have H2_ := (Option.bind_some _ _).symm.trans H; with_reducible exact H2_) | with_reducible exact H | (rw [hy116]; exact H) | exact H
                    have Ny116 := Aside0.mk hy116
                    clear hy116
                    have H' := Aside0.mk H
                    clear H
                    have q19 : ((wrap64 ((l0.length : Int) - 1)) : Int) ≤ ((l0.length : Int) : Int) := of_decide_eq_true (by first | (with_reducible assumption) | assumption)
                    obtain ⟨i019, hi019, _, hsz19, _⟩ := info_parts info2
                    have hroom19 : l0.length ≤ c0 := HC0.out
                    have hC19 : Kd.C (Kd.int .i64) _ A0 l0.length l0 := HR0.out
                    have ql19 : ((ji15) : Int) ≤ ((wrap64 ((l0.length : Int) - 1)) : Int) := of_decide_eq_true (by first | (with_reducible assumption) | assumption)
                    have q019 : (0 : Int) ≤ ((ji15) : Int) := of_decide_eq_true (by first | (with_reducible assumption) | assumption)
                    have hcut19 := cut_mid (P := Try.prog) 37 2 .i64 .i64 Try.underlying37 hi019 1 hsz19 A0 l0.length c0 (ji15) (wrap64 ((l0.length : Int) - 1)) q019 ql19 q19 hroom19
                    have hr19 := Kd.C_mid (lo := ((ji15) : Int).toNat) (hi := ((wrap64 ((l0.length : Int) - 1)) : Int).toNat) (c := c0) hC19 (by omega) (by omega) hroom19
                    obtain ⟨A19, hA19⟩ : ∃ A1, A1 = (if c0 = ((ji15) : Int).toNat then A0 else (A0 : Option Addr).map (·.add (((ji15) : Int).toNat * 1))) := ⟨_, rfl⟩
                    obtain ⟨c19, hc19⟩ : ∃ c1, c1 = c0 - ((ji15) : Int).toNat := ⟨_, rfl⟩
                    have hy19 : y116.length = ((wrap64 ((l0.length : Int) - 1)) : Int).toNat - ((ji15) : Int).toNat := (by rw [Ny116.out, List.length_drop, List.length_take] <;> omega)
                    rw [show ((l0).take ((wrap64 ((l0.length : Int) - 1)) : Int).toNat).drop ((ji15) : Int).toNat = y116 from Ny116.out.symm] at hr19
                    replace hr19 : Kd.C (Kd.int .i64) _ A19 y116.length y116 := (by rw [hA19]; exact hr19)
                    rw [← hy19, ← hA19, ← hc19] at hcut19
                    have HR119 := Aside0.mk hr19
                    have HC119 := Aside0.mk (show y116.length ≤ c19 from by rw [hy19, hc19]; exact Nat.sub_le_sub_right (Nat.le_trans (by omega) hroom19) _)
                    clear hr19 hC19 hroom19 hi019 hsz19 hc19
                    have KY19 := Aside0.mk hy19
                    have KA19 := Aside0.mk hA19
                    clear hy19 hA19
                    replace q19 := eq_true q19
                    go_wp2
                    go_loopg [11, 56] k2 (fun kq v11 v56 w' => ∃ (x11_3 : Int) (x56_3 : Int), v11 = .int .i64 x11_3 ∧ v56 = .int .i64 x56_3 ∧ Aside0 (ratchet_Billed.l1 kq l0 a1 (wrap64 ((l0.length : Int) - 1)) x11_3 y116 (y116.length : Int) x56_3 = some (r1, r2)) ∧ Aside0 (kq ≤ k2) ∧ Aside0 (Below w.heap.size w w'))
                    case atStart => exact ⟨(0), (0), (by first | rfl | (simp; done) | (simp [*]; done)), (by first | rfl | (simp; done) | (simp [*]; done)), H', ⟨Nat.le_refl _⟩, ⟨by repeat (first | (with_reducible first | exact HB.out | apply below_alloc | apply pw_below_drewN | apply below_drew1) | exact HB.out)⟩⟩
                    case round =>
                      clear H'
                      try clear c1
                      try clear p1
                      try clear q1
                      try clear hx1
                      try clear c2
                      try clear p2
                      try clear c3
                      try clear c5
                      try clear c5b0
                      try clear c5b1
                      try clear c5b2
                      try clear c6
                      try clear c6b0
                      try clear p6
                      try clear c7
                      try clear c7b0
                      try clear c8
                      try clear c8b0
                      try clear c9
                      try clear c10
                      try clear c10b0
                      try clear c11
                      try clear c11b0
                      try clear p11
                      try clear q11
                      try clear hx11
                      try clear c12
                      try clear c12b0
                      try clear c14
                      try clear c16
                      try clear c16b0
                      try clear c16b1
                      try clear c17
                      try clear c17b0
                      try clear c17b1
                      try clear c18
                      try clear c18b0
                      try clear c18b1
                      try clear c19
                      try clear q19
                      try clear hx114_0
                      try clear p114
                      try clear p2
                      try clear q019
                      try clear q114
                      try clear q19
                      obtain ⟨x11_3, x56_3, rfl, rfl, HA, HK3, HB⟩ := hrel
                      cases gk with
                      | zero => exact absurd HA.out (by simp [ratchet_Billed.l1])
                      | succ k3 =>
                        have H := HA.out
                        clear HA
                        simp only [ratchet_Billed.l1] at H
                        by_cases c20 : x56_3 < (y116.length : Int)
                        · rw [if_pos c20] at H
                          have c20b0 : decide (x56_3 < (y116.length : Int)) = true := decide_eq_true c20
                          clear c20
                          by_cases c21 : 0 ≤ x56_3
                          · rw [if_pos c21] at H
                            have c21b0 : decide (0 ≤ x56_3) = true := decide_eq_true c21
                            clear c21
                            by_cases c22 : x56_3 < (y116.length : Int)
                            · rw [if_pos c22] at H
                              have c22b0 : decide (x56_3 < (y116.length : Int)) = true := decide_eq_true c22
                              clear c22
                              obtain ⟨ji23, hji23⟩ : ∃ j_ : Int, (mx x11_3 (rd y116 x56_3)) = j_ := ⟨_, rfl⟩
                              replace H : (ratchet_Billed.l1 k3 l0 a1 (wrap64 ((l0.length : Int) - 1)) ji23 y116 (y116.length : Int) (wrap64 (x56_3 + 1))) = some (r1, r2) := by first | (rw [hji23] at H; exact H) | (simp only [hji23] at H ⊢; exact H)
                              have hji23_ : (if x11_3 < (rd y116 x56_3) then (rd y116 x56_3) else x11_3) = ji23 := hji23
                              have H' := Aside0.mk H
                              clear H
                              have p120 : 0 ≤ (x56_3 : Int) := of_decide_eq_true (by first | (with_reducible assumption) | assumption)
                              have q120 : x56_3 < (y116.length : Int) := of_decide_eq_true (by first | (with_reducible assumption) | assumption)
                              obtain ⟨ad120, e120, hx120_0⟩ := Kd.at_int HR119.out x56_3 p120 q120
                              cases e120
                              replace hx120_0 := (HB.out.cell (World.block_lt_of_cell? w _ hx120_0)).trans hx120_0
                              replace p120 := eq_true p120
                              replace q120 := eq_true q120
                              go_wp2
                              go_roundg k3
                              case measure => have := HJ3.out; have := HK2.out; have := HK3.out; omega
                              case rel => exact ⟨(ji23), (wrap64 (x56_3 + 1)), (by first | rfl | (simp; done) | (simp only [← hji23] <;> (first | rfl | simp)) | (simp [*]; done)), (by first | rfl | (simp; done) | (simp [*]; done)), H', ⟨by have := HJ3.out; have := HK2.out; have := HK3.out; omega⟩, ⟨by repeat (first | (with_reducible first | exact HB.out | apply below_alloc | apply pw_below_drewN | apply below_drew1) | exact HB.out)⟩⟩
                            · rw [if_neg c22] at H
                              exact absurd H (by simp)
                          · rw [if_neg c21] at H
                            exact absurd H (by simp)
                        · rw [if_neg c20] at H
                          have c20b0 : decide (x56_3 < (y116.length : Int)) = false := decide_eq_false c20
                          clear c20
                          replace H := Option.bind_eq_some_iff.mp H
                          obtain ⟨⟨t121, t122⟩, A240, H⟩ := H
                          replace H : (if 0 ≤ (wrap64 ((l0.length : Int) - 1)) then (if (wrap64 ((l0.length : Int) - 1)) < (l0.length : Int) then (some (mx t121 (rd l0 (wrap64 ((l0.length : Int) - 1))), 0)) else (none)) else (none)) = some (r1, r2) := H
                          have A24 := Aside0.mk A240
                          clear A240
                          obtain ⟨ji25, hji25⟩ : ∃ j_ : Int, (wrap64 ((l0.length : Int) - 1)) = j_ := ⟨_, rfl⟩
                          replace H : (if 0 ≤ (ji25) then (if (ji25) < (l0.length : Int) then (some (mx t121 (rd l0 (ji25)), 0)) else (none)) else (none)) = some (r1, r2) := by first | (rw [hji25] at H; exact H) | (simp only [hji25] at H ⊢; exact H)
                          (try rw [hji25] at c17b0)
                          (try rw [hji25] at c17b1)
                          (try rw [hji25] at c18b0)
                          (try rw [hji25] at c18b1)
                          (try rw [hji25] at A24)
                          have hji25w : (IntKind.i64.wrap ((l0.length : Int) - 1)) = ji25 := (i64_w _).trans hji25
                          by_cases c26 : 0 ≤ (ji25)
                          · rw [if_pos c26] at H
                            have c26b0 : decide (0 ≤ (ji25)) = true := decide_eq_true c26
                            clear c26
                            by_cases c27 : (ji25) < (l0.length : Int)
                            · rw [if_pos c27] at H
                              have c27b0 : decide ((ji25) < (l0.length : Int)) = true := decide_eq_true c27
                              clear c27
                              obtain ⟨ji28, hji28⟩ : ∃ j_ : Int, (mx t121 (rd l0 (ji25))) = j_ := ⟨_, rfl⟩
                              replace H : (some (ji28, 0)) = some (r1, r2) := by first | (rw [hji28] at H; exact H) | (simp only [hji28] at H ⊢; exact H)
                              (try rw [hji28] at A24)
                              have hji28_ : (if t121 < (rd l0 (ji25)) then (rd l0 (ji25)) else t121) = ji28 := hji28
                              simp only [Option.some.injEq, Prod.mk.injEq] at H
                              obtain ⟨rfl, rfl⟩ := H
                              go_wp2_with (first | ((with_reducible refine gate_callee (f := 31) rfl ?_); refine goesL_ (some 67) rfl rfl Try.func31 (by kernel_rfl) rfl #[.int .i64 x11_3, .int .i64 a1, .int .i64 100] rfl (by (try simp only [List.map_toArray, List.map_cons, List.map_nil]); first | done | rfl | (simp only [List.length_drop, List.length_take]; rfl)) ?_; (with_reducible refine (fix_MulDiv.calls k3 x11_3 a1 100 t121 t122 _ A24.out).mono ?_); rintro e w' ⟨rfl, ⟨nd, rfl⟩⟩; refine ⟨_, rfl, ?_⟩; have p123 : 0 ≤ ((ji25) : Int) := of_decide_eq_true (by first | (with_reducible assumption) | assumption); have q123 : (ji25) < (l0.length : Int) := of_decide_eq_true (by first | (with_reducible assumption) | assumption); obtain ⟨ad123, e123, hx123_0⟩ := Kd.at_int HR0.out (ji25) p123 q123; cases e123; replace hx123_0 := (HB.out.cell (World.block_lt_of_cell? w _ hx123_0)).trans hx123_0; replace p123 := eq_true p123; replace q123 := eq_true q123))
                              go_ret2
                              exact ⟨by first | rfl | (simp [errW_none, errW_some] <;> rfl) | (simp only [← hji15, ← hji25, ← hji28]; first | rfl | (simp [errW_none, errW_some] <;> rfl)) | (simp [*, errW_none, errW_some] <;> rfl), by repeat (first | (with_reducible first | exact HB.out | apply below_alloc | apply pw_below_drewN | apply below_drew1) | exact HB.out)⟩
                            · rw [if_neg c27] at H
                              exact absurd H (by simp)
                          · rw [if_neg c26] at H
                            exact absurd H (by simp)
                  · rw [if_neg c18] at H
                    exact absurd H (by simp)
                · rw [if_neg c17] at H
                  exact absurd H (by simp)
              · rw [if_neg c16] at H
                exact absurd H (by simp)

/-! ### ratchet_Charge: function 24 -/
def ratchet_Charge.j0 : Nat → Int → Int → Bool → Option (Int × Int)
  | 0, _, _, _ => none
  | k + 1, x0, x1, x18 => if x18 = true then (some (0, 5)) else ((fix_MulDiv.f k x0 x1 1000).bind fun bt125 => (if bt125.2 = 0 then (if bt125.1 > 1000000000000000 then (some (0, 5)) else (some (bt125.1, 0))) else (some (0, 5))))
def ratchet_Charge.f (k : Nat) (a0 : Int) (a1 : Int) : Option (Int × Int) := (ratchet_peak.f a0).bind fun t124 => (if t124 = true then (if a1 < 0 then (ratchet_Charge.j0 k a0 a1 true) else (ratchet_Charge.j0 k a0 a1 (decide (a1 > 10000000)))) else (ratchet_Charge.j0 k a0 a1 true))
theorem ratchet_Charge.mono_l : ∀ k, (∀ y0 y1 y2, LeO (ratchet_Charge.j0 k y0 y1 y2) (ratchet_Charge.j0 (k + 1) y0 y1 y2))
  | 0 => fun _ _ _ r h => by simp [ratchet_Charge.j0] at h
  | k + 1 => by
    have ih0 := ratchet_Charge.mono_l k
    · intro y0 y1 y2
      unfold ratchet_Charge.j0
      repeat' first
      | (with_reducible exact ih0 _ _ _)
      | (with_reducible exact fix_MulDiv.mono _ _ _ _)
      | (with_reducible exact LeO.refl _)
      | (with_reducible exact LeO.none _)
      | (with_reducible refine LeO.ite ?_ ?_)
      | (with_reducible refine LeO.bind ?_ (fun _ => ?_))
      | exact ih0 _ _ _
      | exact fix_MulDiv.mono _ _ _ _
      | exact LeO.none _
      | refine LeO.ite ?_ ?_
      | refine LeO.bind ?_ (fun _ => ?_)
theorem ratchet_Charge.mono : ∀ a0 a1 k, LeO (ratchet_Charge.f k a0 a1) (ratchet_Charge.f (k + 1) a0 a1) := by
  intro a0 a1 k
  have ih0 := ratchet_Charge.mono_l k
  unfold ratchet_Charge.f
  repeat' first
      | (with_reducible exact ih0 _ _ _)
      | (with_reducible exact fix_MulDiv.mono _ _ _ _)
      | (with_reducible exact LeO.refl _)
      | (with_reducible exact LeO.none _)
      | (with_reducible refine LeO.ite ?_ ?_)
      | (with_reducible refine LeO.bind ?_ (fun _ => ?_))
      | exact ih0 _ _ _
      | exact fix_MulDiv.mono _ _ _ _
      | exact LeO.none _
      | refine LeO.ite ?_ ?_
      | refine LeO.bind ?_ (fun _ => ?_)
set_option maxHeartbeats 8000000 in
set_option maxRecDepth 100000 in
theorem ratchet_Charge.calls (k : Nat) (a0 : Int) (a1 : Int) (r1 : Int) (r2 : Int) (w : World) (h : ratchet_Charge.f k a0 a1 = some (r1, r2)) :
    Calls Try.prog 24 #[.int .i64 a0, .int .i64 a1] w fun e w' => e = .returned (.tuple #[.int .i64 r1, .int .i64 r2]) ∧ Drawn0 w w' := by
  have H : ((ratchet_peak.f a0).bind fun t124 => (if t124 = true then (if a1 < 0 then (ratchet_Charge.j0 k a0 a1 true) else (ratchet_Charge.j0 k a0 a1 (decide (a1 > 10000000)))) else (ratchet_Charge.j0 k a0 a1 true))) = some (r1, r2) := h
  clear h
  have HC3 := Aside0.mk H
  clear H
  go_enter Try.func24, Try.ntmps24
  go_upto_region 1 with (fail)
  go_cut [18] (fun v18 wc => ∃ (kq : Nat) (x18_2 : Bool), v18 = .bool x18_2 ∧ Aside0 (ratchet_Charge.j0 kq a0 a1 x18_2 = some (r1, r2)) ∧ Aside0 (kq ≤ k) ∧ Drawn0 w wc)
  case first =>
    have H := HC3.out
    clear HC3
    replace H := Option.bind_eq_some_iff.mp H
    obtain ⟨t124, A40, H⟩ := H
    replace H : (if t124 = true then (if a1 < 0 then (ratchet_Charge.j0 k a0 a1 true) else (ratchet_Charge.j0 k a0 a1 (decide (a1 > 10000000)))) else (ratchet_Charge.j0 k a0 a1 true)) = some (r1, r2) := H
    have A4 := Aside0.mk A40
    clear A40
    by_cases c5 : t124 = true
    · subst c5
      have H1 : (if a1 < 0 then (ratchet_Charge.j0 k a0 a1 true) else (ratchet_Charge.j0 k a0 a1 (decide (a1 > 10000000)))) = some (r1, r2) := by rw [if_pos rfl] at H; exact H
      clear H
      have H := H1
      clear H1
      by_cases c6 : a1 < 0
      · rw [if_pos c6] at H
        have c6b0 : decide (a1 < 0) = true := decide_eq_true c6
        clear c6
        (first | rw [c6b0] | (simp only [i64_w, i32_w]; rw [c6b0]) | skip)
        have H' := Aside0.mk H
        clear H
        go_wp2_with (first | ((with_reducible refine gate_callee (f := 30) rfl ?_); refine goesL_ (some 9) rfl rfl Try.func30 (by kernel_rfl) rfl #[.int .i64 a0] rfl (by (try simp only [List.map_toArray, List.map_cons, List.map_nil]); first | done | rfl | (simp only [List.length_drop, List.length_take]; rfl)) ?_; (with_reducible refine (ratchet_peak.calls a0 true _ A4.out).mono ?_); rintro e w' ⟨rfl, ⟨nd, rfl⟩⟩; refine ⟨_, rfl, ?_⟩))
        go_meet
        case rel => exact ⟨_, (true), (by first | rfl | (simp; done) | (simp [*]; done)), H', ⟨by first | omega | exact Nat.le_refl _⟩, by repeat (first | exact Drawn0.refl _ | apply Drawn0.step)⟩
      · rw [if_neg c6] at H
        have c6b0 : decide (a1 < 0) = false := decide_eq_false c6
        clear c6
        (first | rw [c6b0] | (simp only [i64_w, i32_w]; rw [c6b0]) | skip)
        have H' := Aside0.mk H
        clear H
        go_wp2_with (first | ((with_reducible refine gate_callee (f := 30) rfl ?_); refine goesL_ (some 9) rfl rfl Try.func30 (by kernel_rfl) rfl #[.int .i64 a0] rfl (by (try simp only [List.map_toArray, List.map_cons, List.map_nil]); first | done | rfl | (simp only [List.length_drop, List.length_take]; rfl)) ?_; (with_reducible refine (ratchet_peak.calls a0 true _ A4.out).mono ?_); rintro e w' ⟨rfl, ⟨nd, rfl⟩⟩; refine ⟨_, rfl, ?_⟩))
        go_meet
        case rel => exact ⟨_, (decide (a1 > 10000000)), (by first | rfl | (simp; done) | (simp [*]; done) | (by_cases hdp0_ : a1 > 10000000 <;> simp [*] <;> done)), H', ⟨by first | omega | exact Nat.le_refl _⟩, by repeat (first | exact Drawn0.refl _ | apply Drawn0.step)⟩
    · replace c5 := Bool.eq_false_iff.mpr c5
      subst c5
      have H1 : (ratchet_Charge.j0 k a0 a1 true) = some (r1, r2) := by rw [if_neg (show ¬ (false = true) by decide)] at H; exact H
      clear H
      have H := H1
      clear H1
      have H' := Aside0.mk H
      clear H
      go_wp2_with (first | ((with_reducible refine gate_callee (f := 30) rfl ?_); refine goesL_ (some 9) rfl rfl Try.func30 (by kernel_rfl) rfl #[.int .i64 a0] rfl (by (try simp only [List.map_toArray, List.map_cons, List.map_nil]); first | done | rfl | (simp only [List.length_drop, List.length_take]; rfl)) ?_; (with_reducible refine (ratchet_peak.calls a0 false _ A4.out).mono ?_); rintro e w' ⟨rfl, ⟨nd, rfl⟩⟩; refine ⟨_, rfl, ?_⟩))
      go_meet
      case rel => exact ⟨_, (true), (by first | rfl | (simp; done) | (simp [*]; done)), H', ⟨by first | omega | exact Nat.le_refl _⟩, by repeat (first | exact Drawn0.refl _ | apply Drawn0.step)⟩
  case rest =>
    clear HC3
    try clear c2
    try clear p2
    try clear c3
    try clear c5
    try clear c6
    try clear c6b0
    obtain ⟨kq, x18_2, rfl, HA, HJ2, ⟨mc2, rfl⟩⟩ := hcut
    cases kq with
    | zero => exact absurd HA.out (by simp [ratchet_Charge.j0])
    | succ kj2 =>
      have H := HA.out
      clear HA
      simp only [ratchet_Charge.j0] at H
      by_cases c7 : x18_2 = true
      · subst c7
        have H1 : (some (0, 5)) = some (r1, r2) := by rw [if_pos rfl] at H; exact H
        clear H
        have H := H1
        clear H1
        simp only [Option.some.injEq, Prod.mk.injEq] at H
        obtain ⟨rfl, rfl⟩ := H
        go_wp2
        go_ret2
        exact ⟨by first | rfl | (simp; done) | (simp [*]; done), by repeat (first | exact Drawn0.refl _ | apply Drawn0.step)⟩
      · replace c7 := Bool.eq_false_iff.mpr c7
        subst c7
        have H1 : ((fix_MulDiv.f kj2 a0 a1 1000).bind fun bt125 => (if bt125.2 = 0 then (if bt125.1 > 1000000000000000 then (some (0, 5)) else (some (bt125.1, 0))) else (some (0, 5)))) = some (r1, r2) := by rw [if_neg (show ¬ (false = true) by decide)] at H; exact H
        clear H
        have H := H1
        clear H1
        replace H := Option.bind_eq_some_iff.mp H
        obtain ⟨⟨t125, t126⟩, A80, H⟩ := H
        replace H : (if t126 = 0 then (if t125 > 1000000000000000 then (some (0, 5)) else (some (t125, 0))) else (some (0, 5))) = some (r1, r2) := H
        have A8 := Aside0.mk A80
        clear A80
        by_cases c9 : t126 = 0
        · rw [if_pos c9] at H
          have c9b0 : (t126 == 0) = true := beq_iff_eq.mpr c9
          have c9b1 : (t126 != 0) = false := bne_eq_false_iff_eq.mpr c9
          clear c9
          by_cases c10 : t125 > 1000000000000000
          · rw [if_pos c10] at H
            have c10b0 : decide (1000000000000000 < t125) = true := decide_eq_true c10
            clear c10
            simp only [Option.some.injEq, Prod.mk.injEq] at H
            obtain ⟨rfl, rfl⟩ := H
            go_wp2_with (first | ((with_reducible refine gate_callee (f := 31) rfl ?_); refine goesL_ (some 22) rfl rfl Try.func31 (by kernel_rfl) rfl #[.int .i64 a0, .int .i64 a1, .int .i64 1000] rfl (by (try simp only [List.map_toArray, List.map_cons, List.map_nil]); first | done | rfl | (simp only [List.length_drop, List.length_take]; rfl)) ?_; (with_reducible refine (fix_MulDiv.calls kj2 a0 a1 1000 t125 t126 _ A8.out).mono ?_); rintro e w' ⟨rfl, ⟨nd, rfl⟩⟩; refine ⟨_, rfl, ?_⟩))
            go_ret2
            exact ⟨by first | rfl | (simp; done) | (simp [*]; done), by repeat (first | exact Drawn0.refl _ | apply Drawn0.step)⟩
          · rw [if_neg c10] at H
            have c10b0 : decide (1000000000000000 < t125) = false := decide_eq_false c10
            clear c10
            simp only [Option.some.injEq, Prod.mk.injEq] at H
            obtain ⟨rfl, rfl⟩ := H
            go_wp2_with (first | ((with_reducible refine gate_callee (f := 31) rfl ?_); refine goesL_ (some 22) rfl rfl Try.func31 (by kernel_rfl) rfl #[.int .i64 a0, .int .i64 a1, .int .i64 1000] rfl (by (try simp only [List.map_toArray, List.map_cons, List.map_nil]); first | done | rfl | (simp only [List.length_drop, List.length_take]; rfl)) ?_; (with_reducible refine (fix_MulDiv.calls kj2 a0 a1 1000 t125 t126 _ A8.out).mono ?_); rintro e w' ⟨rfl, ⟨nd, rfl⟩⟩; refine ⟨_, rfl, ?_⟩))
            go_ret2
            exact ⟨by first | rfl | (simp; done) | (simp [*]; done), by repeat (first | exact Drawn0.refl _ | apply Drawn0.step)⟩
        · rw [if_neg c9] at H
          have c9b0 : (t126 == 0) = false := beq_eq_false_iff_ne.mpr c9
          have c9b1 : (t126 != 0) = true := bne_iff_ne.mpr c9
          simp only [Option.some.injEq, Prod.mk.injEq] at H
          obtain ⟨rfl, rfl⟩ := H
          go_wp2_with (first | ((with_reducible refine gate_callee (f := 31) rfl ?_); refine goesL_ (some 22) rfl rfl Try.func31 (by kernel_rfl) rfl #[.int .i64 a0, .int .i64 a1, .int .i64 1000] rfl (by (try simp only [List.map_toArray, List.map_cons, List.map_nil]); first | done | rfl | (simp only [List.length_drop, List.length_take]; rfl)) ?_; (with_reducible refine (fix_MulDiv.calls kj2 a0 a1 1000 t125 t126 _ A8.out).mono ?_); rintro e w' ⟨rfl, ⟨nd, rfl⟩⟩; refine ⟨_, rfl, ?_⟩))
          go_ret2
          exact ⟨by first | rfl | (simp; done) | (simp [*]; done), by repeat (first | exact Drawn0.refl _ | apply Drawn0.step)⟩

end Go.Proofs.Ytbjkjakilpifhaa.PRL
