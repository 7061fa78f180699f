-- Written by a program of this session for this claim (wip/print2.sh). Lean checks it.
import Derived.Test.YtofedlghaopciaaGreatDoorPAx0
import Derived.Test.YtofedlghaopciaaGreatDoorPAx1
namespace Go.Proofs.YtofedlghaopciaaGreatDoor.PA
open Go.Proofs.YtofedlghaopciaaGreatDoorW.PrintWords
attribute [local go_sem high] fx_eql fx_neq fx_lss fx_leq fx_gtr fx_geq fx_add fx_sub fx_mul fx_neg fx_toint cxx_add cxx_sub cxx_mul cxx_eql cxx_neq cxx_pick st_float st_complex
open Go.RowKit Go.Proofs.YtofedlghaopciaaGreatDoorW.PrintWords Go.Proofs.YtofedlghaopciaaGreatDoorW.PrintLast Go.Proofs.YtofedlghaopciaaGreatDoorW.PrintMore
attribute [local go_sem] max2_int min2_int max_two min_two max_three min_three max_four min_four   -- for this text's walks alone
set_option linter.unusedVariables false
set_option linter.unusedSimpArgs false

/-! ### phasor_Phases: function 13 -/
mutual
def phasor_Phases.j0 : Nat → List Cx → List Cx → Bool → Option (Cx × Int)
 | 0, _, _, _ => none
 | k + 1, x0, x1, x19 => if x19 = true then (some (cx 0 0, 8)) else (phasor_Phases.l0 k x0 x1 (cx 0 0) (x0.length : Int) 0)
def phasor_Phases.l0 : Nat → List Cx → List Cx → Cx → Int → Int → Option (Cx × Int)
 | 0, _, _, _, _, _ => none
 | k + 1, x0, x1, x6, x21, x22 => if x22 < x21 then (if 0 ≤ x22 then (if x22 < (x0.length : Int) then (if x22 < (x1.length : Int) then ((phasor_Power.f (rdOf (cx 0 0) x0 x22) (rdOf (cx 0 0) x1 x22)).bind fun bt118 => (if bt118.2 = 0 then (if caddok x6.re x6.im bt118.1.re bt118.1.im = true then (phasor_Phases.l0 k x0 x1 (cx (caddre x6.re x6.im bt118.1.re bt118.1.im) (caddim x6.re x6.im bt118.1.re bt118.1.im)) x21 (wrap64 (x22 + 1))) else (none)) else (some (cx 0 0, bt118.2)))) else (none)) else (none)) else (none)) else (some (x6, 0))
end
def phasor_Phases.f (k : Nat) (l0 : List Cx) (l1 : List Cx) : Option (Cx × Int) := if (l0.length : Int) = (l1.length : Int) then (phasor_Phases.j0 k l0 l1 (decide ((l0.length : Int) > 4))) else (phasor_Phases.j0 k l0 l1 true)
theorem phasor_Phases.mono_l : ∀ k, (∀ y0 y1 y2, LeO (phasor_Phases.j0 k y0 y1 y2) (phasor_Phases.j0 (k + 1) y0 y1 y2)) ∧ (∀ y0 y1 y2 y3 y4, LeO (phasor_Phases.l0 k y0 y1 y2 y3 y4) (phasor_Phases.l0 (k + 1) y0 y1 y2 y3 y4))
 | 0 => ⟨fun _ _ _ r h => by simp [phasor_Phases.j0] at h, fun _ _ _ _ _ r h => by simp [phasor_Phases.l0] at h⟩
 | k + 1 => by
  obtain ⟨ih0, ih1⟩ := phasor_Phases.mono_l k
  refine ⟨?_, ?_⟩
  ·
   intro y0 y1 y2
   unfold phasor_Phases.j0
   repeat' first
   | (with_reducible exact ih0 _ _ _)
   | (with_reducible exact ih1 _ _ _ _ _)
   | (with_reducible exact LeO.refl _)
   | (with_reducible exact LeO.none _)
   | (with_reducible refine LeO.ite ?_ ?_)
   | (with_reducible refine LeO.bind ?_ (fun _ => ?_))
   | exact ih0 _ _ _
   | exact ih1 _ _ _ _ _
   | exact LeO.none _
   | refine LeO.ite ?_ ?_
   | refine LeO.bind ?_ (fun _ => ?_)
  ·
   intro y0 y1 y2 y3 y4
   unfold phasor_Phases.l0
   repeat' first
   | (with_reducible exact ih0 _ _ _)
   | (with_reducible exact ih1 _ _ _ _ _)
   | (with_reducible exact LeO.refl _)
   | (with_reducible exact LeO.none _)
   | (with_reducible refine LeO.ite ?_ ?_)
   | (with_reducible refine LeO.bind ?_ (fun _ => ?_))
   | exact ih0 _ _ _
   | exact ih1 _ _ _ _ _
   | exact LeO.none _
   | refine LeO.ite ?_ ?_
   | refine LeO.bind ?_ (fun _ => ?_)
theorem phasor_Phases.mono : ∀ a0 a1 k, LeO (phasor_Phases.f k a0 a1) (phasor_Phases.f (k + 1) a0 a1) := by
 intro a0 a1 k
 obtain ⟨ih0, ih1⟩ := phasor_Phases.mono_l k
 unfold phasor_Phases.f
 repeat' first
   | (with_reducible exact ih0 _ _ _)
   | (with_reducible exact ih1 _ _ _ _ _)
   | (with_reducible exact LeO.refl _)
   | (with_reducible exact LeO.none _)
   | (with_reducible refine LeO.ite ?_ ?_)
   | (with_reducible refine LeO.bind ?_ (fun _ => ?_))
   | exact ih0 _ _ _
   | exact ih1 _ _ _ _ _
   | exact LeO.none _
   | refine LeO.ite ?_ ?_
   | refine LeO.bind ?_ (fun _ => ?_)
def phasor_Phases.T7 : Bool × List (List Nat × List Nat) := (true, [([], []), ([], []), ([0, 1], [0, 1]), ([2], [2]), ([], []), ([], []), ([4, 5], [4, 5]), ([6], [6]), ([3, 7], [3, 7]), ([8], [8]), ([9], [9]), ([9], [9]), ([10, 8, 0, 1, 2, 3, 4, 5, 6, 7, 8, 9, 10], [10]), ([11, 12, 0, 1, 2, 3, 4, 5, 6, 7, 8, 9, 10, 11, 12], [11])])
def phasor_Phases.B7 : List Nat := [0, 0, 3, 7, 0, 0, 48, 112, 255, 511, 1023, 1023, 2047, 8191]
theorem phasor_Phases.tab7 : rtab .any (opsOf Tryz.f13 7) = phasor_Phases.T7 := by kernel_rfl
theorem phasor_Phases.bits7 : waitsOk phasor_Phases.T7.2 phasor_Phases.B7 = true := by kernel_rfl
set_option maxHeartbeats 8000000 in
set_option maxRecDepth 100000 in
theorem phasor_Phases.calls (k : Nat) (A0 : Option Addr) (c0 : Nat) (l0 : List Cx) (A1 : Option Addr) (c1 : Nat) (l1 : List Cx) (r1 : Cx) (r2 : Int) (w : World) (hr0 : Kd.C Kd.c128 w A0 l0.length l0) (hc0 : l0.length ≤ c0) (hr1 : Kd.C Kd.c128 w A1 l1.length l1) (hc1 : l1.length ≤ c1) (h : phasor_Phases.f k l0 l1 = some (r1, r2)) :
  Calls Tryz.prog 13 #[.slice A0 l0.length c0, .slice A1 l1.length c1] w fun e w' => e = .returned (.tuple #[.complex .f64 r1.re r1.im, .int .i64 r2]) ∧ Below w.heap.size w w' := by
 have HR0 := Aside0.mk hr0
 have HC0 := Aside0.mk hc0
 clear hr0 hc0
 have HR1 := Aside0.mk hr1
 have HC1 := Aside0.mk hc1
 clear hr1 hc1
 have HB := Aside0.mk (Below.refl w.heap.size w)
 have H : (if (l0.length : Int) = (l1.length : Int) then (phasor_Phases.j0 k l0 l1 (decide ((l0.length : Int) > 4))) else (phasor_Phases.j0 k l0 l1 true)) = some (r1, r2) := h
 clear h
 have HC3 := Aside0.mk H
 clear H
 go_enter Tryz.func13, Tryz.ntmps13
 go_upto_region 1 with (fail)
 go_cut [19] (fun v19 wc => ∃ (kq : Nat) (x19_2 : Bool), v19 = .bool x19_2 ∧ Aside0 (phasor_Phases.j0 kq l0 l1 x19_2 = some (r1, r2)) ∧ Aside0 (kq ≤ k) ∧ Aside0 (Below w.heap.size w wc))
 case first =>
  have H := HC3.out
  clear HC3
  by_cases c4 : (l0.length : Int) = (l1.length : Int)
  ·
   rw [if_pos c4] at H
   obtain ⟨c4b0, c4b1⟩ := eqT_ c4
   have c4b2 : (l0.length == l1.length) = true := by first | simpa using c4 | (simp at c4 ⊢; omega)
   clear c4
   (first | rw [c4b0] | (simp only [i64_w, i32_w]; rw [c4b0]) | skip)
   have H' := Aside0.mk H
   clear H
   go_wp2
   go_meet
   case rel => exact ⟨_, (decide ((l0.length : Int) > 4)), (by first | rfl | (simp; done) | (simp [*]; done) | (by_cases hdp0_ : (l0.length : Int) > 4 <;> simp [*] <;> done)), H', ⟨by first | omega | exact Nat.le_refl _⟩, ⟨bl_⟩⟩
  ·
   rw [if_neg c4] at H
   obtain ⟨c4b0, c4b1⟩ := eqF_ c4
   have c4b2 : (l0.length == l1.length) = false := by first | simpa using c4 | (simp at c4 ⊢; omega)
   (first | rw [c4b0] | (simp only [i64_w, i32_w]; rw [c4b0]) | skip)
   have H' := Aside0.mk H
   clear H
   go_wp2
   go_meet
   case rel => exact ⟨_, (true), (by first | rfl | (simp; done) | (simp [*]; done)), H', ⟨by first | omega | exact Nat.le_refl _⟩, ⟨bl_⟩⟩
 case rest =>
  clear HC3
  try clear c1
  try clear p2
  try clear c4
  try clear c4b0
  try clear c4b1
  try clear c4b2
  obtain ⟨kq, x19_2, rfl, HA, HJ2, HB⟩ := hcut
  cases kq with
  | zero => exact absurd HA.out (by simp [phasor_Phases.j0])
  | succ kj2 =>
   have H := HA.out
   clear HA
   simp only [phasor_Phases.j0] at H
   by_cases c5 : x19_2 = true
   ·
    subst c5
    have H1 : (some (cx 0 0, 8)) = some (r1, r2) := by rw [if_pos rfl] at H; exact H
    clear H
    have H := H1
    clear H1
    simp only [Option.some.injEq, Prod.mk.injEq] at H
    obtain ⟨rfl, rfl⟩ := H
    go_wp2
    go_ret2
    exact fin_
   ·
    replace c5 := Bool.eq_false_iff.mpr c5
    subst c5
    have H1 : (phasor_Phases.l0 kj2 l0 l1 (cx 0 0) (l0.length : Int) 0) = some (r1, r2) := by rw [if_neg (show ¬ (false = true) by decide)] at H; exact H
    clear H
    have H := H1
    clear H1
    have H' := Aside0.mk H
    clear H
    go_wp2
    go_loopg [6, 22] kj2 (fun kq v6 v22 w' => ∃ (x6_2 : Cx) (x22_2 : Int), v6 = .complex .f64 x6_2.re x6_2.im ∧ v22 = .int .i64 x22_2 ∧ Aside0 (phasor_Phases.l0 kq l0 l1 x6_2 (l0.length : Int) x22_2 = some (r1, r2)) ∧ Aside0 (kq ≤ kj2) ∧ Aside0 (Below w.heap.size w w'))
    case atStart => exact ⟨(cx 0 0), (0), (by first | rfl | (simp; done) | (simp [*]; done)), (by first | rfl | (simp; done) | (simp [*]; done)), H', ⟨Nat.le_refl _⟩, ⟨bl_⟩⟩
    case round =>
     clear H'
     try clear c1
     try clear p2
     try clear c4
     try clear c4b0
     try clear c4b1
     try clear c4b2
     try clear c5
     try clear p2
     obtain ⟨x6_2, x22_2, rfl, rfl, HA, HK2, HB⟩ := hrel
     cases gk with
     | zero => exact absurd HA.out (by simp [phasor_Phases.l0])
     | succ k2 =>
      have H := HA.out
      clear HA
      simp only [phasor_Phases.l0] at H
      by_cases c6 : x22_2 < (l0.length : Int)
      ·
       rw [if_pos c6] at H
       have c6b0 : decide (x22_2 < (l0.length : Int)) = true := decide_eq_true c6
       clear c6
       by_cases c7 : 0 ≤ x22_2
       ·
        rw [if_pos c7] at H
        have c7b0 : decide (0 ≤ x22_2) = true := decide_eq_true c7
        clear c7
        by_cases c8 : x22_2 < (l0.length : Int)
        ·
         rw [if_pos c8] at H
         have c8b0 : decide (x22_2 < (l0.length : Int)) = true := decide_eq_true c8
         clear c8
         by_cases c9 : x22_2 < (l1.length : Int)
         ·
          rw [if_pos c9] at H
          have c9b0 : decide (x22_2 < (l1.length : Int)) = true := decide_eq_true c9
          clear c9
          replace H := Option.bind_eq_some_iff.mp H
          obtain ⟨⟨t118, t119⟩, A100, H⟩ := H
          replace H : (if t119 = 0 then (if caddok x6_2.re x6_2.im t118.re t118.im = true then (phasor_Phases.l0 k2 l0 l1 (cx (caddre x6_2.re x6_2.im t118.re t118.im) (caddim x6_2.re x6_2.im t118.re t118.im)) (l0.length : Int) (wrap64 (x22_2 + 1))) else (none)) else (some (cx 0 0, t119))) = some (r1, r2) := H
          have A10 := Aside0.mk A100
          clear A100
          by_cases c11 : t119 = 0
          ·
           rw [if_pos c11] at H
           obtain ⟨c11b0, c11b1⟩ := eqT_ c11
           clear c11
           by_cases c12 : caddok x6_2.re x6_2.im t118.re t118.im = true
           ·
            rw [if_pos c12] at H
            have c12b0 := eq_true c12
            have c12b1 : decide (caddok x6_2.re x6_2.im t118.re t118.im = true) = true := decide_eq_true c12
            clear c12
            have H' := Aside0.mk H
            clear H
            try go_wp2
            replace HB := Aside0.mk (below_drew1 HB.out)
            have p116 : 0 ≤ (x22_2 : Int) := of_decide_eq_true (by first | (with_reducible assumption) | assumption)
            have q116 : x22_2 < (l0.length : Int) := of_decide_eq_true (by first | (with_reducible assumption) | assumption)
            obtain ⟨ad116, e116, hx116_0⟩ := Kd.at_c128 HR0.out x22_2 p116 q116
            have hw116_0 := hx116_0
            cases e116
            replace hx116_0 := (HB.out.cell (World.block_lt_of_cell? w _ hx116_0)).trans hx116_0
            replace p116 := eq_true p116
            replace q116 := eq_true q116
            have p117 : 0 ≤ (x22_2 : Int) := of_decide_eq_true (by first | (with_reducible assumption) | assumption)
            have q117 : x22_2 < (l1.length : Int) := of_decide_eq_true (by first | (with_reducible assumption) | assumption)
            obtain ⟨ad117, e117, hx117_0⟩ := Kd.at_c128 HR1.out x22_2 p117 q117
            have hw117_0 := hx117_0
            cases e117
            replace hx117_0 := (HB.out.cell (World.block_lt_of_cell? w _ hx117_0)).trans hx117_0
            replace p117 := eq_true p117
            replace q117 := eq_true q117
            refine start_ (n := 14) (S := fun w' => w'.cell? (ad116.add (x22_2).toNat) = some (.complex .f64 (rdOf (cx 0 0) l0 x22_2).re (rdOf (cx 0 0) l0 x22_2).im) ∧ w'.cell? (ad117.add (x22_2).toNat) = some (.complex .f64 (rdOf (cx 0 0) l1 x22_2).re (rdOf (cx 0 0) l1 x22_2).im)) (ds := []) #[false, false, false, false, false, false, false, false, false, false, false, false, false, false] (by kernel_rfl) rfl rfl ⟨((HB.out.cell (World.block_lt_of_cell? w _ hw116_0)).trans hw116_0), ((HB.out.cell (World.block_lt_of_cell? w _ hw117_0)).trans hw117_0)⟩ (fun hHeld => ?_); refine with_tabW phasor_Phases.tab7 phasor_Phases.bits7 (fun HT_ HW_ => ?_)
            generalize wr.drew = w13 at HB hx116_0 hx117_0 hHeld ⊢
            refine pure_ (i := 0) (N := some 26) (v := ?_) (a' := ?_) #[true, false, false, false, false, false, false, false, false, false, false, false, false, false] rfl rfl (any_of HT_.out (by kernel_rfl)) (fun _ _ _ h => h) (Or.inl ⟨by rfl, ?_⟩) ?_ ?_
            rotate_left
            ·
             intro w'
             go_simp
             with_reducible rfl
            rotate_left
            ·
             simp only [Act.put, List.setIfInBounds_toArray, List.set_cons_zero, List.set_cons_succ, i64_w, i32_w]
             rfl
            refine pure_ (i := 1) (N := some 27) (v := ?_) (a' := ?_) #[true, true, false, false, false, false, false, false, false, false, false, false, false, false] rfl rfl (any_of HT_.out (by kernel_rfl)) (fun _ _ _ h => h) (Or.inl ⟨by rfl, ?_⟩) ?_ ?_
            rotate_left
            ·
             intro w'
             go_simp
             with_reducible rfl
            rotate_left
            ·
             simp only [Act.put, List.setIfInBounds_toArray, List.set_cons_zero, List.set_cons_succ, i64_w, i32_w]
             rfl
            refine pure_ (i := 2) (N := some 28) (v := ?_) (a' := ?_) #[true, true, true, false, false, false, false, false, false, false, false, false, false, false] rfl rfl (any_of HT_.out (by kernel_rfl)) (fun _ _ _ h => h) (Or.inl ⟨by rfl, ?_⟩) ?_ ?_
            rotate_left
            ·
             intro w'
             go_simp
             with_reducible rfl
            rotate_left
            ·
             simp only [Act.put, List.setIfInBounds_toArray, List.set_cons_zero, List.set_cons_succ, i64_w, i32_w]
             rfl
            refine pure_ (i := 4) (N := some 30) (v := ?_) (a' := ?_) #[true, true, true, false, true, false, false, false, false, false, false, false, false, false] rfl rfl (any_of HT_.out (by kernel_rfl)) (fun _ _ _ h => h) (Or.inl ⟨by rfl, ?_⟩) ?_ ?_
            rotate_left
            ·
             intro w'
             go_simp
             with_reducible rfl
            rotate_left
            ·
             simp only [Act.put, List.setIfInBounds_toArray, List.set_cons_zero, List.set_cons_succ, i64_w, i32_w]
             rfl
            refine pure_ (i := 5) (N := some 31) (v := ?_) (a' := ?_) #[true, true, true, false, true, true, false, false, false, false, false, false, false, false] rfl rfl (any_of HT_.out (by kernel_rfl)) (fun _ _ _ h => h) (Or.inl ⟨by rfl, ?_⟩) ?_ ?_
            rotate_left
            ·
             intro w'
             go_simp
             with_reducible rfl
            rotate_left
            ·
             simp only [Act.put, List.setIfInBounds_toArray, List.set_cons_zero, List.set_cons_succ, i64_w, i32_w]
             rfl
            refine pure_ (i := 6) (N := some 32) (v := ?_) (a' := ?_) #[true, true, true, false, true, true, true, false, false, false, false, false, false, false] rfl rfl (any_of HT_.out (by kernel_rfl)) (fun _ _ _ h => h) (Or.inl ⟨by rfl, ?_⟩) ?_ ?_
            rotate_left
            ·
             intro w'
             go_simp
             with_reducible rfl
            rotate_left
            ·
             simp only [Act.put, List.setIfInBounds_toArray, List.set_cons_zero, List.set_cons_succ, i64_w, i32_w]
             rfl
            refine take_ (i := 3) (N := some 29) (v := ?_) (a' := ?_) #[true, true, true, true, true, true, true, false, false, false, false, false, false, false] rfl rfl (take_ofW HT_.out HW_.out (by kernel_rfl)) (fun _ _ _ h => h) (Or.inl ⟨by rfl, ?_⟩) hHeld ?_ ?_
            rotate_left
            ·
             rintro w' ⟨s0, s1⟩
             go_simp
             with_reducible rfl
            rotate_left
            ·
             simp only [Act.put, List.setIfInBounds_toArray, List.set_cons_zero, List.set_cons_succ, i64_w, i32_w]
             rfl
            refine take_ (i := 7) (N := some 33) (v := ?_) (a' := ?_) #[true, true, true, true, true, true, true, true, false, false, false, false, false, false] rfl rfl (take_ofW HT_.out HW_.out (by kernel_rfl)) (fun _ _ _ h => h) (Or.inl ⟨by rfl, ?_⟩) hHeld ?_ ?_
            rotate_left
            ·
             rintro w' ⟨s0, s1⟩
             go_simp
             with_reducible rfl
            rotate_left
            ·
             simp only [Act.put, List.setIfInBounds_toArray, List.set_cons_zero, List.set_cons_succ, i64_w, i32_w]
             rfl
            refine one_ (i := 8) (N := some 34) #[true, true, true, true, true, true, true, true, true, false, false, false, false, false] rfl rfl (one_of HT_.out (by kernel_rfl)) (by decide) (fun K hK => ?_)
            refine goes_ Tryz.func8 (by kernel_rfl) rfl #[.complex .f64 (rdOf (cx 0 0) l0 x22_2).re (rdOf (cx 0 0) l0 x22_2).im, .complex .f64 (rdOf (cx 0 0) l1 x22_2).re (rdOf (cx 0 0) l1 x22_2).im] (by rfl) rfl rfl (by (try simp only [List.map_toArray, List.map_cons, List.map_nil]); first | done | rfl | (simp only [List.length_drop, List.length_take]; rfl)) ?_
            with_reducible refine (phasor_Power.calls (rdOf (cx 0 0) l0 x22_2) (rdOf (cx 0 0) l1 x22_2) t118 t119 _ A10.out).mono ?_
            rintro e w14 ⟨rfl, hb⟩
            refine ⟨_, rfl, ?_⟩
            replace HB := Aside0.mk (bst_ hb)
            (try clear hb)
            (try clear hb2)
            (try clear hk)
            (try clear hi)
            refine hK.out _ _ ⟨((HB.out.cell (World.block_lt_of_cell? w _ hw116_0)).trans hw116_0), ((HB.out.cell (World.block_lt_of_cell? w _ hw117_0)).trans hw117_0)⟩ (fun hHeld => ?_)
            clear hK K
            refine norm_ (a' := ?_) ?_ ?_
            rotate_left
            ·
             show Act.put _ (some 34) _ = _
             simp only [Act.put, List.setIfInBounds_toArray, List.set_cons_zero, List.set_cons_succ, i64_w, i32_w]
             rfl
            refine pure_ (i := 9) (N := some 25) (v := ?_) (a' := ?_) #[true, true, true, true, true, true, true, true, true, true, false, false, false, false] rfl rfl (any_of HT_.out (by kernel_rfl)) (fun _ _ _ h => h) (Or.inl ⟨by rfl, ?_⟩) ?_ ?_
            rotate_left
            ·
             intro w'
             go_simp
             with_reducible rfl
            rotate_left
            ·
             simp only [Act.put, List.setIfInBounds_toArray, List.set_cons_zero, List.set_cons_succ, i64_w, i32_w]
             rfl
            refine pure_ (i := 10) (N := some 35) (v := ?_) (a' := ?_) #[true, true, true, true, true, true, true, true, true, true, true, false, false, false] rfl rfl (any_of HT_.out (by kernel_rfl)) (fun _ _ _ h => h) (Or.inl ⟨by rfl, ?_⟩) ?_ ?_
            rotate_left
            ·
             intro w'
             go_simp
             with_reducible rfl
            rotate_left
            ·
             simp only [Act.put, List.setIfInBounds_toArray, List.set_cons_zero, List.set_cons_succ, i64_w, i32_w]
             rfl
            refine pure_ (i := 11) (N := some 36) (v := ?_) (a' := ?_) #[true, true, true, true, true, true, true, true, true, true, true, true, false, false] rfl rfl (any_of HT_.out (by kernel_rfl)) (fun _ _ _ h => h) (Or.inl ⟨by rfl, ?_⟩) ?_ ?_
            rotate_left
            ·
             intro w'
             go_simp
             with_reducible rfl
            rotate_left
            ·
             simp only [Act.put, List.setIfInBounds_toArray, List.set_cons_zero, List.set_cons_succ, i64_w, i32_w]
             rfl
            refine pure_ (i := 12) (N := some 8) (v := ?_) (a' := ?_) #[true, true, true, true, true, true, true, true, true, true, true, true, true, false] rfl rfl (any_of HT_.out (by kernel_rfl)) (fun _ _ _ h => h) (Or.inl ⟨by rfl, ?_⟩) ?_ ?_
            rotate_left
            ·
             intro w'
             go_simp
             with_reducible rfl
            rotate_left
            ·
             simp only [Act.put, List.setIfInBounds_toArray, List.set_cons_zero, List.set_cons_succ, i64_w, i32_w]
             rfl
            refine pure_ (i := 13) (N := some 9) (v := ?_) (a' := ?_) #[true, true, true, true, true, true, true, true, true, true, true, true, true, true] rfl rfl (any_of HT_.out (by kernel_rfl)) (fun _ _ _ h => h) (Or.inl ⟨by rfl, ?_⟩) ?_ ?_
            rotate_left
            ·
             intro w'
             go_simp
             with_reducible rfl
            rotate_left
            ·
             simp only [Act.put, List.setIfInBounds_toArray, List.set_cons_zero, List.set_cons_succ, i64_w, i32_w]
             rfl
            refine done_ (done_of HT_.out (by kernel_rfl)) ?_
            try go_wp2
            go_roundg k2
            case measure => have := HJ2.out; have := HK2.out; omega
            case rel => exact ⟨(cx (caddre x6_2.re x6_2.im t118.re t118.im) (caddim x6_2.re x6_2.im t118.re t118.im)), (wrap64 (x22_2 + 1)), (by first | rfl | (simp; done) | (simp [*]; done)), (by first | rfl | (simp; done) | (simp [*]; done)), H', ⟨by have := HJ2.out; have := HK2.out; omega⟩, ⟨bl_⟩⟩
           ·
            rw [if_neg c12] at H
            exact absurd H (by simp)
          ·
           rw [if_neg c11] at H
           obtain ⟨c11b0, c11b1⟩ := eqF_ c11
           simp only [Option.some.injEq, Prod.mk.injEq] at H
           obtain ⟨rfl, rfl⟩ := H
           try go_wp2
           replace HB := Aside0.mk (below_drew1 HB.out)
           have p116 : 0 ≤ (x22_2 : Int) := of_decide_eq_true (by first | (with_reducible assumption) | assumption)
           have q116 : x22_2 < (l0.length : Int) := of_decide_eq_true (by first | (with_reducible assumption) | assumption)
           obtain ⟨ad116, e116, hx116_0⟩ := Kd.at_c128 HR0.out x22_2 p116 q116
           have hw116_0 := hx116_0
           cases e116
           replace hx116_0 := (HB.out.cell (World.block_lt_of_cell? w _ hx116_0)).trans hx116_0
           replace p116 := eq_true p116
           replace q116 := eq_true q116
           have p117 : 0 ≤ (x22_2 : Int) := of_decide_eq_true (by first | (with_reducible assumption) | assumption)
           have q117 : x22_2 < (l1.length : Int) := of_decide_eq_true (by first | (with_reducible assumption) | assumption)
           obtain ⟨ad117, e117, hx117_0⟩ := Kd.at_c128 HR1.out x22_2 p117 q117
           have hw117_0 := hx117_0
           cases e117
           replace hx117_0 := (HB.out.cell (World.block_lt_of_cell? w _ hx117_0)).trans hx117_0
           replace p117 := eq_true p117
           replace q117 := eq_true q117
           refine start_ (n := 14) (S := fun w' => w'.cell? (ad116.add (x22_2).toNat) = some (.complex .f64 (rdOf (cx 0 0) l0 x22_2).re (rdOf (cx 0 0) l0 x22_2).im) ∧ w'.cell? (ad117.add (x22_2).toNat) = some (.complex .f64 (rdOf (cx 0 0) l1 x22_2).re (rdOf (cx 0 0) l1 x22_2).im)) (ds := []) #[false, false, false, false, false, false, false, false, false, false, false, false, false, false] (by kernel_rfl) rfl rfl ⟨((HB.out.cell (World.block_lt_of_cell? w _ hw116_0)).trans hw116_0), ((HB.out.cell (World.block_lt_of_cell? w _ hw117_0)).trans hw117_0)⟩ (fun hHeld => ?_); refine with_tabW phasor_Phases.tab7 phasor_Phases.bits7 (fun HT_ HW_ => ?_)
           generalize wr.drew = w15 at HB hx116_0 hx117_0 hHeld ⊢
           refine pure_ (i := 0) (N := some 26) (v := ?_) (a' := ?_) #[true, false, false, false, false, false, false, false, false, false, false, false, false, false] rfl rfl (any_of HT_.out (by kernel_rfl)) (fun _ _ _ h => h) (Or.inl ⟨by rfl, ?_⟩) ?_ ?_
           rotate_left
           ·
            intro w'
            go_simp
            with_reducible rfl
           rotate_left
           ·
            simp only [Act.put, List.setIfInBounds_toArray, List.set_cons_zero, List.set_cons_succ, i64_w, i32_w]
            rfl
           refine pure_ (i := 1) (N := some 27) (v := ?_) (a' := ?_) #[true, true, false, false, false, false, false, false, false, false, false, false, false, false] rfl rfl (any_of HT_.out (by kernel_rfl)) (fun _ _ _ h => h) (Or.inl ⟨by rfl, ?_⟩) ?_ ?_
           rotate_left
           ·
            intro w'
            go_simp
            with_reducible rfl
           rotate_left
           ·
            simp only [Act.put, List.setIfInBounds_toArray, List.set_cons_zero, List.set_cons_succ, i64_w, i32_w]
            rfl
           refine pure_ (i := 2) (N := some 28) (v := ?_) (a' := ?_) #[true, true, true, false, false, false, false, false, false, false, false, false, false, false] rfl rfl (any_of HT_.out (by kernel_rfl)) (fun _ _ _ h => h) (Or.inl ⟨by rfl, ?_⟩) ?_ ?_
           rotate_left
           ·
            intro w'
            go_simp
            with_reducible rfl
           rotate_left
           ·
            simp only [Act.put, List.setIfInBounds_toArray, List.set_cons_zero, List.set_cons_succ, i64_w, i32_w]
            rfl
           refine pure_ (i := 4) (N := some 30) (v := ?_) (a' := ?_) #[true, true, true, false, true, false, false, false, false, false, false, false, false, false] rfl rfl (any_of HT_.out (by kernel_rfl)) (fun _ _ _ h => h) (Or.inl ⟨by rfl, ?_⟩) ?_ ?_
           rotate_left
           ·
            intro w'
            go_simp
            with_reducible rfl
           rotate_left
           ·
            simp only [Act.put, List.setIfInBounds_toArray, List.set_cons_zero, List.set_cons_succ, i64_w, i32_w]
            rfl
           refine pure_ (i := 5) (N := some 31) (v := ?_) (a' := ?_) #[true, true, true, false, true, true, false, false, false, false, false, false, false, false] rfl rfl (any_of HT_.out (by kernel_rfl)) (fun _ _ _ h => h) (Or.inl ⟨by rfl, ?_⟩) ?_ ?_
           rotate_left
           ·
            intro w'
            go_simp
            with_reducible rfl
           rotate_left
           ·
            simp only [Act.put, List.setIfInBounds_toArray, List.set_cons_zero, List.set_cons_succ, i64_w, i32_w]
            rfl
           refine pure_ (i := 6) (N := some 32) (v := ?_) (a' := ?_) #[true, true, true, false, true, true, true, false, false, false, false, false, false, false] rfl rfl (any_of HT_.out (by kernel_rfl)) (fun _ _ _ h => h) (Or.inl ⟨by rfl, ?_⟩) ?_ ?_
           rotate_left
           ·
            intro w'
            go_simp
            with_reducible rfl
           rotate_left
           ·
            simp only [Act.put, List.setIfInBounds_toArray, List.set_cons_zero, List.set_cons_succ, i64_w, i32_w]
            rfl
           refine take_ (i := 3) (N := some 29) (v := ?_) (a' := ?_) #[true, true, true, true, true, true, true, false, false, false, false, false, false, false] rfl rfl (take_ofW HT_.out HW_.out (by kernel_rfl)) (fun _ _ _ h => h) (Or.inl ⟨by rfl, ?_⟩) hHeld ?_ ?_
           rotate_left
           ·
            rintro w' ⟨s0, s1⟩
            go_simp
            with_reducible rfl
           rotate_left
           ·
            simp only [Act.put, List.setIfInBounds_toArray, List.set_cons_zero, List.set_cons_succ, i64_w, i32_w]
            rfl
           refine take_ (i := 7) (N := some 33) (v := ?_) (a' := ?_) #[true, true, true, true, true, true, true, true, false, false, false, false, false, false] rfl rfl (take_ofW HT_.out HW_.out (by kernel_rfl)) (fun _ _ _ h => h) (Or.inl ⟨by rfl, ?_⟩) hHeld ?_ ?_
           rotate_left
           ·
            rintro w' ⟨s0, s1⟩
            go_simp
            with_reducible rfl
           rotate_left
           ·
            simp only [Act.put, List.setIfInBounds_toArray, List.set_cons_zero, List.set_cons_succ, i64_w, i32_w]
            rfl
           refine one_ (i := 8) (N := some 34) #[true, true, true, true, true, true, true, true, true, false, false, false, false, false] rfl rfl (one_of HT_.out (by kernel_rfl)) (by decide) (fun K hK => ?_)
           refine goes_ Tryz.func8 (by kernel_rfl) rfl #[.complex .f64 (rdOf (cx 0 0) l0 x22_2).re (rdOf (cx 0 0) l0 x22_2).im, .complex .f64 (rdOf (cx 0 0) l1 x22_2).re (rdOf (cx 0 0) l1 x22_2).im] (by rfl) rfl rfl (by (try simp only [List.map_toArray, List.map_cons, List.map_nil]); first | done | rfl | (simp only [List.length_drop, List.length_take]; rfl)) ?_
           with_reducible refine (phasor_Power.calls (rdOf (cx 0 0) l0 x22_2) (rdOf (cx 0 0) l1 x22_2) t118 t119 _ A10.out).mono ?_
           rintro e w16 ⟨rfl, hb⟩
           refine ⟨_, rfl, ?_⟩
           replace HB := Aside0.mk (bst_ hb)
           (try clear hb)
           (try clear hb2)
           (try clear hk)
           (try clear hi)
           refine hK.out _ _ ⟨((HB.out.cell (World.block_lt_of_cell? w _ hw116_0)).trans hw116_0), ((HB.out.cell (World.block_lt_of_cell? w _ hw117_0)).trans hw117_0)⟩ (fun hHeld => ?_)
           clear hK K
           refine norm_ (a' := ?_) ?_ ?_
           rotate_left
           ·
            show Act.put _ (some 34) _ = _
            simp only [Act.put, List.setIfInBounds_toArray, List.set_cons_zero, List.set_cons_succ, i64_w, i32_w]
            rfl
           refine pure_ (i := 9) (N := some 25) (v := ?_) (a' := ?_) #[true, true, true, true, true, true, true, true, true, true, false, false, false, false] rfl rfl (any_of HT_.out (by kernel_rfl)) (fun _ _ _ h => h) (Or.inl ⟨by rfl, ?_⟩) ?_ ?_
           rotate_left
           ·
            intro w'
            go_simp
            with_reducible rfl
           rotate_left
           ·
            simp only [Act.put, List.setIfInBounds_toArray, List.set_cons_zero, List.set_cons_succ, i64_w, i32_w]
            rfl
           refine pure_ (i := 10) (N := some 35) (v := ?_) (a' := ?_) #[true, true, true, true, true, true, true, true, true, true, true, false, false, false] rfl rfl (any_of HT_.out (by kernel_rfl)) (fun _ _ _ h => h) (Or.inl ⟨by rfl, ?_⟩) ?_ ?_
           rotate_left
           ·
            intro w'
            go_simp
            with_reducible rfl
           rotate_left
           ·
            simp only [Act.put, List.setIfInBounds_toArray, List.set_cons_zero, List.set_cons_succ, i64_w, i32_w]
            rfl
           refine pure_ (i := 11) (N := some 36) (v := ?_) (a' := ?_) #[true, true, true, true, true, true, true, true, true, true, true, true, false, false] rfl rfl (any_of HT_.out (by kernel_rfl)) (fun _ _ _ h => h) (Or.inl ⟨by rfl, ?_⟩) ?_ ?_
           rotate_left
           ·
            intro w'
            go_simp
            with_reducible rfl
           rotate_left
           ·
            simp only [Act.put, List.setIfInBounds_toArray, List.set_cons_zero, List.set_cons_succ, i64_w, i32_w]
            rfl
           refine pure_ (i := 12) (N := some 8) (v := ?_) (a' := ?_) #[true, true, true, true, true, true, true, true, true, true, true, true, true, false] rfl rfl (any_of HT_.out (by kernel_rfl)) (fun _ _ _ h => h) (Or.inl ⟨by rfl, ?_⟩) ?_ ?_
           rotate_left
           ·
            intro w'
            go_simp
            with_reducible rfl
           rotate_left
           ·
            simp only [Act.put, List.setIfInBounds_toArray, List.set_cons_zero, List.set_cons_succ, i64_w, i32_w]
            rfl
           refine pure_ (i := 13) (N := some 9) (v := ?_) (a' := ?_) #[true, true, true, true, true, true, true, true, true, true, true, true, true, true] rfl rfl (any_of HT_.out (by kernel_rfl)) (fun _ _ _ h => h) (Or.inl ⟨by rfl, ?_⟩) ?_ ?_
           rotate_left
           ·
            intro w'
            go_simp
            with_reducible rfl
           rotate_left
           ·
            simp only [Act.put, List.setIfInBounds_toArray, List.set_cons_zero, List.set_cons_succ, i64_w, i32_w]
            rfl
           refine done_ (done_of HT_.out (by kernel_rfl)) ?_
           try go_wp2
           go_ret2
           exact fin_
         ·
          rw [if_neg c9] at H
          exact absurd H (by simp)
        ·
         rw [if_neg c8] at H
         exact absurd H (by simp)
       ·
        rw [if_neg c7] at H
        exact absurd H (by simp)
      ·
       rw [if_neg c6] at H
       have c6b0 : decide (x22_2 < (l0.length : Int)) = false := decide_eq_false c6
       clear c6
       simp only [Option.some.injEq, Prod.mk.injEq] at H
       obtain ⟨rfl, rfl⟩ := H
       go_wp2
       go_ret2
       exact fin_

/-! ### pylonlaw02_numbers: function 14 -/
def pylonlaw02_numbers.l0 : Nat → List (S33) → List Cx → Int → Int → Option (List Cx)
 | 0, _, _, _, _ => none
 | k + 1, x0, x3, x9, x10 => if x10 < x9 then (if 0 ≤ x10 then (if x10 < (x0.length : Int) then ((pylonlaw02_Z_c.f ((rd_T33 x0 x10).f0) ((rd_T33 x0 x10).f1)).bind fun t124 => (if x10 < (x3.length : Int) then (pylonlaw02_numbers.l0 k x0 (x3.set (x10 : Int).toNat t124) x9 (wrap64 (x10 + 1))) else (none))) else (none)) else (none)) else (some x3)
def pylonlaw02_numbers.f (k : Nat) (l0 : List (S33)) : Option (List Cx) := if 0 ≤ (l0.length : Int) then (if ((l0.length : Int) : Int).toNat ≤ 17592186044416 then (pylonlaw02_numbers.l0 k l0 (List.replicate ((l0.length : Int) : Int).toNat (cx 0 0)) (l0.length : Int) 0) else (none)) else (none)
theorem pylonlaw02_numbers.mono_l : ∀ k, (∀ y0 y1 y2 y3, LeO (pylonlaw02_numbers.l0 k y0 y1 y2 y3) (pylonlaw02_numbers.l0 (k + 1) y0 y1 y2 y3))
 | 0 => fun _ _ _ _ r h => by simp [pylonlaw02_numbers.l0] at h
 | k + 1 => by
  have ih0 := pylonlaw02_numbers.mono_l k
  ·
   intro y0 y1 y2 y3
   unfold pylonlaw02_numbers.l0
   repeat' first
   | (with_reducible exact ih0 _ _ _ _)
   | (with_reducible exact LeO.refl _)
   | (with_reducible exact LeO.none _)
   | (with_reducible refine LeO.ite ?_ ?_)
   | (with_reducible refine LeO.bind ?_ (fun _ => ?_))
   | exact ih0 _ _ _ _
   | exact LeO.none _
   | refine LeO.ite ?_ ?_
   | refine LeO.bind ?_ (fun _ => ?_)
theorem pylonlaw02_numbers.mono : ∀ a0 k, LeO (pylonlaw02_numbers.f k a0) (pylonlaw02_numbers.f (k + 1) a0) := by
 intro a0 k
 have ih0 := pylonlaw02_numbers.mono_l k
 unfold pylonlaw02_numbers.f
 repeat' first
   | (with_reducible exact ih0 _ _ _ _)
   | (with_reducible exact LeO.refl _)
   | (with_reducible exact LeO.none _)
   | (with_reducible refine LeO.ite ?_ ?_)
   | (with_reducible refine LeO.bind ?_ (fun _ => ?_))
   | exact ih0 _ _ _ _
   | exact LeO.none _
   | refine LeO.ite ?_ ?_
   | refine LeO.bind ?_ (fun _ => ?_)
set_option maxHeartbeats 8000000 in
set_option maxRecDepth 100000 in
theorem pylonlaw02_numbers.calls (k : Nat) (A0 : Option Addr) (c0 : Nat) (l0 : List (S33)) (r : List Cx) (w : World) (hr0 : Kd.C k33 w A0 l0.length l0) (hc0 : l0.length ≤ c0) (h : pylonlaw02_numbers.f k l0 = some r) :
  Calls Tryz.prog 14 #[.slice A0 l0.length c0] w fun e w' => ∃ v0_ : Value, e = .returned (v0_) ∧ Kd.R Kd.c128 25 w' w.heap.size (fun _ => True) v0_ r ∧ Below w.heap.size w w' := by
 have hu33 := Tryz.underlying33
 have HR0 := Aside0.mk hr0
 have HC0 := Aside0.mk hc0
 clear hr0 hc0
 have HB := Aside0.mk (Below.refl w.heap.size w)
 have H : (if 0 ≤ (l0.length : Int) then (if ((l0.length : Int) : Int).toNat ≤ 17592186044416 then (pylonlaw02_numbers.l0 k l0 (List.replicate ((l0.length : Int) : Int).toNat (cx 0 0)) (l0.length : Int) 0) else (none)) else (none)) = some r := h
 clear h
 by_cases c2 : 0 ≤ (l0.length : Int)
 ·
  rw [if_pos c2] at H
  have c2b0 := eq_true c2
  have c2b1 : decide (0 ≤ (l0.length : Int)) = true := decide_eq_true c2
  clear c2
  by_cases c3 : ((l0.length : Int) : Int).toNat ≤ 17592186044416
  ·
   rw [if_pos c3] at H
   have c3b0 := eq_true c3
   have c3b1 : decide (((l0.length : Int) : Int).toNat ≤ 17592186044416) = true := decide_eq_true c3
   clear c3
   obtain ⟨y120, hy120⟩ : ∃ y_ : List Cx, y_ = (List.replicate ((l0.length : Int) : Int).toNat (cx 0 0)) := ⟨_, rfl⟩
   replace H : (pylonlaw02_numbers.l0 k l0 y120 (l0.length : Int) 0) = some r := by first | (rw [hy120]; with_reducible exact H) | (have H2_ := (Option.bind_some _ _).symm.trans H; rw [hy120]; with_reducible exact H2_) | (have H2_ := (Option.bind_some _ _).symm.trans H; with_reducible exact H2_) | with_reducible exact H | (rw [hy120]; exact H) | exact H
   have Ny120 := Aside0.mk hy120
   clear hy120
   have H' := Aside0.mk H
   clear H
   go_enter Tryz.func14, Tryz.ntmps14
   go_wp2_with (first | ((with_reducible refine gate_dst (N := 7) rfl ?_); refine Kd.R_make Kd.c128 _ 25 rfl (N := 7) rfl 46 _ _ rfl (l0.length : Int) rfl rfl Tryz.underlying46 (.complex .f64 0 0) 16 info25 rfl (by decide) (by omega) (cx 0 0) (ok := fun _ => True) (okp := fun _ => True) rfl (fun _ hk => hk) trivial (of_decide_eq_true (by first | (with_reducible assumption) | assumption)) (Nat.le_trans (Nat.mul_le_mul_right _ (of_decide_eq_true (by first | (with_reducible assumption) | assumption) : (l0.length : Int).toNat ≤ 17592186044416)) (by omega)) (Below.refl _ _) (Nat.le_refl _) ?_; intro v121 w4 ho5 hb hg_ hnew_; clear hg_ hnew_; (first | rw [← Ny120.out] at ho5 | (simp only [Int.reduceToNat] at ho5; rw [← Ny120.out] at ho5)); have HO122 := Aside0.mk (Kd.R_lower ho5 (below_size bl_)); replace HB := Aside0.mk (bst_ hb); clear hb ho5))
   go_loopg [10] k (fun kq v10 w' => ∃ (x3_1 : List Cx) (x10_1 : Int), v10 = .int .i64 x10_1 ∧ Aside0 (pylonlaw02_numbers.l0 kq l0 x3_1 (l0.length : Int) x10_1 = some r) ∧ Aside0 (kq ≤ k) ∧ Aside0 (Kd.R Kd.c128 25 w' w.heap.size (fun _ => True) v121 x3_1) ∧ Aside0 (Below w.heap.size w w'))
   case atStart => exact ⟨(y120), (0), (by first | rfl | (simp; done) | (simp [*]; done)), H', ⟨Nat.le_refl _⟩, ⟨by (with_reducible repeat (first | apply Kd.R_alloc | apply Kd.R_drewN | apply Kd.R_drew)); exact HO122.out⟩, ⟨bl_⟩⟩
   case round =>
    clear H'
    try clear c1
    try clear c2
    try clear c2b0
    try clear c2b1
    try clear p2
    try clear c3
    try clear c3b0
    try clear c3b1
    obtain ⟨x3_1, x10_1, rfl, HA, HK1, HO_3, HB⟩ := hrel
    cases gk with
    | zero => exact absurd HA.out (by simp [pylonlaw02_numbers.l0])
    | succ k1 =>
     have H := HA.out
     clear HA
     simp only [pylonlaw02_numbers.l0] at H
     by_cases c6 : x10_1 < (l0.length : Int)
     ·
      rw [if_pos c6] at H
      have c6b0 : decide (x10_1 < (l0.length : Int)) = true := decide_eq_true c6
      clear c6
      by_cases c7 : 0 ≤ x10_1
      ·
       rw [if_pos c7] at H
       have c7b0 : decide (0 ≤ x10_1) = true := decide_eq_true c7
       clear c7
       by_cases c8 : x10_1 < (l0.length : Int)
       ·
        rw [if_pos c8] at H
        have c8b0 : decide (x10_1 < (l0.length : Int)) = true := decide_eq_true c8
        clear c8
        replace H := Option.bind_eq_some_iff.mp H
        obtain ⟨t124, A90, H⟩ := H
        replace H : (if x10_1 < (x3_1.length : Int) then (pylonlaw02_numbers.l0 k1 l0 (x3_1.set (x10_1 : Int).toNat t124) (l0.length : Int) (wrap64 (x10_1 + 1))) else (none)) = some r := H
        have A9 := Aside0.mk A90
        clear A90
        by_cases c10 : x10_1 < (x3_1.length : Int)
        ·
         rw [if_pos c10] at H
         have c10b0 : decide (x10_1 < (x3_1.length : Int)) = true := decide_eq_true c10
         clear c10
         obtain ⟨y125, hy125⟩ : ∃ y_ : List Cx, y_ = (x3_1.set (x10_1 : Int).toNat t124) := ⟨_, rfl⟩
         replace H : (pylonlaw02_numbers.l0 k1 l0 y125 (l0.length : Int) (wrap64 (x10_1 + 1))) = some r := by first | (rw [hy125]; with_reducible exact H) | (have H2_ := (Option.bind_some _ _).symm.trans H; rw [hy125]; with_reducible exact H2_) | (have H2_ := (Option.bind_some _ _).symm.trans H; with_reducible exact H2_) | with_reducible exact H | (rw [hy125]; exact H) | exact H
         have Ny125 := Aside0.mk hy125
         clear hy125
         have H' := Aside0.mk H
         clear H
         have p123 : 0 ≤ (x10_1 : Int) := of_decide_eq_true (by first | (with_reducible assumption) | assumption)
         have q123 : x10_1 < (l0.length : Int) := of_decide_eq_true (by first | (with_reducible assumption) | assumption)
         obtain ⟨ad123, e123, hx123_0, hx123_1⟩ := at_T33 HR0.out x10_1 p123 q123
         cases e123
         replace hx123_0 := (HB.out.cell (World.block_lt_of_cell? w _ hx123_0)).trans hx123_0
         replace hx123_1 := (HB.out.cell (World.block_lt_of_cell? w _ hx123_1)).trans hx123_1
         replace p123 := eq_true p123
         replace q123 := eq_true q123
         go_wp2_with (first | ((with_reducible refine gate_callee (f := 10) rfl ?_); refine gL_ (some 19) Tryz.func10 #[.agg #[.float .f64 ((rd_T33 l0 x10_1).f0), .float .f64 ((rd_T33 l0 x10_1).f1)]] ?_; (with_reducible refine (pylonlaw02_Z_c.calls ((rd_T33 l0 x10_1).f0) ((rd_T33 l0 x10_1).f1) t124 _ A9.out).mono ?_); rintro e w12 ⟨rfl, hb⟩; refine ⟨_, rfl, ?_⟩; replace HO_3 := Aside0.mk (Kd.R_below (by (with_reducible repeat (first | apply Kd.R_alloc | apply Kd.R_drewN | apply Kd.R_drew)); exact HO_3.out) hb); replace HB := Aside0.mk (bst_ hb); (try clear hb); (try clear hb2); (try clear hk); (try clear hi); have p11 : 0 ≤ (x10_1 : Int) := of_decide_eq_true (by first | (with_reducible assumption) | assumption); have q11 : (x10_1 : Int) < ((x3_1.length : Int) : Int) := of_decide_eq_true (by first | (with_reducible assumption) | assumption); obtain ⟨go11, co11, eo11, gb11, gl11, cl11, HG11⟩ := Kd.R_form HO_3.out (by omega); (first | cases eo11 | (injection eo11 with ea_ en_ ec_; (first | subst ea_ | (injection ea_ with ea_; subst ea_)); subst ec_; clear en_)); have GB11 := Aside0.mk gb11; have GG11 := Aside0.mk HG11; clear gb11 gl11 HG11; obtain ⟨hx11_0, hf11_0⟩ := Kd.R_celln (cx 0 0) HO_3.out (x10_1 : Int) p11 q11; replace p11 := eq_true p11; replace q11 := eq_true q11; obtain ⟨hy13_, hz13_⟩ := Kd.R_celln (cx 0 0) HO_3.out (x10_1 : Int) (of_decide_eq_true (by first | (with_reducible assumption) | assumption)) (of_decide_eq_true (by first | (with_reducible assumption) | assumption)); have HP13 := Kd.R_putg HO_3.out (x10_1 : Int) t124) | ((with_reducible refine gate_store (t := 25) (p := 20) rfl ?_); refine store_event (t := 25) (p := 20) (v := ?vo_w14) (w1 := (w12.setCell ⟨go11, (x10_1 : Int).toNat, none⟩ (.complex .f64 t124.re t124.im))) ?hg ?ho ?hn ?hr ?_; (case ho => rfl); (case hg => rfl); (case hn => rfl); (case hr => first | (go_simp; done) | (go_simp; rfl)); intro w14 hw; have hg : w12.grownBy w14 (some go11) := (by rw [hw]; exact HP13.2); have hp_ : Kd.R Kd.c128 25 w14 w.heap.size (fun _ => True) (.slice (some ⟨go11, 0, none⟩) x3_1.length co11) y125 := (by rw [hw, Ny125.out]; exact HP13.1); clear HP13; replace HO_3 := Aside0.mk (hp_); replace HB := Aside0.mk ((by rw [hw]; exact below_set (HB.out) GB11.out : Below w.heap.size w w14)); clear hg hw hp_))
         go_roundg k1
         case measure => have := HK1.out; omega
         case rel => exact ⟨(y125), (wrap64 (x10_1 + 1)), (by first | rfl | (simp; done) | (simp [*]; done)), H', ⟨by have := HK1.out; omega⟩, ⟨by (with_reducible repeat (first | apply Kd.R_alloc | apply Kd.R_drewN | apply Kd.R_drew)); exact HO_3.out⟩, ⟨bl_⟩⟩
        ·
         rw [if_neg c10] at H
         exact absurd H (by simp)
       ·
        rw [if_neg c8] at H
        exact absurd H (by simp)
      ·
       rw [if_neg c7] at H
       exact absurd H (by simp)
     ·
      rw [if_neg c6] at H
      have c6b0 : decide (x10_1 < (l0.length : Int)) = false := decide_eq_false c6
      clear c6
      obtain rfl := Option.some.inj H
      go_wp2
      go_ret
      exact ⟨_, by first | rfl | (simp [errW_none, errW_some] <;> rfl) | (simp [*, errW_none, errW_some] <;> rfl), by (with_reducible repeat (first | apply Kd.R_alloc | apply Kd.R_drewN | apply Kd.R_drew)); exact HO_3.out, by repeat (first | (with_reducible first | exact HB.out | apply below_alloc | apply pw_below_drewN | apply below_drew1) | exact HB.out)⟩
  ·
   rw [if_neg c3] at H
   exact absurd H (by simp)
 ·
  rw [if_neg c2] at H
  exact absurd H (by simp)

/-! ### phasor_Aron: function 15 -/
def phasor_Aron.f (a0 : Cx) (a1 : Cx) (a2 : Cx) (a3 : Cx) : Option (Cx × Int) := (phasor_Power.f a0 a2).bind fun bt126 => ((phasor_Power.f a1 a3).bind fun bt128 => (if bt126.2 = 0 then (if bt128.2 = 0 then (if caddok bt126.1.re bt126.1.im bt128.1.re bt128.1.im = true then (some (cx (caddre bt126.1.re bt126.1.im bt128.1.re bt128.1.im) (caddim bt126.1.re bt126.1.im bt128.1.re bt128.1.im), 0)) else (none)) else (some (cx 0 0, 5))) else (some (cx 0 0, 5))))
set_option maxHeartbeats 8000000 in
set_option maxRecDepth 100000 in
theorem phasor_Aron.calls (a0 : Cx) (a1 : Cx) (a2 : Cx) (a3 : Cx) (r1 : Cx) (r2 : Int) (w : World) (h : phasor_Aron.f a0 a1 a2 a3 = some (r1, r2)) :
  Calls Tryz.prog 15 #[.complex .f64 a0.re a0.im, .complex .f64 a1.re a1.im, .complex .f64 a2.re a2.im, .complex .f64 a3.re a3.im] w fun e w' => e = .returned (.tuple #[.complex .f64 r1.re r1.im, .int .i64 r2]) ∧ Below w.heap.size w w' := by
 have HB := Aside0.mk (Below.refl w.heap.size w)
 have H : ((phasor_Power.f a0 a2).bind fun bt126 => ((phasor_Power.f a1 a3).bind fun bt128 => (if bt126.2 = 0 then (if bt128.2 = 0 then (if caddok bt126.1.re bt126.1.im bt128.1.re bt128.1.im = true then (some (cx (caddre bt126.1.re bt126.1.im bt128.1.re bt128.1.im) (caddim bt126.1.re bt126.1.im bt128.1.re bt128.1.im), 0)) else (none)) else (some (cx 0 0, 5))) else (some (cx 0 0, 5))))) = some (r1, r2) := h
 clear h
 replace H := Option.bind_eq_some_iff.mp H
 obtain ⟨⟨t126, t127⟩, A50, H⟩ := H
 replace H : ((phasor_Power.f a1 a3).bind fun bt128 => (if t127 = 0 then (if bt128.2 = 0 then (if caddok t126.re t126.im bt128.1.re bt128.1.im = true then (some (cx (caddre t126.re t126.im bt128.1.re bt128.1.im) (caddim t126.re t126.im bt128.1.re bt128.1.im), 0)) else (none)) else (some (cx 0 0, 5))) else (some (cx 0 0, 5)))) = some (r1, r2) := H
 have A5 := Aside0.mk A50
 clear A50
 replace H := Option.bind_eq_some_iff.mp H
 obtain ⟨⟨t128, t129⟩, A60, H⟩ := H
 replace H : (if t127 = 0 then (if t129 = 0 then (if caddok t126.re t126.im t128.re t128.im = true then (some (cx (caddre t126.re t126.im t128.re t128.im) (caddim t126.re t126.im t128.re t128.im), 0)) else (none)) else (some (cx 0 0, 5))) else (some (cx 0 0, 5))) = some (r1, r2) := H
 have A6 := Aside0.mk A60
 clear A60
 by_cases c7 : t127 = 0
 ·
  rw [if_pos c7] at H
  obtain ⟨c7b0, c7b1⟩ := eqT_ c7
  clear c7
  by_cases c8 : t129 = 0
  ·
   rw [if_pos c8] at H
   obtain ⟨c8b0, c8b1⟩ := eqT_ c8
   clear c8
   by_cases c9 : caddok t126.re t126.im t128.re t128.im = true
   ·
    rw [if_pos c9] at H
    have c9b0 := eq_true c9
    have c9b1 : decide (caddok t126.re t126.im t128.re t128.im = true) = true := decide_eq_true c9
    clear c9
    simp only [Option.some.injEq, Prod.mk.injEq] at H
    obtain ⟨rfl, rfl⟩ := H
    go_enter Tryz.func15, Tryz.ntmps15
    go_wp2_with (first | ((with_reducible refine gate_callee (f := 8) rfl ?_); refine gL_ (some 17) Tryz.func8 #[.complex .f64 a0.re a0.im, .complex .f64 a2.re a2.im] ?_; (with_reducible refine (phasor_Power.calls a0 a2 t126 t127 _ A5.out).mono ?_); rintro e w10 ⟨rfl, hb⟩; refine ⟨_, rfl, ?_⟩; replace HB := Aside0.mk (bst_ hb); (try clear hb); (try clear hb2); (try clear hk); (try clear hi)) | ((with_reducible refine gate_callee (f := 8) rfl ?_); refine gL_ (some 23) Tryz.func8 #[.complex .f64 a1.re a1.im, .complex .f64 a3.re a3.im] ?_; (with_reducible refine (phasor_Power.calls a1 a3 t128 t129 _ A6.out).mono ?_); rintro e w11 ⟨rfl, hb⟩; refine ⟨_, rfl, ?_⟩; replace HB := Aside0.mk (bst_ hb); (try clear hb); (try clear hb2); (try clear hk); (try clear hi)))
    go_ret2
    exact fin_
   ·
    rw [if_neg c9] at H
    exact absurd H (by simp)
  ·
   rw [if_neg c8] at H
   obtain ⟨c8b0, c8b1⟩ := eqF_ c8
   simp only [Option.some.injEq, Prod.mk.injEq] at H
   obtain ⟨rfl, rfl⟩ := H
   go_enter Tryz.func15, Tryz.ntmps15
   go_wp2_with (first | ((with_reducible refine gate_callee (f := 8) rfl ?_); refine gL_ (some 17) Tryz.func8 #[.complex .f64 a0.re a0.im, .complex .f64 a2.re a2.im] ?_; (with_reducible refine (phasor_Power.calls a0 a2 t126 t127 _ A5.out).mono ?_); rintro e w12 ⟨rfl, hb⟩; refine ⟨_, rfl, ?_⟩; replace HB := Aside0.mk (bst_ hb); (try clear hb); (try clear hb2); (try clear hk); (try clear hi)) | ((with_reducible refine gate_callee (f := 8) rfl ?_); refine gL_ (some 23) Tryz.func8 #[.complex .f64 a1.re a1.im, .complex .f64 a3.re a3.im] ?_; (with_reducible refine (phasor_Power.calls a1 a3 t128 t129 _ A6.out).mono ?_); rintro e w13 ⟨rfl, hb⟩; refine ⟨_, rfl, ?_⟩; replace HB := Aside0.mk (bst_ hb); (try clear hb); (try clear hb2); (try clear hk); (try clear hi)))
   go_ret2
   exact fin_
 ·
  rw [if_neg c7] at H
  obtain ⟨c7b0, c7b1⟩ := eqF_ c7
  simp only [Option.some.injEq, Prod.mk.injEq] at H
  obtain ⟨rfl, rfl⟩ := H
  go_enter Tryz.func15, Tryz.ntmps15
  go_wp2_with (first | ((with_reducible refine gate_callee (f := 8) rfl ?_); refine gL_ (some 17) Tryz.func8 #[.complex .f64 a0.re a0.im, .complex .f64 a2.re a2.im] ?_; (with_reducible refine (phasor_Power.calls a0 a2 t126 t127 _ A5.out).mono ?_); rintro e w14 ⟨rfl, hb⟩; refine ⟨_, rfl, ?_⟩; replace HB := Aside0.mk (bst_ hb); (try clear hb); (try clear hb2); (try clear hk); (try clear hi)) | ((with_reducible refine gate_callee (f := 8) rfl ?_); refine gL_ (some 23) Tryz.func8 #[.complex .f64 a1.re a1.im, .complex .f64 a3.re a3.im] ?_; (with_reducible refine (phasor_Power.calls a1 a3 t128 t129 _ A6.out).mono ?_); rintro e w15 ⟨rfl, hb⟩; refine ⟨_, rfl, ?_⟩; replace HB := Aside0.mk (bst_ hb); (try clear hb); (try clear hb2); (try clear hk); (try clear hi)))
  go_ret2
  exact fin_

/-! ### phasor_unit: function 37 -/
def phasor_unit.f (a0 : Int) : Option (Cx) := if 0 ≤ (Go.bits .and .i64 a0 3) then (if (Go.bits .and .i64 a0 3) < 4 then (some (cx (pk4 (Go.bits .and .i64 a0 3) 4607182418800017408 0 13830554455654793216 0) (pk4 (Go.bits .and .i64 a0 3) 0 4607182418800017408 0 13830554455654793216))) else (none)) else (none)
set_option maxHeartbeats 8000000 in
set_option maxRecDepth 100000 in
theorem phasor_unit.calls (a0 : Int) (r : Cx) (w : World) (h : phasor_unit.f a0 = some r) :
  Calls Tryz.prog 37 #[.int .i64 a0] w fun e w' => e = .returned (.complex .f64 r.re r.im) ∧ Drawn0 w w' := by
 have hu26 := Tryz.underlying26
 have hpk26 := fun w k i a1 a2 b1 b2 c1 c2 d1 d2 => cxx_pick (P := Tryz.prog) w 26 k i a1 a2 b1 b2 c1 c2 d1 d2 (by kernel_rfl) (by kernel_rfl) (by kernel_rfl) (by kernel_rfl)
 have H : (if 0 ≤ (Go.bits .and .i64 a0 3) then (if (Go.bits .and .i64 a0 3) < 4 then (some (cx (pk4 (Go.bits .and .i64 a0 3) 4607182418800017408 0 13830554455654793216 0) (pk4 (Go.bits .and .i64 a0 3) 0 4607182418800017408 0 13830554455654793216))) else (none)) else (none)) = some r := h
 clear h
 by_cases c2 : 0 ≤ (Go.bits .and .i64 a0 3)
 ·
  rw [if_pos c2] at H
  have c2b0 := eq_true c2
  have c2b1 : decide (0 ≤ (Go.bits .and .i64 a0 3)) = true := decide_eq_true c2
  clear c2
  by_cases c3 : (Go.bits .and .i64 a0 3) < 4
  ·
   rw [if_pos c3] at H
   have c3b0 := eq_true c3
   have c3b1 : decide ((Go.bits .and .i64 a0 3) < 4) = true := decide_eq_true c3
   clear c3
   obtain rfl := Option.some.inj H
   go_enter Tryz.func37, Tryz.ntmps37
   go_wp2
   go_ret
   exact ⟨by first | rfl | (simp; done) | (simp [*]; done), by repeat (first | exact Drawn0.refl _ | apply Drawn0.step)⟩
  ·
   rw [if_neg c3] at H
   exact absurd H (by simp)
 ·
  rw [if_neg c2] at H
  exact absurd H (by simp)

/-! ### phasor_Turn: function 16 -/
def phasor_Turn.f (a0 : Cx) (a1 : Int) : Option (Cx × Int) := (phasor_Fits.f a0).bind fun t130 => (if t130 = true then ((phasor_unit.f a1).bind fun t131 => (if cmulok a0.re a0.im t131.re t131.im = true then (some (cx (cmulre a0.re a0.im t131.re t131.im) (cmulim a0.re a0.im t131.re t131.im), 0)) else (none))) else (some (cx 0 0, 5)))
set_option maxHeartbeats 8000000 in
set_option maxRecDepth 100000 in
theorem phasor_Turn.calls (a0 : Cx) (a1 : Int) (r1 : Cx) (r2 : Int) (w : World) (h : phasor_Turn.f a0 a1 = some (r1, r2)) :
  Calls Tryz.prog 16 #[.complex .f64 a0.re a0.im, .int .i64 a1] w fun e w' => e = .returned (.tuple #[.complex .f64 r1.re r1.im, .int .i64 r2]) ∧ Below w.heap.size w w' := by
 have HB := Aside0.mk (Below.refl w.heap.size w)
 have H : ((phasor_Fits.f a0).bind fun t130 => (if t130 = true then ((phasor_unit.f a1).bind fun t131 => (if cmulok a0.re a0.im t131.re t131.im = true then (some (cx (cmulre a0.re a0.im t131.re t131.im) (cmulim a0.re a0.im t131.re t131.im), 0)) else (none))) else (some (cx 0 0, 5)))) = some (r1, r2) := h
 clear h
 replace H := Option.bind_eq_some_iff.mp H
 obtain ⟨t130, A30, H⟩ := H
 replace H : (if t130 = true then ((phasor_unit.f a1).bind fun t131 => (if cmulok a0.re a0.im t131.re t131.im = true then (some (cx (cmulre a0.re a0.im t131.re t131.im) (cmulim a0.re a0.im t131.re t131.im), 0)) else (none))) else (some (cx 0 0, 5))) = some (r1, r2) := H
 have A3 := Aside0.mk A30
 clear A30
 by_cases c4 : t130 = true
 ·
  subst c4
  have H1 : ((phasor_unit.f a1).bind fun t131 => (if cmulok a0.re a0.im t131.re t131.im = true then (some (cx (cmulre a0.re a0.im t131.re t131.im) (cmulim a0.re a0.im t131.re t131.im), 0)) else (none))) = some (r1, r2) := by rw [if_pos rfl] at H; exact H
  clear H
  have H := H1
  clear H1
  replace H := Option.bind_eq_some_iff.mp H
  obtain ⟨t131, A50, H⟩ := H
  replace H : (if cmulok a0.re a0.im t131.re t131.im = true then (some (cx (cmulre a0.re a0.im t131.re t131.im) (cmulim a0.re a0.im t131.re t131.im), 0)) else (none)) = some (r1, r2) := H
  have A5 := Aside0.mk A50
  clear A50
  by_cases c6 : cmulok a0.re a0.im t131.re t131.im = true
  ·
   rw [if_pos c6] at H
   have c6b0 := eq_true c6
   have c6b1 : decide (cmulok a0.re a0.im t131.re t131.im = true) = true := decide_eq_true c6
   clear c6
   simp only [Option.some.injEq, Prod.mk.injEq] at H
   obtain ⟨rfl, rfl⟩ := H
   go_enter Tryz.func16, Tryz.ntmps16
   go_wp2_with (first | ((with_reducible refine gate_callee (f := 9) rfl ?_); refine gL_ (some 7) Tryz.func9 #[.complex .f64 a0.re a0.im] ?_; (with_reducible refine (phasor_Fits.calls a0 true _ A3.out).mono ?_); rintro e w7 ⟨rfl, hb⟩; refine ⟨_, rfl, ?_⟩; replace HB := Aside0.mk (bst_ hb); (try clear hb); (try clear hb2); (try clear hk); (try clear hi)) | ((with_reducible refine gate_callee (f := 37) rfl ?_); refine gL_ (some 11) Tryz.func37 #[.int .i64 a1] ?_; (with_reducible refine (phasor_unit.calls a1 t131 _ A5.out).mono ?_); rintro e w' ⟨rfl, ⟨nd, rfl⟩⟩; refine ⟨_, rfl, ?_⟩))
   go_ret2
   exact fin_
  ·
   rw [if_neg c6] at H
   exact absurd H (by simp)
 ·
  replace c4 := Bool.eq_false_iff.mpr c4
  subst c4
  have H1 : (some (cx 0 0, 5)) = some (r1, r2) := by rw [if_neg (show ¬ (false = true) by decide)] at H; exact H
  clear H
  have H := H1
  clear H1
  simp only [Option.some.injEq, Prod.mk.injEq] at H
  obtain ⟨rfl, rfl⟩ := H
  go_enter Tryz.func16, Tryz.ntmps16
  go_wp2_with (first | ((with_reducible refine gate_callee (f := 9) rfl ?_); refine gL_ (some 7) Tryz.func9 #[.complex .f64 a0.re a0.im] ?_; (with_reducible refine (phasor_Fits.calls a0 false _ A3.out).mono ?_); rintro e w8 ⟨rfl, hb⟩; refine ⟨_, rfl, ?_⟩; replace HB := Aside0.mk (bst_ hb); (try clear hb); (try clear hb2); (try clear hk); (try clear hi)))
  go_ret2
  exact fin_

end Go.Proofs.YtofedlghaopciaaGreatDoor.PA
