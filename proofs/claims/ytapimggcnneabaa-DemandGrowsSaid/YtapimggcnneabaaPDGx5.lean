-- Written by a program of this session for this claim (wip/print2.sh). Lean checks it.
import Derived.Test.YtapimggcnneabaaPDGx0
import Derived.Test.YtapimggcnneabaaPDGx3
import Derived.Test.YtapimggcnneabaaPDGx4
namespace Go.Proofs.Ytapimggcnneabaa.PDG
open Go.Proofs.YtapimggcnneabaaW.PrintWords
attribute [local go_sem high] fx_eql fx_neq fx_lss fx_leq fx_gtr fx_geq fx_add fx_sub fx_mul fx_neg fx_toint cxx_add cxx_sub cxx_mul cxx_eql cxx_neq cxx_pick st_float st_complex
open Go.RowKit Go.Proofs.YtapimggcnneabaaW.PrintWords Go.Proofs.YtapimggcnneabaaW.PrintLast Go.Proofs.YtapimggcnneabaaW.PrintMore
attribute [local go_sem] max2_int min2_int max_two min_two max_three min_three max_four min_four   -- for this text's walks alone
set_option linter.unusedVariables false
set_option linter.unusedSimpArgs false

/-! ### demand_Peak: function 56 -/
mutual
def demand_Peak.l0 : Nat → List Cx → Int → Int → List (S90) → List Cx → Int → Int → Option (Int × Int)
  | 0, _, _, _, _, _, _, _ => none
  | k + 1, x0, x2, x3, x14, x45, x46, x47 => if x47 < x46 then (if 0 ≤ x47 then (if x47 < (x45.length : Int) then ((meter_Fits.f (rdOf (cx 0 0) x45 x47)).bind fun t154 => (if t154 = true then (demand_Peak.l0 k x0 x2 x3 x14 x45 x46 (wrap64 (x47 + 1))) else (some (0, 5)))) else (none)) else (none)) else (demand_Peak.l1 k x0 x2 x3 0 x14 (x14.length : Int) 0)
def demand_Peak.l1 : Nat → List Cx → Int → Int → Int → List (S90) → Int → Int → Option (Int × Int)
  | 0, _, _, _, _, _, _, _ => none
  | k + 1, x0, x2, x3, x18, x55, x56, x57 => if x57 < x56 then (if 0 ≤ x57 then (if x57 < (x55.length : Int) then (if 0 ≤ ((rd_T90 x55 x57).f0) then (if ((rd_T90 x55 x57).f0) ≤ ((rd_T90 x55 x57).f1) then (if ((rd_T90 x55 x57).f1) ≤ (x0.length : Int) then ((some ((x0.take (((rd_T90 x55 x57).f1) : Int).toNat).drop (((rd_T90 x55 x57).f0) : Int).toNat : List Cx)).bind fun y157 => (demand_Peak.l2 k x0 x2 x3 x18 (cx 0 0) x55 x56 x57 y157 (y157.length : Int) 0)) else (none)) else (none)) else (none)) else (none)) else (none)) else (some (x18, 0))
def demand_Peak.l2 : Nat → List Cx → Int → Int → Int → Cx → List (S90) → Int → Int → List Cx → Int → Int → Option (Int × Int)
  | 0, _, _, _, _, _, _, _, _, _, _, _ => none
  | k + 1, x0, x2, x3, x18, x21, x55, x56, x57, x66, x67, x68 => if x68 < x67 then (if 0 ≤ x68 then (if x68 < (x66.length : Int) then (if caddok x21.re x21.im (rdOf (cx 0 0) x66 x68).re (rdOf (cx 0 0) x66 x68).im = true then (demand_Peak.l2 k x0 x2 x3 x18 (cx (caddre x21.re x21.im (rdOf (cx 0 0) x66 x68).re (rdOf (cx 0 0) x66 x68).im) (caddim x21.re x21.im (rdOf (cx 0 0) x66 x68).re (rdOf (cx 0 0) x66 x68).im)) x55 x56 x57 x66 x67 (wrap64 (x68 + 1))) else (none)) else (none)) else (none)) else ((demand_Power.f k x21 (mx x2 x3)).bind fun bt162 => (demand_Peak.l1 k x0 x2 x3 (mx x18 bt162.1) x55 x56 (wrap64 (x57 + 1))))
end
def demand_Peak.f (k : Nat) (l0 : List Cx) (a1 : Int) (a2 : Int) (a3 : Int) (a4 : Int) (a5 : Int) : Option (Int × Int) := (demand_Whole.f k a1 a2 a3 a4 a5).bind fun bt145 => (if bt145.2 = 0 then (if a5 > (l0.length : Int) then (some (0, 8)) else (if 0 ≤ a4 then (if a4 ≤ a5 then (if a5 ≤ (l0.length : Int) then ((some ((l0.take (a5 : Int).toNat).drop (a4 : Int).toNat : List Cx)).bind fun y149 => (demand_Peak.l0 k l0 a2 a3 bt145.1 y149 (y149.length : Int) 0)) else (none)) else (none)) else (none))) else (some (0, bt145.2)))
theorem demand_Peak.mono_l : ∀ k, (∀ y0 y1 y2 y3 y4 y5 y6, LeO (demand_Peak.l0 k y0 y1 y2 y3 y4 y5 y6) (demand_Peak.l0 (k + 1) y0 y1 y2 y3 y4 y5 y6)) ∧ (∀ y0 y1 y2 y3 y4 y5 y6, LeO (demand_Peak.l1 k y0 y1 y2 y3 y4 y5 y6) (demand_Peak.l1 (k + 1) y0 y1 y2 y3 y4 y5 y6)) ∧ (∀ y0 y1 y2 y3 y4 y5 y6 y7 y8 y9 y10, LeO (demand_Peak.l2 k y0 y1 y2 y3 y4 y5 y6 y7 y8 y9 y10) (demand_Peak.l2 (k + 1) y0 y1 y2 y3 y4 y5 y6 y7 y8 y9 y10))
  | 0 => ⟨fun _ _ _ _ _ _ _ r h => by simp [demand_Peak.l0] at h, fun _ _ _ _ _ _ _ r h => by simp [demand_Peak.l1] at h, fun _ _ _ _ _ _ _ _ _ _ _ r h => by simp [demand_Peak.l2] at h⟩
  | k + 1 => by
    obtain ⟨ih0, ih1, ih2⟩ := demand_Peak.mono_l k
    refine ⟨?_, ?_, ?_⟩
    · intro y0 y1 y2 y3 y4 y5 y6
      unfold demand_Peak.l0
      repeat' first
      | (with_reducible exact ih0 _ _ _ _ _ _ _)
      | (with_reducible exact ih1 _ _ _ _ _ _ _)
      | (with_reducible exact ih2 _ _ _ _ _ _ _ _ _ _ _)
      | (with_reducible exact demand_Power.mono _ _ _)
      | (with_reducible exact demand_Whole.mono _ _ _ _ _ _)
      | (with_reducible exact LeO.refl _)
      | (with_reducible exact LeO.none _)
      | (with_reducible refine LeO.ite ?_ ?_)
      | (with_reducible refine LeO.bind ?_ (fun _ => ?_))
      | exact ih0 _ _ _ _ _ _ _
      | exact ih1 _ _ _ _ _ _ _
      | exact ih2 _ _ _ _ _ _ _ _ _ _ _
      | exact demand_Power.mono _ _ _
      | exact demand_Whole.mono _ _ _ _ _ _
      | exact LeO.none _
      | refine LeO.ite ?_ ?_
      | refine LeO.bind ?_ (fun _ => ?_)
    · intro y0 y1 y2 y3 y4 y5 y6
      unfold demand_Peak.l1
      repeat' first
      | (with_reducible exact ih0 _ _ _ _ _ _ _)
      | (with_reducible exact ih1 _ _ _ _ _ _ _)
      | (with_reducible exact ih2 _ _ _ _ _ _ _ _ _ _ _)
      | (with_reducible exact demand_Power.mono _ _ _)
      | (with_reducible exact demand_Whole.mono _ _ _ _ _ _)
      | (with_reducible exact LeO.refl _)
      | (with_reducible exact LeO.none _)
      | (with_reducible refine LeO.ite ?_ ?_)
      | (with_reducible refine LeO.bind ?_ (fun _ => ?_))
      | exact ih0 _ _ _ _ _ _ _
      | exact ih1 _ _ _ _ _ _ _
      | exact ih2 _ _ _ _ _ _ _ _ _ _ _
      | exact demand_Power.mono _ _ _
      | exact demand_Whole.mono _ _ _ _ _ _
      | exact LeO.none _
      | refine LeO.ite ?_ ?_
      | refine LeO.bind ?_ (fun _ => ?_)
    · intro y0 y1 y2 y3 y4 y5 y6 y7 y8 y9 y10
      unfold demand_Peak.l2
      repeat' first
      | (with_reducible exact ih0 _ _ _ _ _ _ _)
      | (with_reducible exact ih1 _ _ _ _ _ _ _)
      | (with_reducible exact ih2 _ _ _ _ _ _ _ _ _ _ _)
      | (with_reducible exact demand_Power.mono _ _ _)
      | (with_reducible exact demand_Whole.mono _ _ _ _ _ _)
      | (with_reducible exact LeO.refl _)
      | (with_reducible exact LeO.none _)
      | (with_reducible refine LeO.ite ?_ ?_)
      | (with_reducible refine LeO.bind ?_ (fun _ => ?_))
      | exact ih0 _ _ _ _ _ _ _
      | exact ih1 _ _ _ _ _ _ _
      | exact ih2 _ _ _ _ _ _ _ _ _ _ _
      | exact demand_Power.mono _ _ _
      | exact demand_Whole.mono _ _ _ _ _ _
      | exact LeO.none _
      | refine LeO.ite ?_ ?_
      | refine LeO.bind ?_ (fun _ => ?_)
theorem demand_Peak.mono : ∀ a0 a1 a2 a3 a4 a5 k, LeO (demand_Peak.f k a0 a1 a2 a3 a4 a5) (demand_Peak.f (k + 1) a0 a1 a2 a3 a4 a5) := by
  intro a0 a1 a2 a3 a4 a5 k
  obtain ⟨ih0, ih1, ih2⟩ := demand_Peak.mono_l k
  unfold demand_Peak.f
  repeat' first
      | (with_reducible exact ih0 _ _ _ _ _ _ _)
      | (with_reducible exact ih1 _ _ _ _ _ _ _)
      | (with_reducible exact ih2 _ _ _ _ _ _ _ _ _ _ _)
      | (with_reducible exact demand_Power.mono _ _ _)
      | (with_reducible exact demand_Whole.mono _ _ _ _ _ _)
      | (with_reducible exact LeO.refl _)
      | (with_reducible exact LeO.none _)
      | (with_reducible refine LeO.ite ?_ ?_)
      | (with_reducible refine LeO.bind ?_ (fun _ => ?_))
      | exact ih0 _ _ _ _ _ _ _
      | exact ih1 _ _ _ _ _ _ _
      | exact ih2 _ _ _ _ _ _ _ _ _ _ _
      | exact demand_Power.mono _ _ _
      | exact demand_Whole.mono _ _ _ _ _ _
      | exact LeO.none _
      | refine LeO.ite ?_ ?_
      | refine LeO.bind ?_ (fun _ => ?_)
set_option maxHeartbeats 8000000 in
set_option maxRecDepth 100000 in
theorem demand_Peak.calls (k : Nat) (A0 : Option Addr) (c0 : Nat) (l0 : List Cx) (a1 : Int) (a2 : Int) (a3 : Int) (a4 : Int) (a5 : Int) (r1 : Int) (r2 : Int) (w : World) (hr0 : Kd.C Kd.c128 w A0 l0.length l0) (hc0 : l0.length ≤ c0) (h : demand_Peak.f k l0 a1 a2 a3 a4 a5 = some (r1, r2)) :
    Calls Try.prog 56 #[.slice A0 l0.length c0, .int .i64 a1, .int .i64 a2, .int .i64 a3, .int .i64 a4, .int .i64 a5] w fun e w' => e = .returned (.tuple #[.int .i64 r1, .int .i64 r2]) ∧ Below w.heap.size w w' := by
  have hu90 := Try.underlying90
  have HR0 := Aside0.mk hr0
  have HC0 := Aside0.mk hc0
  clear hr0 hc0
  have HB := Aside0.mk (Below.refl w.heap.size w)
  have H : ((demand_Whole.f k a1 a2 a3 a4 a5).bind fun bt145 => (if bt145.2 = 0 then (if a5 > (l0.length : Int) then (some (0, 8)) else (if 0 ≤ a4 then (if a4 ≤ a5 then (if a5 ≤ (l0.length : Int) then ((some ((l0.take (a5 : Int).toNat).drop (a4 : Int).toNat : List Cx)).bind fun y149 => (demand_Peak.l0 k l0 a2 a3 bt145.1 y149 (y149.length : Int) 0)) else (none)) else (none)) else (none))) else (some (0, bt145.2)))) = some (r1, r2) := h
  clear h
  replace H := Option.bind_eq_some_iff.mp H
  obtain ⟨⟨t145, t146⟩, A70, H⟩ := H
  replace H : (if t146 = 0 then (if a5 > (l0.length : Int) then (some (0, 8)) else (if 0 ≤ a4 then (if a4 ≤ a5 then (if a5 ≤ (l0.length : Int) then ((some ((l0.take (a5 : Int).toNat).drop (a4 : Int).toNat : List Cx)).bind fun y149 => (demand_Peak.l0 k l0 a2 a3 t145 y149 (y149.length : Int) 0)) else (none)) else (none)) else (none))) else (some (0, t146))) = some (r1, r2) := H
  have A7 := Aside0.mk A70
  clear A70
  by_cases c8 : t146 = 0
  · rw [if_pos c8] at H
    have c8b0 : (t146 == 0) = true := beq_iff_eq.mpr c8
    have c8b1 : (t146 != 0) = false := bne_eq_false_iff_eq.mpr c8
    clear c8
    by_cases c9 : a5 > (l0.length : Int)
    · rw [if_pos c9] at H
      have c9b0 : decide ((l0.length : Int) < a5) = true := decide_eq_true c9
      clear c9
      simp only [Option.some.injEq, Prod.mk.injEq] at H
      obtain ⟨rfl, rfl⟩ := H
      go_enter Try.func56, Try.ntmps56
      go_wp2_with (first | ((with_reducible refine gate_callee (f := 49) rfl ?_); refine goesL_ (some 32) rfl rfl Try.func49 (by kernel_rfl) rfl #[.int .i64 a1, .int .i64 a2, .int .i64 a3, .int .i64 a4, .int .i64 a5] rfl (by (try simp only [List.map_toArray, List.map_cons, List.map_nil]); first | done | rfl | (simp only [List.length_drop, List.length_take]; rfl)) ?_; (with_reducible refine (demand_Whole.calls k a1 a2 a3 a4 a5 t145 t146 _ A7.out).mono ?_); rintro e w10 ⟨v147, rfl, ho0, hb⟩; refine ⟨_, rfl, ?_⟩; have n0_ := Aside0.mk (Kd.R_lower ho0 (below_size (by repeat (first | (with_reducible first | exact HB.out | apply below_alloc | apply pw_below_drewN | apply below_drew1) | exact HB.out)))); have n1_ := Aside0.mk (below_step (by repeat (first | (with_reducible first | exact HB.out | apply below_alloc | apply pw_below_drewN | apply below_drew1) | exact HB.out)) hb); clear HB; have HO148 := n0_; have HB := n1_; clear n0_ n1_; (try clear hb); (try clear hb2); (try clear hk); (try clear hi); (try clear ho0)))
      go_ret2
      exact ⟨by first | rfl | (simp [errW_none, errW_some] <;> rfl) | (simp [*, errW_none, errW_some] <;> rfl), by repeat (first | (with_reducible first | exact HB.out | apply below_alloc | apply pw_below_drewN | apply below_drew1) | exact HB.out)⟩
    · rw [if_neg c9] at H
      have c9b0 : decide ((l0.length : Int) < a5) = false := decide_eq_false c9
      clear c9
      by_cases c11 : 0 ≤ a4
      · rw [if_pos c11] at H
        have c11b0 := eq_true c11
        have c11b1 : decide (0 ≤ a4) = true := decide_eq_true c11
        clear c11
        by_cases c12 : a4 ≤ a5
        · rw [if_pos c12] at H
          have c12b0 := eq_true c12
          have c12b1 : decide (a4 ≤ a5) = true := decide_eq_true c12
          clear c12
          by_cases c13 : a5 ≤ (l0.length : Int)
          · rw [if_pos c13] at H
            have c13b0 := eq_true c13
            have c13b1 : decide (a5 ≤ (l0.length : Int)) = true := decide_eq_true c13
            clear c13
            obtain ⟨y149, hy149⟩ : ∃ y_ : List Cx, y_ = ((l0.take (a5 : Int).toNat).drop (a4 : Int).toNat) := ⟨_, rfl⟩
            replace H : (demand_Peak.l0 k l0 a2 a3 t145 y149 (y149.length : Int) 0) = some (r1, r2) := by first | (rw [hy149]; with_reducible exact H) | (have H2_ := (Option.bind_some _ _).symm.trans H; rw [hy149]; with_reducible exact H2_) | (have H2_ := (Option.bind_some _ _).symm.trans H; with_reducible exact H2_) | with_reducible exact H | (rw [hy149]; exact H) | exact H
            have Ny149 := Aside0.mk hy149
            clear hy149
            have H' := Aside0.mk H
            clear H
            go_enter Try.func56, Try.ntmps56
            go_wp2_with (first | ((with_reducible refine gate_callee (f := 49) rfl ?_); refine goesL_ (some 32) rfl rfl Try.func49 (by kernel_rfl) rfl #[.int .i64 a1, .int .i64 a2, .int .i64 a3, .int .i64 a4, .int .i64 a5] rfl (by (try simp only [List.map_toArray, List.map_cons, List.map_nil]); first | done | rfl | (simp only [List.length_drop, List.length_take]; rfl)) ?_; (with_reducible refine (demand_Whole.calls k a1 a2 a3 a4 a5 t145 t146 _ A7.out).mono ?_); rintro e w14 ⟨v147, rfl, ho0, hb⟩; refine ⟨_, rfl, ?_⟩; have n0_ := Aside0.mk (Kd.R_lower ho0 (below_size (by repeat (first | (with_reducible first | exact HB.out | apply below_alloc | apply pw_below_drewN | apply below_drew1) | exact HB.out)))); have n1_ := Aside0.mk (below_step (by repeat (first | (with_reducible first | exact HB.out | apply below_alloc | apply pw_below_drewN | apply below_drew1) | exact HB.out)) hb); clear HB; have HO148 := n0_; have HB := n1_; clear n0_ n1_; (try clear hb); (try clear hb2); (try clear hk); (try clear hi); (try clear ho0); have q15 : (a5 : Int) ≤ ((l0.length : Int) : Int) := of_decide_eq_true (by first | (with_reducible assumption) | assumption); obtain ⟨i015, hi015, _, hsz15, _⟩ := info_parts info31; have hroom15 : l0.length ≤ c0 := HC0.out; have hC15 : Kd.C Kd.c128 _ A0 l0.length l0 := HR0.out; have ql15 : (a4 : Int) ≤ (a5 : Int) := of_decide_eq_true (by first | (with_reducible assumption) | assumption); have q015 : (0 : Int) ≤ (a4 : Int) := of_decide_eq_true (by first | (with_reducible assumption) | assumption); have hcut15 := cut_mid (P := Try.prog) 26 31 .i64 .i64 Try.underlying26 hi015 1 hsz15 A0 l0.length c0 a4 a5 q015 ql15 q15 hroom15; have hr15 := Kd.C_mid (lo := (a4 : Int).toNat) (hi := (a5 : Int).toNat) (c := c0) hC15 (by omega) (by omega) hroom15; obtain ⟨A15, hA15⟩ : ∃ A1, A1 = (if c0 = (a4 : Int).toNat then A0 else (A0 : Option Addr).map (·.add ((a4 : Int).toNat * 1))) := ⟨_, rfl⟩; obtain ⟨c15, hc15⟩ : ∃ c1, c1 = c0 - (a4 : Int).toNat := ⟨_, rfl⟩; have hy15 : y149.length = (a5 : Int).toNat - (a4 : Int).toNat := (by rw [Ny149.out, List.length_drop, List.length_take] <;> omega); rw [show ((l0).take (a5 : Int).toNat).drop (a4 : Int).toNat = y149 from Ny149.out.symm] at hr15; replace hr15 : Kd.C Kd.c128 _ A15 y149.length y149 := (by rw [hA15]; exact hr15); rw [← hy15, ← hA15, ← hc15] at hcut15; have HR152 := Aside0.mk hr15; have HC152 := Aside0.mk (show y149.length ≤ c15 from by rw [hy15, hc15]; exact Nat.sub_le_sub_right (Nat.le_trans (by omega) hroom15) _); clear hr15 hC15 hroom15 hi015 hsz15 hc15; have KY15 := Aside0.mk hy15; have KA15 := Aside0.mk hA15; clear hy15 hA15; replace q15 := eq_true q15))
            go_loopg [47] k (fun kq v47 w' => ∃ (x47_1 : Int), v47 = .int .i64 x47_1 ∧ Aside0 (demand_Peak.l0 kq l0 a2 a3 t145 y149 (y149.length : Int) x47_1 = some (r1, r2)) ∧ Aside0 (kq ≤ k) ∧ Aside0 (Kd.R k90 90 w' w.heap.size (fun _ => True) v147 t145) ∧ Aside0 (Below w.heap.size w w'))
            case atStart => exact ⟨(0), (by first | rfl | (simp; done) | (simp [*]; done)), H', ⟨Nat.le_refl _⟩, ⟨by (with_reducible repeat (first | apply Kd.R_alloc | apply Kd.R_drewN | apply Kd.R_drew)); exact HO148.out⟩, ⟨by repeat (first | (with_reducible first | exact HB.out | apply below_alloc | apply pw_below_drewN | apply below_drew1) | exact HB.out)⟩⟩
            case round =>
              clear H'
              try clear c1
              try clear q1
              try clear p2
              try clear c4
              try clear c5
              try clear c8
              try clear c8b0
              try clear c8b1
              try clear c9
              try clear c9b0
              try clear c11
              try clear c11b0
              try clear c11b1
              try clear c12
              try clear c12b0
              try clear c12b1
              try clear c13
              try clear c13b0
              try clear c13b1
              try clear c15
              try clear q15
              try clear q015
              try clear q15
              obtain ⟨x47_1, rfl, HA, HK1, HO_14, HB⟩ := hrel
              cases gk with
              | zero => exact absurd HA.out (by simp [demand_Peak.l0])
              | succ k1 =>
                have H := HA.out
                clear HA
                simp only [demand_Peak.l0] at H
                by_cases c16 : x47_1 < (y149.length : Int)
                · rw [if_pos c16] at H
                  have c16b0 : decide (x47_1 < (y149.length : Int)) = true := decide_eq_true c16
                  clear c16
                  by_cases c17 : 0 ≤ x47_1
                  · rw [if_pos c17] at H
                    have c17b0 : decide (0 ≤ x47_1) = true := decide_eq_true c17
                    clear c17
                    by_cases c18 : x47_1 < (y149.length : Int)
                    · rw [if_pos c18] at H
                      have c18b0 : decide (x47_1 < (y149.length : Int)) = true := decide_eq_true c18
                      clear c18
                      replace H := Option.bind_eq_some_iff.mp H
                      obtain ⟨t154, A190, H⟩ := H
                      replace H : (if t154 = true then (demand_Peak.l0 k1 l0 a2 a3 t145 y149 (y149.length : Int) (wrap64 (x47_1 + 1))) else (some (0, 5))) = some (r1, r2) := H
                      have A19 := Aside0.mk A190
                      clear A190
                      by_cases c20 : t154 = true
                      · subst c20
                        have H1 : (demand_Peak.l0 k1 l0 a2 a3 t145 y149 (y149.length : Int) (wrap64 (x47_1 + 1))) = some (r1, r2) := by rw [if_pos rfl] at H; exact H
                        clear H
                        have H := H1
                        clear H1
                        have H' := Aside0.mk H
                        clear H
                        have p153 : 0 ≤ (x47_1 : Int) := of_decide_eq_true (by first | (with_reducible assumption) | assumption)
                        have q153 : x47_1 < (y149.length : Int) := of_decide_eq_true (by first | (with_reducible assumption) | assumption)
                        obtain ⟨ad153, e153, hx153_0⟩ := Kd.at_c128 HR152.out x47_1 p153 q153
                        cases e153
                        replace hx153_0 := (HB.out.cell (World.block_lt_of_cell? w _ hx153_0)).trans hx153_0
                        replace p153 := eq_true p153
                        replace q153 := eq_true q153
                        go_wp2_with (first | ((with_reducible refine gate_callee (f := 29) rfl ?_); refine goesL_ (some 52) rfl rfl Try.func29 (by kernel_rfl) rfl #[.complex .f64 (rdOf (cx 0 0) y149 x47_1).re (rdOf (cx 0 0) y149 x47_1).im] rfl (by (try simp only [List.map_toArray, List.map_cons, List.map_nil]); first | done | rfl | (simp only [List.length_drop, List.length_take]; rfl)) ?_; (with_reducible refine (meter_Fits.calls (rdOf (cx 0 0) y149 x47_1) true _ A19.out).mono ?_); rintro e w21 ⟨rfl, hb⟩; refine ⟨_, rfl, ?_⟩; have n0_ := Aside0.mk (Kd.R_below (by (with_reducible repeat (first | apply Kd.R_alloc | apply Kd.R_drewN | apply Kd.R_drew)); exact HO_14.out) hb); have n1_ := Aside0.mk (below_step (by repeat (first | (with_reducible first | exact HB.out | apply below_alloc | apply pw_below_drewN | apply below_drew1) | exact HB.out)) hb); clear HO_14; clear HB; have HO_14 := n0_; have HB := n1_; clear n0_ n1_; (try clear hb); (try clear hb2); (try clear hk); (try clear hi)))
                        go_roundg k1
                        case measure => have := HK1.out; omega
                        case rel => exact ⟨(wrap64 (x47_1 + 1)), (by first | rfl | (simp; done) | (simp [*]; done)), H', ⟨by have := HK1.out; omega⟩, ⟨by (with_reducible repeat (first | apply Kd.R_alloc | apply Kd.R_drewN | apply Kd.R_drew)); exact HO_14.out⟩, ⟨by repeat (first | (with_reducible first | exact HB.out | apply below_alloc | apply pw_below_drewN | apply below_drew1) | exact HB.out)⟩⟩
                      · replace c20 := Bool.eq_false_iff.mpr c20
                        subst c20
                        have H1 : (some (0, 5)) = some (r1, r2) := by rw [if_neg (show ¬ (false = true) by decide)] at H; exact H
                        clear H
                        have H := H1
                        clear H1
                        simp only [Option.some.injEq, Prod.mk.injEq] at H
                        obtain ⟨rfl, rfl⟩ := H
                        have p153 : 0 ≤ (x47_1 : Int) := of_decide_eq_true (by first | (with_reducible assumption) | assumption)
                        have q153 : x47_1 < (y149.length : Int) := of_decide_eq_true (by first | (with_reducible assumption) | assumption)
                        obtain ⟨ad153, e153, hx153_0⟩ := Kd.at_c128 HR152.out x47_1 p153 q153
                        cases e153
                        replace hx153_0 := (HB.out.cell (World.block_lt_of_cell? w _ hx153_0)).trans hx153_0
                        replace p153 := eq_true p153
                        replace q153 := eq_true q153
                        go_wp2_with (first | ((with_reducible refine gate_callee (f := 29) rfl ?_); refine goesL_ (some 52) rfl rfl Try.func29 (by kernel_rfl) rfl #[.complex .f64 (rdOf (cx 0 0) y149 x47_1).re (rdOf (cx 0 0) y149 x47_1).im] rfl (by (try simp only [List.map_toArray, List.map_cons, List.map_nil]); first | done | rfl | (simp only [List.length_drop, List.length_take]; rfl)) ?_; (with_reducible refine (meter_Fits.calls (rdOf (cx 0 0) y149 x47_1) false _ A19.out).mono ?_); rintro e w22 ⟨rfl, hb⟩; refine ⟨_, rfl, ?_⟩; have n0_ := Aside0.mk (Kd.R_below (by (with_reducible repeat (first | apply Kd.R_alloc | apply Kd.R_drewN | apply Kd.R_drew)); exact HO_14.out) hb); have n1_ := Aside0.mk (below_step (by repeat (first | (with_reducible first | exact HB.out | apply below_alloc | apply pw_below_drewN | apply below_drew1) | exact HB.out)) hb); clear HO_14; clear HB; have HO_14 := n0_; have HB := n1_; clear n0_ n1_; (try clear hb); (try clear hb2); (try clear hk); (try clear hi)))
                        go_ret2
                        exact ⟨by first | rfl | (simp [errW_none, errW_some] <;> rfl) | (simp [*, errW_none, errW_some] <;> rfl), by repeat (first | (with_reducible first | exact HB.out | apply below_alloc | apply pw_below_drewN | apply below_drew1) | exact HB.out)⟩
                    · rw [if_neg c18] at H
                      exact absurd H (by simp)
                  · rw [if_neg c17] at H
                    exact absurd H (by simp)
                · rw [if_neg c16] at H
                  have c16b0 : decide (x47_1 < (y149.length : Int)) = false := decide_eq_false c16
                  clear c16
                  have H' := Aside0.mk H
                  clear H
                  obtain ⟨Ao23, co23, eo23⟩ := Kd.R_slice HO_14.out
                  subst eo23
                  go_wp2
                  go_loopg [18, 57] k1 (fun kq v18 v57 w' => ∃ (x18_2 : Int) (x57_2 : Int), v18 = .int .i64 x18_2 ∧ v57 = .int .i64 x57_2 ∧ Aside0 (demand_Peak.l1 kq l0 a2 a3 x18_2 t145 (t145.length : Int) x57_2 = some (r1, r2)) ∧ Aside0 (kq ≤ k1) ∧ Aside0 (Kd.R k90 90 w' w.heap.size (fun _ => True) (.slice Ao23 t145.length co23) t145) ∧ Aside0 (Below w.heap.size w w'))
                  case atStart => exact ⟨(0), (0), (by first | rfl | (simp; done) | (simp [*]; done)), (by first | rfl | (simp; done) | (simp [*]; done)), H', ⟨Nat.le_refl _⟩, ⟨by (with_reducible repeat (first | apply Kd.R_alloc | apply Kd.R_drewN | apply Kd.R_drew)); exact HO_14.out⟩, ⟨by repeat (first | (with_reducible first | exact HB.out | apply below_alloc | apply pw_below_drewN | apply below_drew1) | exact HB.out)⟩⟩
                  case round =>
                    clear H'
                    try clear c1
                    try clear p1
                    try clear q1
                    try clear hx1
                    try clear c2
                    try clear p2
                    try clear c4
                    try clear c5
                    try clear p6
                    try clear c8
                    try clear c8b0
                    try clear c8b1
                    try clear c9
                    try clear c9b0
                    try clear c11
                    try clear c11b0
                    try clear c11b1
                    try clear c12
                    try clear c12b0
                    try clear c12b1
                    try clear c13
                    try clear c13b0
                    try clear c13b1
                    try clear c15
                    try clear p15
                    try clear q15
                    try clear hx15
                    try clear c16
                    try clear c16b0
                    try clear c17
                    try clear c17b0
                    try clear c18
                    try clear c18b0
                    try clear c20
                    try clear hx153_0
                    try clear p153
                    try clear p2
                    try clear q015
                    try clear q1
                    try clear q15
                    try clear q153
                    obtain ⟨x18_2, x57_2, rfl, rfl, HA, HK2, HO_55, HB⟩ := hrel
                    cases gk with
                    | zero => exact absurd HA.out (by simp [demand_Peak.l1])
                    | succ k2 =>
                      have H := HA.out
                      clear HA
                      simp only [demand_Peak.l1] at H
                      by_cases c24 : x57_2 < (t145.length : Int)
                      · rw [if_pos c24] at H
                        have c24b0 : decide (x57_2 < (t145.length : Int)) = true := decide_eq_true c24
                        clear c24
                        by_cases c25 : 0 ≤ x57_2
                        · rw [if_pos c25] at H
                          have c25b0 : decide (0 ≤ x57_2) = true := decide_eq_true c25
                          clear c25
                          by_cases c26 : x57_2 < (t145.length : Int)
                          · rw [if_pos c26] at H
                            have c26b0 : decide (x57_2 < (t145.length : Int)) = true := decide_eq_true c26
                            clear c26
                            by_cases c27 : 0 ≤ ((rd_T90 t145 x57_2).f0)
                            · rw [if_pos c27] at H
                              have c27b0 := eq_true c27
                              have c27b1 : decide (0 ≤ ((rd_T90 t145 x57_2).f0)) = true := decide_eq_true c27
                              clear c27
                              by_cases c28 : ((rd_T90 t145 x57_2).f0) ≤ ((rd_T90 t145 x57_2).f1)
                              · rw [if_pos c28] at H
                                have c28b0 := eq_true c28
                                have c28b1 : decide (((rd_T90 t145 x57_2).f0) ≤ ((rd_T90 t145 x57_2).f1)) = true := decide_eq_true c28
                                clear c28
                                by_cases c29 : ((rd_T90 t145 x57_2).f1) ≤ (l0.length : Int)
                                · rw [if_pos c29] at H
                                  have c29b0 := eq_true c29
                                  have c29b1 : decide (((rd_T90 t145 x57_2).f1) ≤ (l0.length : Int)) = true := decide_eq_true c29
                                  clear c29
                                  obtain ⟨y157, hy157⟩ : ∃ y_ : List Cx, y_ = ((l0.take (((rd_T90 t145 x57_2).f1) : Int).toNat).drop (((rd_T90 t145 x57_2).f0) : Int).toNat) := ⟨_, rfl⟩
                                  replace H : (demand_Peak.l2 k2 l0 a2 a3 x18_2 (cx 0 0) t145 (t145.length : Int) x57_2 y157 (y157.length : Int) 0) = some (r1, r2) := by first | (rw [hy157]; with_reducible exact H) | (have H2_ := (Option.bind_some _ _).symm.trans H; rw [hy157]; with_reducible exact H2_) | (have H2_ := (Option.bind_some _ _).symm.trans H; with_reducible exact H2_) | with_reducible exact H | (rw [hy157]; exact H) | exact H
                                  have Ny157 := Aside0.mk hy157
                                  clear hy157
                                  have H' := Aside0.mk H
                                  clear H
                                  have p155 : 0 ≤ (x57_2 : Int) := of_decide_eq_true (by first | (with_reducible assumption) | assumption)
                                  have q155 : x57_2 < (t145.length : Int) := of_decide_eq_true (by first | (with_reducible assumption) | assumption)
                                  obtain ⟨ad155, e155, hx155_0, hx155_1⟩ := at_T90 (Kd.R_reads' HO_55.out).2.2 x57_2 p155 q155
                                  cases e155
                                  replace p155 := eq_true p155
                                  replace q155 := eq_true q155
                                  go_wp2_with (first | ((with_reducible refine gate_dst (N := 20) rfl ?_); refine box_event ?hg (N := 20) ?hd (cs := #[.int .i64 0, .int .i64 0]) (t := 90) ?hr ?_; (case hd => rfl); (case hg => rfl); (case hr => first | (go_simp; done) | (go_simp; rfl)); intro gb156 hg w30 hbox hb; have n0_ := Aside0.mk (Kd.R_below (Kd.R_elderB (by (with_reducible repeat (first | apply Kd.R_alloc | apply Kd.R_drewN | apply Kd.R_drew)); exact HO_55.out) gb156 (Nat.le_of_eq hg.symm)) hb); have n1_ := Aside0.mk (below_step (by repeat (first | (with_reducible first | exact HB.out | apply below_alloc | apply pw_below_drewN | apply below_drew1) | exact HB.out)) hb); have n2_ := Aside0.mk (hbox); have n3_ := Aside0.mk ((by rw [hg]; exact (below_size (by repeat (first | (with_reducible first | exact HB.out | apply below_alloc | apply pw_below_drewN | apply below_drew1) | exact HB.out))) : w.heap.size ≤ gb156)); have n4_ := Aside0.mk ((by rw [hg]; exact (below_size (by repeat (first | (with_reducible first | exact HB.out | apply below_alloc | apply pw_below_drewN | apply below_drew1) | exact HB.out))) : w.heap.size ≤ gb156)); clear HO_55; clear HB; have HO_55 := n0_; have HB := n1_; have BK156 := n2_; have GW156 := n3_; have GE156 := n4_; clear n0_ n1_ n2_ n3_ n4_; clear hb hbox hg; have hcz31_0 : w30.cell? ⟨gb156, 0, none⟩ = some (.int .i64 0) := (blk_cell BK156.out 0).trans rfl; have hcz31_1 : w30.cell? ⟨gb156, 1, none⟩ = some (.int .i64 0) := (blk_cell BK156.out 1).trans rfl; have hfz31_0 := blk_frozen BK156.out 0; have hfz31_1 := blk_frozen BK156.out 1) | ((with_reducible refine gate_store (t := 90) (p := 20) rfl ?_); refine store_event (t := 90) (p := 20) (v := ?vo_w32) (w1 := ((w30.setCell ⟨gb156, 0, none⟩ (.int .i64 ((rd_T90 t145 x57_2).f0))).setCell ⟨gb156, 1, none⟩ (.int .i64 ((rd_T90 t145 x57_2).f1)))) ?hg ?ho ?hn ?hr ?_; (case ho => rfl); (case hg => rfl); (case hn => rfl); (case hr => first | (go_simp; done) | (go_simp; rfl)); intro w32 hw; have n0_ : Aside0 (Kd.R k90 90 w32 w.heap.size (fun k_ => k_ ≠ gb156) (.slice (some ad155) t145.length co23) t145) := ⟨(by rw [hw]; exact (by (with_reducible repeat (first | apply Kd.R_alloc | apply Kd.R_drewN | apply Kd.R_drew)); exact Kd.R_mono (Kd.R_far (p := ⟨gb156, 1, none⟩) (Kd.R_far (p := ⟨gb156, 0, none⟩) (Kd.R_mono HO_55.out (fun k_ hk => (⟨hk, hk.2⟩ : _ ∧ k_ ≠ gb156))) (fun _ hk => hk.2) (.int .i64 ((rd_T90 t145 x57_2).f0))) (fun _ hk => hk.2) (.int .i64 ((rd_T90 t145 x57_2).f1))) (fun _ hk => hk.1.2)))⟩; have n1_ : Aside0 (w32.heap[gb156]? = some (.cells #[.int .i64 ((rd_T90 t145 x57_2).f0), .int .i64 ((rd_T90 t145 x57_2).f1)] 90 (0, 0))) := ⟨(by rw [hw]; exact (by (with_reducible repeat (first | refine blk_drewN ?_ _ | refine blk_drew ?_ | refine blk_alloc ?_ _)); refine blk_put (cs := #[.int .i64 ((rd_T90 t145 x57_2).f0), .int .i64 0]) ?_ 1 _ rfl; (with_reducible repeat (first | refine blk_drewN ?_ _ | refine blk_drew ?_ | refine blk_alloc ?_ _)); refine blk_put (cs := #[.int .i64 0, .int .i64 0]) ?_ 0 _ rfl; (with_reducible repeat (first | refine blk_drewN ?_ _ | refine blk_drew ?_ | refine blk_alloc ?_ _)); exact BK156.out))⟩; have n2_ : Aside0 (Below w.heap.size w w32) := ⟨(by rw [hw]; exact (by repeat (first | (with_reducible first | exact HB.out | apply below_alloc | apply pw_below_drewN | apply below_drew1 | refine below_set ?_ GE156.out) | exact HB.out)))⟩; clear hw; clear HO_55; clear BK156; clear HB; have HO_55 := n0_; have BK156 := n1_; have HB := n2_; clear n0_ n1_ n2_; have hcz33_0 : w32.cell? ⟨gb156, 0, none⟩ = some (.int .i64 ((rd_T90 t145 x57_2).f0)) := (blk_cell BK156.out 0).trans rfl; have hcz33_1 : w32.cell? ⟨gb156, 1, none⟩ = some (.int .i64 ((rd_T90 t145 x57_2).f1)) := (blk_cell BK156.out 1).trans rfl; have hfz33_0 := blk_frozen BK156.out 0; have hfz33_1 := blk_frozen BK156.out 1; have q34 : (((rd_T90 t145 x57_2).f1) : Int) ≤ ((l0.length : Int) : Int) := of_decide_eq_true (by first | (with_reducible assumption) | assumption); obtain ⟨i034, hi034, _, hsz34, _⟩ := info_parts info31; have hroom34 : l0.length ≤ c0 := HC0.out; have hC34 : Kd.C Kd.c128 _ A0 l0.length l0 := HR0.out; have ql34 : (((rd_T90 t145 x57_2).f0) : Int) ≤ (((rd_T90 t145 x57_2).f1) : Int) := of_decide_eq_true (by first | (with_reducible assumption) | assumption); have q034 : (0 : Int) ≤ (((rd_T90 t145 x57_2).f0) : Int) := of_decide_eq_true (by first | (with_reducible assumption) | assumption); have hcut34 := cut_mid (P := Try.prog) 26 31 .i64 .i64 Try.underlying26 hi034 1 hsz34 A0 l0.length c0 ((rd_T90 t145 x57_2).f0) ((rd_T90 t145 x57_2).f1) q034 ql34 q34 hroom34; have hr34 := Kd.C_mid (lo := (((rd_T90 t145 x57_2).f0) : Int).toNat) (hi := (((rd_T90 t145 x57_2).f1) : Int).toNat) (c := c0) hC34 (by omega) (by omega) hroom34; obtain ⟨A34, hA34⟩ : ∃ A1, A1 = (if c0 = (((rd_T90 t145 x57_2).f0) : Int).toNat then A0 else (A0 : Option Addr).map (·.add ((((rd_T90 t145 x57_2).f0) : Int).toNat * 1))) := ⟨_, rfl⟩; obtain ⟨c34, hc34⟩ : ∃ c1, c1 = c0 - (((rd_T90 t145 x57_2).f0) : Int).toNat := ⟨_, rfl⟩; have hy34 : y157.length = (((rd_T90 t145 x57_2).f1) : Int).toNat - (((rd_T90 t145 x57_2).f0) : Int).toNat := (by rw [Ny157.out, List.length_drop, List.length_take] <;> omega); rw [show ((l0).take (((rd_T90 t145 x57_2).f1) : Int).toNat).drop (((rd_T90 t145 x57_2).f0) : Int).toNat = y157 from Ny157.out.symm] at hr34; replace hr34 : Kd.C Kd.c128 _ A34 y157.length y157 := (by rw [hA34]; exact hr34); rw [← hy34, ← hA34, ← hc34] at hcut34; have HR160 := Aside0.mk hr34; have HC160 := Aside0.mk (show y157.length ≤ c34 from by rw [hy34, hc34]; exact Nat.sub_le_sub_right (Nat.le_trans (by omega) hroom34) _); clear hr34 hC34 hroom34 hi034 hsz34 hc34; have KY34 := Aside0.mk hy34; have KA34 := Aside0.mk hA34; clear hy34 hA34; replace q34 := eq_true q34))
                                  go_loopg [21, 68] k2 (fun kq v21 v68 w' => ∃ (x21_3 : Cx) (x68_3 : Int), v21 = .complex .f64 x21_3.re x21_3.im ∧ v68 = .int .i64 x68_3 ∧ Aside0 (demand_Peak.l2 kq l0 a2 a3 x18_2 x21_3 t145 (t145.length : Int) x57_2 y157 (y157.length : Int) x68_3 = some (r1, r2)) ∧ Aside0 (kq ≤ k2) ∧ Aside0 (Kd.R k90 90 w' w.heap.size (fun k_ => k_ ≠ gb156) (.slice (some ad155) t145.length co23) t145) ∧ Aside0 (w'.heap[gb156]? = some (.cells #[.int .i64 ((rd_T90 t145 x57_2).f0), .int .i64 ((rd_T90 t145 x57_2).f1)] 90 (0, 0))) ∧ Aside0 (Below w.heap.size w w'))
                                  case atStart => exact ⟨(cx 0 0), (0), (by first | rfl | (simp; done) | (simp [*]; done)), (by first | rfl | (simp; done) | (simp [*]; done)), H', ⟨Nat.le_refl _⟩, ⟨by (with_reducible repeat (first | apply Kd.R_alloc | apply Kd.R_drewN | apply Kd.R_drew)); exact HO_55.out⟩, ⟨by (with_reducible repeat (first | refine blk_drewN ?_ _ | refine blk_drew ?_ | refine blk_alloc ?_ _)); exact BK156.out⟩, ⟨by repeat (first | (with_reducible first | exact HB.out | apply below_alloc | apply pw_below_drewN | apply below_drew1 | refine below_set ?_ GE156.out) | exact HB.out)⟩⟩
                                  case round =>
                                    clear H'
                                    try clear c1
                                    try clear p1
                                    try clear q1
                                    try clear hx1
                                    try clear c2
                                    try clear p2
                                    try clear c3
                                    try clear q3
                                    try clear c4
                                    try clear c5
                                    try clear p6
                                    try clear c8
                                    try clear c8b0
                                    try clear c8b1
                                    try clear c9
                                    try clear c9b0
                                    try clear c11
                                    try clear c11b0
                                    try clear c11b1
                                    try clear c12
                                    try clear c12b0
                                    try clear c12b1
                                    try clear c13
                                    try clear c13b0
                                    try clear c13b1
                                    try clear c15
                                    try clear p15
                                    try clear q15
                                    try clear hx15
                                    try clear c16
                                    try clear c16b0
                                    try clear c17
                                    try clear c17b0
                                    try clear c18
                                    try clear c18b0
                                    try clear c20
                                    try clear c24
                                    try clear c24b0
                                    try clear c25
                                    try clear c25b0
                                    try clear c26
                                    try clear c26b0
                                    try clear c27
                                    try clear c27b0
                                    try clear c27b1
                                    try clear c28
                                    try clear c28b0
                                    try clear c28b1
                                    try clear c29
                                    try clear c29b0
                                    try clear c29b1
                                    try clear c34
                                    try clear q34
                                    try clear hcz31_0
                                    try clear hcz31_1
                                    try clear hcz33_0
                                    try clear hcz33_1
                                    try clear hfz31_0
                                    try clear hfz31_1
                                    try clear hfz33_0
                                    try clear hfz33_1
                                    try clear hx153_0
                                    try clear hx155_0
                                    try clear hx155_1
                                    try clear p1
                                    try clear p15
                                    try clear p153
                                    try clear p155
                                    try clear p2
                                    try clear p6
                                    try clear q015
                                    try clear q034
                                    try clear q1
                                    try clear q15
                                    try clear q153
                                    try clear q155
                                    try clear q34
                                    obtain ⟨x21_3, x68_3, rfl, rfl, HA, HK3, HO_55, BK156, HB⟩ := hrel
                                    cases gk with
                                    | zero => exact absurd HA.out (by simp [demand_Peak.l2])
                                    | succ k3 =>
                                      have H := HA.out
                                      clear HA
                                      simp only [demand_Peak.l2] at H
                                      by_cases c35 : x68_3 < (y157.length : Int)
                                      · rw [if_pos c35] at H
                                        have c35b0 : decide (x68_3 < (y157.length : Int)) = true := decide_eq_true c35
                                        clear c35
                                        by_cases c36 : 0 ≤ x68_3
                                        · rw [if_pos c36] at H
                                          have c36b0 : decide (0 ≤ x68_3) = true := decide_eq_true c36
                                          clear c36
                                          by_cases c37 : x68_3 < (y157.length : Int)
                                          · rw [if_pos c37] at H
                                            have c37b0 : decide (x68_3 < (y157.length : Int)) = true := decide_eq_true c37
                                            clear c37
                                            by_cases c38 : caddok x21_3.re x21_3.im (rdOf (cx 0 0) y157 x68_3).re (rdOf (cx 0 0) y157 x68_3).im = true
                                            · rw [if_pos c38] at H
                                              have c38b0 := eq_true c38
                                              have c38b1 : decide (caddok x21_3.re x21_3.im (rdOf (cx 0 0) y157 x68_3).re (rdOf (cx 0 0) y157 x68_3).im = true) = true := decide_eq_true c38
                                              clear c38
                                              have H' := Aside0.mk H
                                              clear H
                                              have p161 : 0 ≤ (x68_3 : Int) := of_decide_eq_true (by first | (with_reducible assumption) | assumption)
                                              have q161 : x68_3 < (y157.length : Int) := of_decide_eq_true (by first | (with_reducible assumption) | assumption)
                                              obtain ⟨ad161, e161, hx161_0⟩ := Kd.at_c128 HR160.out x68_3 p161 q161
                                              cases e161
                                              replace hx161_0 := (HB.out.cell (World.block_lt_of_cell? w _ hx161_0)).trans hx161_0
                                              replace p161 := eq_true p161
                                              replace q161 := eq_true q161
                                              go_wp2
                                              go_roundg k3
                                              case measure => have := HK1.out; have := HK2.out; have := HK3.out; omega
                                              case rel => exact ⟨(cx (caddre x21_3.re x21_3.im (rdOf (cx 0 0) y157 x68_3).re (rdOf (cx 0 0) y157 x68_3).im) (caddim x21_3.re x21_3.im (rdOf (cx 0 0) y157 x68_3).re (rdOf (cx 0 0) y157 x68_3).im)), (wrap64 (x68_3 + 1)), (by first | rfl | (simp; done) | (simp [*]; done)), (by first | rfl | (simp; done) | (simp [*]; done)), H', ⟨by have := HK1.out; have := HK2.out; have := HK3.out; omega⟩, ⟨by (with_reducible repeat (first | apply Kd.R_alloc | apply Kd.R_drewN | apply Kd.R_drew)); exact HO_55.out⟩, ⟨by (with_reducible repeat (first | refine blk_drewN ?_ _ | refine blk_drew ?_ | refine blk_alloc ?_ _)); exact BK156.out⟩, ⟨by repeat (first | (with_reducible first | exact HB.out | apply below_alloc | apply pw_below_drewN | apply below_drew1 | refine below_set ?_ GE156.out) | exact HB.out)⟩⟩
                                            · rw [if_neg c38] at H
                                              exact absurd H (by simp)
                                          · rw [if_neg c37] at H
                                            exact absurd H (by simp)
                                        · rw [if_neg c36] at H
                                          exact absurd H (by simp)
                                      · rw [if_neg c35] at H
                                        have c35b0 : decide (x68_3 < (y157.length : Int)) = false := decide_eq_false c35
                                        clear c35
                                        obtain ⟨ji39, hji39⟩ : ∃ j_ : Int, (mx a2 a3) = j_ := ⟨_, rfl⟩
                                        replace H : ((demand_Power.f k3 x21_3 (ji39)).bind fun bt162 => (demand_Peak.l1 k3 l0 a2 a3 (mx x18_2 bt162.1) t145 (t145.length : Int) (wrap64 (x57_2 + 1)))) = some (r1, r2) := by first | (rw [hji39] at H; exact H) | (simp only [hji39] at H ⊢; exact H)
                                        have hji39_ : (if a2 < a3 then a3 else a2) = ji39 := hji39
                                        replace H := Option.bind_eq_some_iff.mp H
                                        obtain ⟨⟨t162, t163⟩, A400, H⟩ := H
                                        replace H : (demand_Peak.l1 k3 l0 a2 a3 (mx x18_2 t162) t145 (t145.length : Int) (wrap64 (x57_2 + 1))) = some (r1, r2) := H
                                        have A40 := Aside0.mk A400
                                        clear A400
                                        obtain ⟨ji41, hji41⟩ : ∃ j_ : Int, (mx x18_2 t162) = j_ := ⟨_, rfl⟩
                                        replace H : (demand_Peak.l1 k3 l0 a2 a3 ji41 t145 (t145.length : Int) (wrap64 (x57_2 + 1))) = some (r1, r2) := by first | (rw [hji41] at H; exact H) | (simp only [hji41] at H ⊢; exact H)
                                        (try rw [hji41] at A40)
                                        have hji41_ : (if x18_2 < t162 then t162 else x18_2) = ji41 := hji41
                                        have H' := Aside0.mk H
                                        clear H
                                        go_wp2_with (first | ((with_reducible refine gate_callee (f := 47) rfl ?_); refine goesL_ (some 81) rfl rfl Try.func47 (by kernel_rfl) rfl #[.complex .f64 x21_3.re x21_3.im, .int .i64 ji39] rfl (by (try simp only [List.map_toArray, List.map_cons, List.map_nil]); first | done | (simp only [hji39]; rfl) | rfl | (simp only [List.length_drop, List.length_take]; rfl)) ?_; (with_reducible refine (demand_Power.calls k3 x21_3 ji39 t162 t163 _ A40.out).mono ?_); rintro e w42 ⟨rfl, hb⟩; refine ⟨_, rfl, ?_⟩; have n0_ := Aside0.mk (Kd.R_below (by (with_reducible repeat (first | apply Kd.R_alloc | apply Kd.R_drewN | apply Kd.R_drew)); exact HO_55.out) hb); have n1_ := Aside0.mk (blk_below (g := gb156) (o := .cells #[.int .i64 ((rd_T90 t145 x57_2).f0), .int .i64 ((rd_T90 t145 x57_2).f1)] 90 (0, 0)) (by (with_reducible repeat (first | refine blk_drewN ?_ _ | refine blk_drew ?_ | refine blk_alloc ?_ _)); exact BK156.out) hb); have n2_ := Aside0.mk (below_step (by repeat (first | (with_reducible first | exact HB.out | apply below_alloc | apply pw_below_drewN | apply below_drew1 | refine below_set ?_ GE156.out) | exact HB.out)) hb); clear HO_55; clear BK156; clear HB; have HO_55 := n0_; have BK156 := n1_; have HB := n2_; clear n0_ n1_ n2_; (try clear hb); (try clear hb2); (try clear hk); (try clear hi)))
                                        go_roundg k3
                                        case measure => have := HK1.out; have := HK2.out; have := HK3.out; omega
                                        case rel => exact ⟨(ji41), (wrap64 (x57_2 + 1)), (by first | rfl | (simp; done) | (simp only [← hji41] <;> (first | rfl | simp)) | (simp [*]; done)), (by first | rfl | (simp; done) | (simp [*]; done)), H', ⟨by have := HK1.out; have := HK2.out; have := HK3.out; omega⟩, ⟨by (with_reducible repeat (first | apply Kd.R_alloc | apply Kd.R_drewN | apply Kd.R_drew)); exact Kd.R_mono HO_55.out (fun _ hk => trivial)⟩, ⟨by repeat (first | (with_reducible first | exact HB.out | apply below_alloc | apply pw_below_drewN | apply below_drew1 | refine below_set ?_ GE156.out) | exact HB.out)⟩⟩
                                · rw [if_neg c29] at H
                                  exact absurd H (by simp)
                              · rw [if_neg c28] at H
                                exact absurd H (by simp)
                            · rw [if_neg c27] at H
                              exact absurd H (by simp)
                          · rw [if_neg c26] at H
                            exact absurd H (by simp)
                        · rw [if_neg c25] at H
                          exact absurd H (by simp)
                      · rw [if_neg c24] at H
                        have c24b0 : decide (x57_2 < (t145.length : Int)) = false := decide_eq_false c24
                        clear c24
                        simp only [Option.some.injEq, Prod.mk.injEq] at H
                        obtain ⟨rfl, rfl⟩ := H
                        go_wp2
                        go_ret2
                        exact ⟨by first | rfl | (simp [errW_none, errW_some] <;> rfl) | (simp [*, errW_none, errW_some] <;> rfl), by repeat (first | (with_reducible first | exact HB.out | apply below_alloc | apply pw_below_drewN | apply below_drew1) | exact HB.out)⟩
          · rw [if_neg c13] at H
            exact absurd H (by simp)
        · rw [if_neg c12] at H
          exact absurd H (by simp)
      · rw [if_neg c11] at H
        exact absurd H (by simp)
  · rw [if_neg c8] at H
    have c8b0 : (t146 == 0) = false := beq_eq_false_iff_ne.mpr c8
    have c8b1 : (t146 != 0) = true := bne_iff_ne.mpr c8
    simp only [Option.some.injEq, Prod.mk.injEq] at H
    obtain ⟨rfl, rfl⟩ := H
    go_enter Try.func56, Try.ntmps56
    go_wp2_with (first | ((with_reducible refine gate_callee (f := 49) rfl ?_); refine goesL_ (some 32) rfl rfl Try.func49 (by kernel_rfl) rfl #[.int .i64 a1, .int .i64 a2, .int .i64 a3, .int .i64 a4, .int .i64 a5] rfl (by (try simp only [List.map_toArray, List.map_cons, List.map_nil]); first | done | rfl | (simp only [List.length_drop, List.length_take]; rfl)) ?_; (with_reducible refine (demand_Whole.calls k a1 a2 a3 a4 a5 t145 t146 _ A7.out).mono ?_); rintro e w43 ⟨v147, rfl, ho0, hb⟩; refine ⟨_, rfl, ?_⟩; have n0_ := Aside0.mk (Kd.R_lower ho0 (below_size (by repeat (first | (with_reducible first | exact HB.out | apply below_alloc | apply pw_below_drewN | apply below_drew1) | exact HB.out)))); have n1_ := Aside0.mk (below_step (by repeat (first | (with_reducible first | exact HB.out | apply below_alloc | apply pw_below_drewN | apply below_drew1) | exact HB.out)) hb); clear HB; have HO148 := n0_; have HB := n1_; clear n0_ n1_; (try clear hb); (try clear hb2); (try clear hk); (try clear hi); (try clear ho0)))
    go_ret2
    exact ⟨by first | rfl | (simp [errW_none, errW_some] <;> rfl) | (simp [*, errW_none, errW_some] <;> rfl), by repeat (first | (with_reducible first | exact HB.out | apply below_alloc | apply pw_below_drewN | apply below_drew1) | exact HB.out)⟩

/-! ### pylonlaw16_point: function 57 -/
def pylonlaw16_point.f (a0 : Int) (a1 : Int) : Option (Cx) := some (cx (floatOfInt .f64 a0) (floatOfInt .f64 a1))
set_option maxHeartbeats 8000000 in
set_option maxRecDepth 100000 in
theorem pylonlaw16_point.calls (a0 : Int) (a1 : Int) (r : Cx) (w : World) (h : pylonlaw16_point.f a0 a1 = some r) :
    Calls Try.prog 57 #[.int .i16 a0, .int .i16 a1] w fun e w' => e = .returned (.complex .f64 r.re r.im) ∧ Below w.heap.size w w' := by
  have HB := Aside0.mk (Below.refl w.heap.size w)
  have H : (some (cx (floatOfInt .f64 a0) (floatOfInt .f64 a1))) = some r := h
  clear h
  obtain rfl := Option.some.inj H
  go_enter Try.func57, Try.ntmps57
  go_wp2
  go_ret
  exact ⟨by first | rfl | (simp [errW_none, errW_some] <;> rfl) | (simp [*, errW_none, errW_some] <;> rfl), by repeat (first | (with_reducible first | exact HB.out | apply below_alloc | apply pw_below_drewN | apply below_drew1) | exact HB.out)⟩

end Go.Proofs.Ytapimggcnneabaa.PDG
