-- Written by a program of this session for this claim (wip/print2.sh). Lean checks it.
import Derived.Test.YtapimggcnneabaaPMSx0
import Derived.Test.YtapimggcnneabaaPMSx1
namespace Go.Proofs.Ytapimggcnneabaa.PMS
open Go.Proofs.YtapimggcnneabaaW.PrintWords
attribute [local go_sem high] fx_eql fx_neq fx_lss fx_leq fx_gtr fx_geq fx_add fx_sub fx_mul fx_neg fx_toint cxx_add cxx_sub cxx_mul cxx_eql cxx_neq cxx_pick st_float st_complex
open Go.RowKit Go.Proofs.YtapimggcnneabaaW.PrintWords Go.Proofs.YtapimggcnneabaaW.PrintLast Go.Proofs.YtapimggcnneabaaW.PrintMore
attribute [local go_sem] max2_int min2_int max_two min_two max_three min_three max_four min_four   -- for this text's walks alone
set_option linter.unusedVariables false
set_option linter.unusedSimpArgs false

/-! ### pylonlaw12_MeterSeries: function 3 -/
mutual
def pylonlaw12_MeterSeries.l0 : Nat → List (S25) → Int → Int → Int → Int → List (S25) → Int → Int → Option (Bool)
  | 0, _, _, _, _, _, _, _, _ => none
  | k + 1, x0, x1, x2, x3, x4, x11, x26, x27 => if x27 < x26 then (if 0 ≤ x27 then (if x27 < (x11.length : Int) then ((some (x11.set (x27 : Int).toNat (⟨x3, (rd_T25 x11 x27).f1, (rd_T25 x11 x27).f2, (rd_T25 x11 x27).f3, (rd_T25 x11 x27).f4⟩ : S25) : List (S25))).bind fun y127 => (pylonlaw12_MeterSeries.l0 k x0 x1 x2 x3 x4 (y127.set (x27 : Int).toNat (⟨(rd_T25 y127 x27).f0, (rd_T25 y127 x27).f1, (rd_T25 y127 x27).f2, (rd_T25 y127 x27).f3, x4⟩ : S25)) x26 (wrap64 (x27 + 1)))) else (none)) else (none)) else ((some (([] : List (S25)) : List (S25))).bind fun y129 => (if y129.length + x0.length < 3518437208883 then ((meter_Series.f k (y129 ++ x0) x1 x2).bind fun bt135 => ((meter_Series.f k x11 x1 x2).bind fun bt139 => (if bt135.2 = bt139.2 then ((pylonref12_SameSeries.f k bt135.1 bt139.1).bind fun t143 => (pylonlaw12_MeterSeries.j1 k x0 x1 x2 bt135.1 bt135.2 (!t143))) else (pylonlaw12_MeterSeries.j1 k x0 x1 x2 bt135.1 bt135.2 true)))) else (none)))
def pylonlaw12_MeterSeries.j1 : Nat → List (S25) → Int → Int → List Cx → Int → Bool → Option (Bool)
  | 0, _, _, _, _, _, _ => none
  | k + 1, x0, x1, x2, x13, x14, x65 => if x65 = true then (some false) else (if x14 = 0 then (pylonlaw12_MeterSeries.l1 k x0 x1 x2 x13 (x0.length : Int) 0) else (some ((x13.length : Int) == 0)))
def pylonlaw12_MeterSeries.l1 : Nat → List (S25) → Int → Int → List Cx → Int → Int → Option (Bool)
  | 0, _, _, _, _, _, _ => none
  | k + 1, x0, x1, x2, x13, x72, x73 => if x73 < x72 then (if 0 ≤ x73 then (if x73 < (x0.length : Int) then ((meter_Point.f k ((rd_T25 x0 x73).f0) ((rd_T25 x0 x73).f1) ((rd_T25 x0 x73).f2) ((rd_T25 x0 x73).f3) ((rd_T25 x0 x73).f4) x1 x2).bind fun bt145 => (if bt145.2 = 0 then (if x73 < (x13.length : Int) then (if (ceq bt145.1.re bt145.1.im (rdOf (cx 0 0) x13 x73).re (rdOf (cx 0 0) x13 x73).im = true) then (pylonlaw12_MeterSeries.l1 k x0 x1 x2 x13 x72 (wrap64 (x73 + 1))) else (some false)) else (none)) else (some false))) else (none)) else (none)) else (some ((x13.length : Int) == (x0.length : Int)))
end
def pylonlaw12_MeterSeries.f (k : Nat) (l0 : List (S25)) (a1 : Int) (a2 : Int) (a3 : Int) (a4 : Int) : Option (Bool) := (pylonlaw12_awake.f k).bind fun t120 => (if t120 = true then ((some (([] : List (S25)) : List (S25))).bind fun y121 => (if y121.length + l0.length < 3518437208883 then ((some (y121 ++ l0 : List (S25))).bind fun y124 => (pylonlaw12_MeterSeries.l0 k l0 a1 a2 a3 a4 y124 (y124.length : Int) 0)) else (none))) else (some false))
theorem pylonlaw12_MeterSeries.mono_l : ∀ k, (∀ y0 y1 y2 y3 y4 y5 y6 y7, LeO (pylonlaw12_MeterSeries.l0 k y0 y1 y2 y3 y4 y5 y6 y7) (pylonlaw12_MeterSeries.l0 (k + 1) y0 y1 y2 y3 y4 y5 y6 y7)) ∧ (∀ y0 y1 y2 y3 y4 y5, LeO (pylonlaw12_MeterSeries.j1 k y0 y1 y2 y3 y4 y5) (pylonlaw12_MeterSeries.j1 (k + 1) y0 y1 y2 y3 y4 y5)) ∧ (∀ y0 y1 y2 y3 y4 y5, LeO (pylonlaw12_MeterSeries.l1 k y0 y1 y2 y3 y4 y5) (pylonlaw12_MeterSeries.l1 (k + 1) y0 y1 y2 y3 y4 y5))
  | 0 => ⟨fun _ _ _ _ _ _ _ _ r h => by simp [pylonlaw12_MeterSeries.l0] at h, fun _ _ _ _ _ _ r h => by simp [pylonlaw12_MeterSeries.j1] at h, fun _ _ _ _ _ _ r h => by simp [pylonlaw12_MeterSeries.l1] at h⟩
  | k + 1 => by
    obtain ⟨ih0, ih1, ih2⟩ := pylonlaw12_MeterSeries.mono_l k
    refine ⟨?_, ?_, ?_⟩
    · intro y0 y1 y2 y3 y4 y5 y6 y7
      unfold pylonlaw12_MeterSeries.l0
      repeat' first
      | (with_reducible exact ih0 _ _ _ _ _ _ _ _)
      | (with_reducible exact ih1 _ _ _ _ _ _)
      | (with_reducible exact ih2 _ _ _ _ _ _)
      | (with_reducible exact meter_Point.mono _ _ _ _ _ _ _ _)
      | (with_reducible exact meter_Series.mono _ _ _ _)
      | (with_reducible exact pylonlaw12_awake.mono _)
      | (with_reducible exact pylonref12_SameSeries.mono _ _ _)
      | (with_reducible exact LeO.refl _)
      | (with_reducible exact LeO.none _)
      | (with_reducible refine LeO.ite ?_ ?_)
      | (with_reducible refine LeO.bind ?_ (fun _ => ?_))
      | exact ih0 _ _ _ _ _ _ _ _
      | exact ih1 _ _ _ _ _ _
      | exact ih2 _ _ _ _ _ _
      | exact meter_Point.mono _ _ _ _ _ _ _ _
      | exact meter_Series.mono _ _ _ _
      | exact pylonlaw12_awake.mono _
      | exact pylonref12_SameSeries.mono _ _ _
      | exact LeO.none _
      | refine LeO.ite ?_ ?_
      | refine LeO.bind ?_ (fun _ => ?_)
    · intro y0 y1 y2 y3 y4 y5
      unfold pylonlaw12_MeterSeries.j1
      repeat' first
      | (with_reducible exact ih0 _ _ _ _ _ _ _ _)
      | (with_reducible exact ih1 _ _ _ _ _ _)
      | (with_reducible exact ih2 _ _ _ _ _ _)
      | (with_reducible exact meter_Point.mono _ _ _ _ _ _ _ _)
      | (with_reducible exact meter_Series.mono _ _ _ _)
      | (with_reducible exact pylonlaw12_awake.mono _)
      | (with_reducible exact pylonref12_SameSeries.mono _ _ _)
      | (with_reducible exact LeO.refl _)
      | (with_reducible exact LeO.none _)
      | (with_reducible refine LeO.ite ?_ ?_)
      | (with_reducible refine LeO.bind ?_ (fun _ => ?_))
      | exact ih0 _ _ _ _ _ _ _ _
      | exact ih1 _ _ _ _ _ _
      | exact ih2 _ _ _ _ _ _
      | exact meter_Point.mono _ _ _ _ _ _ _ _
      | exact meter_Series.mono _ _ _ _
      | exact pylonlaw12_awake.mono _
      | exact pylonref12_SameSeries.mono _ _ _
      | exact LeO.none _
      | refine LeO.ite ?_ ?_
      | refine LeO.bind ?_ (fun _ => ?_)
    · intro y0 y1 y2 y3 y4 y5
      unfold pylonlaw12_MeterSeries.l1
      repeat' first
      | (with_reducible exact ih0 _ _ _ _ _ _ _ _)
      | (with_reducible exact ih1 _ _ _ _ _ _)
      | (with_reducible exact ih2 _ _ _ _ _ _)
      | (with_reducible exact meter_Point.mono _ _ _ _ _ _ _ _)
      | (with_reducible exact meter_Series.mono _ _ _ _)
      | (with_reducible exact pylonlaw12_awake.mono _)
      | (with_reducible exact pylonref12_SameSeries.mono _ _ _)
      | (with_reducible exact LeO.refl _)
      | (with_reducible exact LeO.none _)
      | (with_reducible refine LeO.ite ?_ ?_)
      | (with_reducible refine LeO.bind ?_ (fun _ => ?_))
      | exact ih0 _ _ _ _ _ _ _ _
      | exact ih1 _ _ _ _ _ _
      | exact ih2 _ _ _ _ _ _
      | exact meter_Point.mono _ _ _ _ _ _ _ _
      | exact meter_Series.mono _ _ _ _
      | exact pylonlaw12_awake.mono _
      | exact pylonref12_SameSeries.mono _ _ _
      | exact LeO.none _
      | refine LeO.ite ?_ ?_
      | refine LeO.bind ?_ (fun _ => ?_)
theorem pylonlaw12_MeterSeries.mono : ∀ a0 a1 a2 a3 a4 k, LeO (pylonlaw12_MeterSeries.f k a0 a1 a2 a3 a4) (pylonlaw12_MeterSeries.f (k + 1) a0 a1 a2 a3 a4) := by
  intro a0 a1 a2 a3 a4 k
  obtain ⟨ih0, ih1, ih2⟩ := pylonlaw12_MeterSeries.mono_l k
  unfold pylonlaw12_MeterSeries.f
  repeat' first
      | (with_reducible exact ih0 _ _ _ _ _ _ _ _)
      | (with_reducible exact ih1 _ _ _ _ _ _)
      | (with_reducible exact ih2 _ _ _ _ _ _)
      | (with_reducible exact meter_Point.mono _ _ _ _ _ _ _ _)
      | (with_reducible exact meter_Series.mono _ _ _ _)
      | (with_reducible exact pylonlaw12_awake.mono _)
      | (with_reducible exact pylonref12_SameSeries.mono _ _ _)
      | (with_reducible exact LeO.refl _)
      | (with_reducible exact LeO.none _)
      | (with_reducible refine LeO.ite ?_ ?_)
      | (with_reducible refine LeO.bind ?_ (fun _ => ?_))
      | exact ih0 _ _ _ _ _ _ _ _
      | exact ih1 _ _ _ _ _ _
      | exact ih2 _ _ _ _ _ _
      | exact meter_Point.mono _ _ _ _ _ _ _ _
      | exact meter_Series.mono _ _ _ _
      | exact pylonlaw12_awake.mono _
      | exact pylonref12_SameSeries.mono _ _ _
      | exact LeO.none _
      | refine LeO.ite ?_ ?_
      | refine LeO.bind ?_ (fun _ => ?_)
set_option maxHeartbeats 8000000 in
set_option maxRecDepth 100000 in
theorem pylonlaw12_MeterSeries.calls (k : Nat) (A0 : Option Addr) (c0 : Nat) (l0 : List (S25)) (a1 : Int) (a2 : Int) (a3 : Int) (a4 : Int) (r : Bool) (w : World) (hr0 : Kd.C k25 w A0 l0.length l0) (hc0 : l0.length ≤ c0) (h : pylonlaw12_MeterSeries.f k l0 a1 a2 a3 a4 = some r) :
    Calls Try.prog 3 #[.slice A0 l0.length c0, .int .i64 a1, .int .i64 a2, .int .i64 a3, .int .u8 a4] w fun e w' => e = .returned (.bool r) ∧ Below w.heap.size w w' := by
  have hu25 := Try.underlying25
  have HR0 := Aside0.mk hr0
  have HC0 := Aside0.mk hc0
  clear hr0 hc0
  have HB := Aside0.mk (Below.refl w.heap.size w)
  have H : ((pylonlaw12_awake.f k).bind fun t120 => (if t120 = true then ((some (([] : List (S25)) : List (S25))).bind fun y121 => (if y121.length + l0.length < 3518437208883 then ((some (y121 ++ l0 : List (S25))).bind fun y124 => (pylonlaw12_MeterSeries.l0 k l0 a1 a2 a3 a4 y124 (y124.length : Int) 0)) else (none))) else (some false))) = some r := h
  clear h
  replace H := Option.bind_eq_some_iff.mp H
  obtain ⟨t120, A60, H⟩ := H
  replace H : (if t120 = true then ((some (([] : List (S25)) : List (S25))).bind fun y121 => (if y121.length + l0.length < 3518437208883 then ((some (y121 ++ l0 : List (S25))).bind fun y124 => (pylonlaw12_MeterSeries.l0 k l0 a1 a2 a3 a4 y124 (y124.length : Int) 0)) else (none))) else (some false)) = some r := H
  have A6 := Aside0.mk A60
  clear A60
  by_cases c7 : t120 = true
  · subst c7
    have H1 : ((some (([] : List (S25)) : List (S25))).bind fun y121 => (if y121.length + l0.length < 3518437208883 then ((some (y121 ++ l0 : List (S25))).bind fun y124 => (pylonlaw12_MeterSeries.l0 k l0 a1 a2 a3 a4 y124 (y124.length : Int) 0)) else (none))) = some r := by rw [if_pos rfl] at H; exact H
    clear H
    have H := H1
    clear H1
    obtain ⟨y121, hy121⟩ : ∃ y_ : List (S25), y_ = (([] : List (S25))) := ⟨_, rfl⟩
    replace H : (if y121.length + l0.length < 3518437208883 then ((some (y121 ++ l0 : List (S25))).bind fun y124 => (pylonlaw12_MeterSeries.l0 k l0 a1 a2 a3 a4 y124 (y124.length : Int) 0)) else (none)) = some r := by first | (rw [hy121]; with_reducible exact H) | (have H2_ := (Option.bind_some _ _).symm.trans H; rw [hy121]; with_reducible exact H2_) | (have H2_ := (Option.bind_some _ _).symm.trans H; with_reducible exact H2_) | with_reducible exact H | (rw [hy121]; exact H) | exact H
    have Ny121 := Aside0.mk hy121
    clear hy121
    by_cases c8 : y121.length + l0.length < 3518437208883
    · rw [if_pos c8] at H
      have LMc8 := Aside0.mk c8
      clear c8
      obtain ⟨y124, hy124⟩ : ∃ y_ : List (S25), y_ = (y121 ++ l0) := ⟨_, rfl⟩
      replace H : (pylonlaw12_MeterSeries.l0 k l0 a1 a2 a3 a4 y124 (y124.length : Int) 0) = some r := by first | (rw [hy124]; with_reducible exact H) | (have H2_ := (Option.bind_some _ _).symm.trans H; rw [hy124]; with_reducible exact H2_) | (have H2_ := (Option.bind_some _ _).symm.trans H; with_reducible exact H2_) | with_reducible exact H | (rw [hy124]; exact H) | exact H
      have Ny124 := Aside0.mk hy124
      clear hy124
      have H' := Aside0.mk H
      clear H
      go_enter Try.func3, Try.ntmps3
      go_wp2_with (first | ((with_reducible refine gate_callee (f := 20) rfl ?_); refine goesL_ (some 20) rfl rfl Try.func20 (by kernel_rfl) rfl #[] rfl (by (try simp only [List.map_toArray, List.map_cons, List.map_nil]); first | done | rfl | (simp only [List.length_drop, List.length_take]; rfl)) ?_; (with_reducible refine (pylonlaw12_awake.calls k  true _ A6.out).mono ?_); rintro e w9 ⟨rfl, hb⟩; refine ⟨_, rfl, ?_⟩; have n0_ := Aside0.mk (below_step (by repeat (first | (with_reducible first | exact HB.out | apply below_alloc | apply pw_below_drewN | apply below_drew1) | exact HB.out)) hb); clear HB; have HB := n0_; clear n0_; (try clear hb); (try clear hb2); (try clear hk); (try clear hi)) | ((with_reducible refine gate_dst (N := 22) rfl ?_); refine Kd.R_lit k25 _ 25 ?hg (N := 22) ?hd (xs := ([] : List (S25))) (inner := []) (ok := fun _ => True) (okp := fun _ => True) ?hr ?hp (fun _ hk => hk) trivial (Below.refl _ _) (Nat.le_refl _) (by simp) ?_; (case hd => rfl); (case hg => rfl); (case hr => first | (go_simp; done) | (go_simp; rfl)); (case hp => exact (Reps.none _ _)); intro v122 w10 ho11 hb hg_ hnew_; clear hg_ hnew_; (first | rw [← Ny121.out] at ho11 | (simp only [Int.reduceToNat] at ho11; rw [← Ny121.out] at ho11)); have n0_ := Aside0.mk (Kd.R_lower ho11 (below_size (by repeat (first | (with_reducible first | exact HB.out | apply below_alloc | apply pw_below_drewN | apply below_drew1) | exact HB.out)))); have n1_ := Aside0.mk (below_step (by repeat (first | (with_reducible first | exact HB.out | apply below_alloc | apply pw_below_drewN | apply below_drew1) | exact HB.out)) hb); clear HB; have HO123 := n0_; have HB := n1_; clear n0_ n1_; clear hb ho11) | ((with_reducible refine gate_builtin (b := .append) (xs := #[.tmp 22, .tmp 23]) rfl ?_); at_builtin; refine Kd.R_append_rows k25 (w0 := w) w.heap.size rfl (.tmp 22) (.tmp 23) 22 25 (.agg #[(.int .i64 0), (.int .i64 0), (.int .i64 0), (.int .i64 0), (.int .u8 0)]) 40 rfl Try.underlying22 info25 rfl (by decide) (by omega) v122 y121 l0 _ _ _ (fun _ => True) (fun _ => False) rfl rfl ?aO ?aR (fun _ _ h => h) (fun _ h => h.elim) ?aF ?aB ?aS ?aL ?_; (case aR => repeat (first | exact (Kd.C_below HR0.out HB.out) | (with_reducible refine Kd.C_alloc ?_ _) | (with_reducible refine Kd.C_drewN ?_ _) | (with_reducible refine Kd.C_drew ?_))); (case aB => exact (by repeat (first | (with_reducible first | exact HB.out | apply below_alloc | apply pw_below_drewN | apply below_drew1) | exact HB.out))); (case aF => exact (fun _ _ => trivial)); (case aO => exact (by (with_reducible repeat (first | apply Kd.R_alloc | apply Kd.R_drewN | apply Kd.R_drew)); exact HO123.out)); (case aS => exact (below_size (by repeat (first | (with_reducible first | exact HB.out | apply below_alloc | apply pw_below_drewN | apply below_drew1) | exact HB.out)))); (case aL => have := LMc8.out; omega); intro v125 w12 ho hb hg hat; rw [← Ny124.out] at ho; have n0_ := Aside0.mk (hb); have n1_ := Aside0.mk (ho); clear HB; clear HO123; have HB := n0_; have HO126 := n1_; clear n0_ n1_; clear ho hb hg hat; obtain ⟨Ao13, co13, eo13⟩ := Kd.R_slice HO126.out; subst eo13))
      go_loopg [27] k (fun kq v27 w' => ∃ (x11_1 : List (S25)) (x27_1 : Int), v27 = .int .i64 x27_1 ∧ Aside0 (pylonlaw12_MeterSeries.l0 kq l0 a1 a2 a3 a4 x11_1 (y124.length : Int) x27_1 = some r) ∧ Aside0 (kq ≤ k) ∧ Aside0 (Kd.R k25 25 w' w.heap.size (fun _ => True) (.slice Ao13 y124.length co13) x11_1) ∧ Aside0 (Below w.heap.size w w'))
      case atStart => exact ⟨(y124), (0), (by first | rfl | (simp; done) | (simp [*]; done)), H', ⟨Nat.le_refl _⟩, ⟨by (with_reducible repeat (first | apply Kd.R_alloc | apply Kd.R_drewN | apply Kd.R_drew)); exact HO126.out⟩, ⟨by repeat (first | (with_reducible first | exact HB.out | apply below_alloc | apply pw_below_drewN | apply below_drew1) | exact HB.out)⟩⟩
      case round =>
        clear H'
        try clear c2
        try clear p2
        try clear c3
        try clear c7
        try clear c8
        obtain ⟨x11_1, x27_1, rfl, HA, HK1, HO_11, HB⟩ := hrel
        have hl11_1 := (Kd.R_reads' HO_11.out).1
        rw [hl11_1] at HO_11
        (try simp only [hl11_1])
        cases gk with
        | zero => exact absurd HA.out (by simp [pylonlaw12_MeterSeries.l0])
        | succ k1 =>
          have H := HA.out
          clear HA
          simp only [pylonlaw12_MeterSeries.l0] at H
          by_cases c14 : x27_1 < (y124.length : Int)
          · rw [if_pos c14] at H
            have c14b0 : decide (x27_1 < (y124.length : Int)) = true := decide_eq_true c14
            (try (have c14z0 := c14b0; simp only [hl11_1] at c14z0))
            clear c14
            by_cases c15 : 0 ≤ x27_1
            · rw [if_pos c15] at H
              have c15b0 : decide (0 ≤ x27_1) = true := decide_eq_true c15
              clear c15
              by_cases c16 : x27_1 < (x11_1.length : Int)
              · rw [if_pos c16] at H
                have c16b0 : decide (x27_1 < (x11_1.length : Int)) = true := decide_eq_true c16
                (try (have c16z0 := c16b0; simp only [hl11_1] at c16z0))
                clear c16
                obtain ⟨y127, hy127⟩ : ∃ y_ : List (S25), y_ = (x11_1.set (x27_1 : Int).toNat (⟨a3, (rd_T25 x11_1 x27_1).f1, (rd_T25 x11_1 x27_1).f2, (rd_T25 x11_1 x27_1).f3, (rd_T25 x11_1 x27_1).f4⟩ : S25)) := ⟨_, rfl⟩
                replace H : (pylonlaw12_MeterSeries.l0 k1 l0 a1 a2 a3 a4 (y127.set (x27_1 : Int).toNat (⟨(rd_T25 y127 x27_1).f0, (rd_T25 y127 x27_1).f1, (rd_T25 y127 x27_1).f2, (rd_T25 y127 x27_1).f3, a4⟩ : S25)) (y124.length : Int) (wrap64 (x27_1 + 1))) = some r := by first | (rw [hy127]; with_reducible exact H) | (have H2_ := (Option.bind_some _ _).symm.trans H; rw [hy127]; with_reducible exact H2_) | (have H2_ := (Option.bind_some _ _).symm.trans H; with_reducible exact H2_) | with_reducible exact H | (rw [hy127]; exact H) | exact H
                have Ny127 := Aside0.mk hy127
                clear hy127
                obtain ⟨y128, hy128⟩ : ∃ y_ : List (S25), y_ = (y127.set (x27_1 : Int).toNat (⟨(rd_T25 y127 x27_1).f0, (rd_T25 y127 x27_1).f1, (rd_T25 y127 x27_1).f2, (rd_T25 y127 x27_1).f3, a4⟩ : S25)) := ⟨_, rfl⟩
                replace H : (pylonlaw12_MeterSeries.l0 k1 l0 a1 a2 a3 a4 y128 (y124.length : Int) (wrap64 (x27_1 + 1))) = some r := by first | (rw [hy128]; with_reducible exact H) | (have H2_ := (Option.bind_some _ _).symm.trans H; rw [hy128]; with_reducible exact H2_) | (have H2_ := (Option.bind_some _ _).symm.trans H; with_reducible exact H2_) | with_reducible exact H | (rw [hy128]; exact H) | exact H
                have Ny128 := Aside0.mk hy128
                clear hy128
                have H' := Aside0.mk H
                clear H
                have p17 : 0 ≤ (x27_1 : Int) := of_decide_eq_true (by first | (with_reducible assumption) | assumption)
                have q17 : (x27_1 : Int) < ((x11_1.length : Int) : Int) := of_decide_eq_true (by first | (with_reducible assumption) | assumption)
                obtain ⟨go17, co17, eo17, gb17, gl17, cl17, HG17⟩ := Kd.R_form HO_11.out (by omega)
                (first | cases eo17 | (injection eo17 with ea_ en_ ec_; (first | subst ea_ | (injection ea_ with ea_; subst ea_)); subst ec_; clear en_))
                have GB17 := Aside0.mk gb17
                have GG17 := Aside0.mk HG17
                clear gb17 gl17 HG17
                obtain ⟨ce17, hcl17, hM17, hcc17, hfr17⟩ := Kd.R_elem HO_11.out z25 (x27_1 : Int) p17 q17
                obtain rfl := k25_openM hM17
                have hx17_0 : wr.cell? ⟨go17, (x27_1 : Int).toNat * 5, none⟩ = some (.int .i64 ((rd_T25 x11_1 x27_1).f0)) := hcc17 0 _ rfl
                have hx17_1 : wr.cell? ⟨go17, (x27_1 : Int).toNat * 5 + 1, none⟩ = some (.int .i64 ((rd_T25 x11_1 x27_1).f1)) := hcc17 1 _ rfl
                have hx17_2 : wr.cell? ⟨go17, (x27_1 : Int).toNat * 5 + 2, none⟩ = some (.int .i64 ((rd_T25 x11_1 x27_1).f2)) := hcc17 2 _ rfl
                have hx17_3 : wr.cell? ⟨go17, (x27_1 : Int).toNat * 5 + 3, none⟩ = some (.int .i64 ((rd_T25 x11_1 x27_1).f3)) := hcc17 3 _ rfl
                have hx17_4 : wr.cell? ⟨go17, (x27_1 : Int).toNat * 5 + 4, none⟩ = some (.int .u8 ((rd_T25 x11_1 x27_1).f4)) := hcc17 4 _ rfl
                have hf17_0 : wr.frozen? ⟨go17, (x27_1 : Int).toNat * 5, none⟩ = false := hfr17 0
                have hf17_1 : wr.frozen? ⟨go17, (x27_1 : Int).toNat * 5 + 1, none⟩ = false := hfr17 1
                have hf17_2 : wr.frozen? ⟨go17, (x27_1 : Int).toNat * 5 + 2, none⟩ = false := hfr17 2
                have hf17_3 : wr.frozen? ⟨go17, (x27_1 : Int).toNat * 5 + 3, none⟩ = false := hfr17 3
                have hf17_4 : wr.frozen? ⟨go17, (x27_1 : Int).toNat * 5 + 4, none⟩ = false := hfr17 4
                clear hcl17 hcc17 hfr17 hM17
                replace p17 := eq_true p17
                replace q17 := eq_true q17
                have HX19 := Aside0.mk (show Kd.R k25 25 wr w.heap.size (fun _ => True) (.slice (some ⟨go17, 0, none⟩) x11_1.length co13) x11_1 from (by (with_reducible repeat (first | apply Kd.R_alloc | apply Kd.R_drewN | apply Kd.R_drew)); exact HO_11.out))
                obtain ⟨ce19, hcl19, hM19, hcc19, hfr19⟩ := Kd.R_elem HX19.out z25 (x27_1 : Int) (of_decide_eq_true (by first | (with_reducible assumption) | assumption)) (by have h_ : (x27_1 : Int) < ((x11_1.length : Int) : Int) := of_decide_eq_true (by first | (with_reducible assumption) | assumption); first | exact h_ | (have e_ := (Kd.R_reads' HO_11.out).1; omega) | simpa using h_)
                obtain rfl := k25_openM hM19
                have HP19 := Kd.R_seg HX19.out (x27_1 : Int) (of_decide_eq_true (by first | (with_reducible assumption) | assumption)) (by have h_ : (x27_1 : Int) < ((x11_1.length : Int) : Int) := of_decide_eq_true (by first | (with_reducible assumption) | assumption); first | exact h_ | (have e_ := (Kd.R_reads' HO_11.out).1; omega) | simpa using h_) (seg := [.int .i64 a3]) (j := 0) hcl19 hcc19 (show 1 ≤ 5 from by decide) (x' := (⟨a3, (rd_T25 x11_1 x27_1).f1, (rd_T25 x11_1 x27_1).f2, (rd_T25 x11_1 x27_1).f3, (rd_T25 x11_1 x27_1).f4⟩ : S25)) (k25_mkM _ _ _ (⟨a3, (rd_T25 x11_1 x27_1).f1, (rd_T25 x11_1 x27_1).f2, (rd_T25 x11_1 x27_1).f3, (rd_T25 x11_1 x27_1).f4⟩ : S25) ) (fun _ hk => hk)
                have hx19_0 := hcc19 0 _ rfl
                (try simp only [show (k25).sz = 5 from rfl, Nat.mul_one, Nat.add_zero] at hx19_0)
                have hf19_0 := hfr19 0
                (try simp only [show (k25).sz = 5 from rfl, Nat.mul_one, Nat.add_zero] at hf19_0)
                clear hcl19 hcc19 hfr19 hM19
                go_wp2_with (first | ((with_reducible refine gate_store (t := 3) (p := 37) rfl ?_); refine store_event (t := 3) (p := 37) (v := ?vo_w20) (w1 := (wr.setCell ⟨go17, (x27_1 : Int).toNat * 5, none⟩ (.int .i64 a3))) ?hg ?ho ?hn ?hr ?_; (case ho => rfl); (case hg => rfl); (case hn => rfl); (case hr => first | (go_simp; done) | (go_simp; rfl)); intro w20 hw; have hg : wr.grownBy w20 (some go17) := (by rw [hw]; exact HP19.2); have hp_ : Kd.R k25 25 w20 w.heap.size (fun _ => True) (.slice (some ⟨go17, 0, none⟩) x11_1.length co13) y127 := (by rw [hw, Ny127.out]; exact HP19.1); clear HP19; have n0_ := Aside0.mk (hp_); have n1_ := Aside0.mk ((by rw [hw]; exact below_set (HB.out) GB17.out : Below w.heap.size w w20)); clear HO_11; clear HB; have HO_11 := n0_; have HB := n1_; clear n0_ n1_; clear hg hw hp_; have p18 : 0 ≤ (x27_1 : Int) := of_decide_eq_true (by first | (with_reducible assumption) | assumption); have q18 : (x27_1 : Int) < ((x11_1.length : Int) : Int) := of_decide_eq_true (by first | (with_reducible assumption) | assumption); obtain ⟨ce18, hcl18, hM18, hcc18, hfr18⟩ := Kd.R_elem HO_11.out z25 (x27_1 : Int) p18 q18; obtain rfl := k25_openM hM18; have hx18_0 : w20.cell? ⟨go17, (x27_1 : Int).toNat * 5, none⟩ = some (.int .i64 ((rd_T25 y127 x27_1).f0)) := hcc18 0 _ rfl; have hx18_1 : w20.cell? ⟨go17, (x27_1 : Int).toNat * 5 + 1, none⟩ = some (.int .i64 ((rd_T25 y127 x27_1).f1)) := hcc18 1 _ rfl; have hx18_2 : w20.cell? ⟨go17, (x27_1 : Int).toNat * 5 + 2, none⟩ = some (.int .i64 ((rd_T25 y127 x27_1).f2)) := hcc18 2 _ rfl; have hx18_3 : w20.cell? ⟨go17, (x27_1 : Int).toNat * 5 + 3, none⟩ = some (.int .i64 ((rd_T25 y127 x27_1).f3)) := hcc18 3 _ rfl; have hx18_4 : w20.cell? ⟨go17, (x27_1 : Int).toNat * 5 + 4, none⟩ = some (.int .u8 ((rd_T25 y127 x27_1).f4)) := hcc18 4 _ rfl; have hf18_0 : w20.frozen? ⟨go17, (x27_1 : Int).toNat * 5, none⟩ = false := hfr18 0; have hf18_1 : w20.frozen? ⟨go17, (x27_1 : Int).toNat * 5 + 1, none⟩ = false := hfr18 1; have hf18_2 : w20.frozen? ⟨go17, (x27_1 : Int).toNat * 5 + 2, none⟩ = false := hfr18 2; have hf18_3 : w20.frozen? ⟨go17, (x27_1 : Int).toNat * 5 + 3, none⟩ = false := hfr18 3; have hf18_4 : w20.frozen? ⟨go17, (x27_1 : Int).toNat * 5 + 4, none⟩ = false := hfr18 4; clear hcl18 hcc18 hfr18 hM18; replace p18 := eq_true p18; replace q18 := eq_true q18; have HX21 := Aside0.mk (show Kd.R k25 25 w20 w.heap.size (fun _ => True) (.slice (some ⟨go17, 0, none⟩) x11_1.length co13) y127 from (by (with_reducible repeat (first | apply Kd.R_alloc | apply Kd.R_drewN | apply Kd.R_drew)); exact HO_11.out)); obtain ⟨ce21, hcl21, hM21, hcc21, hfr21⟩ := Kd.R_elem HX21.out z25 (x27_1 : Int) (of_decide_eq_true (by first | (with_reducible assumption) | assumption)) (by have h_ : (x27_1 : Int) < ((x11_1.length : Int) : Int) := of_decide_eq_true (by first | (with_reducible assumption) | assumption); first | exact h_ | (have e_ := (Kd.R_reads' HO_11.out).1; omega) | simpa using h_); obtain rfl := k25_openM hM21; have HP21 := Kd.R_seg HX21.out (x27_1 : Int) (of_decide_eq_true (by first | (with_reducible assumption) | assumption)) (by have h_ : (x27_1 : Int) < ((x11_1.length : Int) : Int) := of_decide_eq_true (by first | (with_reducible assumption) | assumption); first | exact h_ | (have e_ := (Kd.R_reads' HO_11.out).1; omega) | simpa using h_) (seg := [.int .u8 a4]) (j := 4) hcl21 hcc21 (show 5 ≤ 5 from by decide) (x' := (⟨(rd_T25 y127 x27_1).f0, (rd_T25 y127 x27_1).f1, (rd_T25 y127 x27_1).f2, (rd_T25 y127 x27_1).f3, a4⟩ : S25)) (k25_mkM _ _ _ (⟨(rd_T25 y127 x27_1).f0, (rd_T25 y127 x27_1).f1, (rd_T25 y127 x27_1).f2, (rd_T25 y127 x27_1).f3, a4⟩ : S25) ) (fun _ hk => hk); have hx21_4 := hcc21 4 _ rfl; (try simp only [show (k25).sz = 5 from rfl, Nat.mul_one, Nat.add_zero] at hx21_4); have hf21_4 := hfr21 4; (try simp only [show (k25).sz = 5 from rfl, Nat.mul_one, Nat.add_zero] at hf21_4); clear hcl21 hcc21 hfr21 hM21) | ((with_reducible refine gate_store (t := 5) (p := 39) rfl ?_); refine store_event (t := 5) (p := 39) (v := ?vo_w22) (w1 := (w20.setCell ⟨go17, (x27_1 : Int).toNat * 5 + 4, none⟩ (.int .u8 a4))) ?hg ?ho ?hn ?hr ?_; (case ho => rfl); (case hg => rfl); (case hn => rfl); (case hr => first | (go_simp; done) | (go_simp; rfl)); intro w22 hw; have hg : w20.grownBy w22 (some go17) := (by rw [hw]; exact HP21.2); have hp_ : Kd.R k25 25 w22 w.heap.size (fun _ => True) (.slice (some ⟨go17, 0, none⟩) x11_1.length co13) y128 := (by rw [hw, Ny128.out]; exact HP21.1); clear HP21; have n0_ := Aside0.mk (hp_); have n1_ := Aside0.mk ((by rw [hw]; exact below_set (HB.out) GB17.out : Below w.heap.size w w22)); clear HO_11; clear HB; have HO_11 := n0_; have HB := n1_; clear n0_ n1_; clear hg hw hp_))
                (try simp only [← hl11_1])
                go_roundg k1
                case measure => have := HK1.out; omega
                case rel => exact ⟨(y128), (wrap64 (x27_1 + 1)), (by first | rfl | (simp; done) | (simp [*]; done)), H', ⟨by have := HK1.out; omega⟩, ⟨by (try simp only [hl11_1]); (with_reducible repeat (first | apply Kd.R_alloc | apply Kd.R_drewN | apply Kd.R_drew)); exact HO_11.out⟩, ⟨by repeat (first | (with_reducible first | exact HB.out | apply below_alloc | apply pw_below_drewN | apply below_drew1) | exact HB.out)⟩⟩
              · rw [if_neg c16] at H
                exact absurd H (by simp)
            · rw [if_neg c15] at H
              exact absurd H (by simp)
          · rw [if_neg c14] at H
            have c14b0 : decide (x27_1 < (y124.length : Int)) = false := decide_eq_false c14
            (try (have c14z0 := c14b0; simp only [hl11_1] at c14z0))
            clear c14
            obtain ⟨y129, hy129⟩ : ∃ y_ : List (S25), y_ = (([] : List (S25))) := ⟨_, rfl⟩
            replace H : (if y129.length + l0.length < 3518437208883 then ((meter_Series.f k1 (y129 ++ l0) a1 a2).bind fun bt135 => ((meter_Series.f k1 x11_1 a1 a2).bind fun bt139 => (if bt135.2 = bt139.2 then ((pylonref12_SameSeries.f k1 bt135.1 bt139.1).bind fun t143 => (pylonlaw12_MeterSeries.j1 k1 l0 a1 a2 bt135.1 bt135.2 (!t143))) else (pylonlaw12_MeterSeries.j1 k1 l0 a1 a2 bt135.1 bt135.2 true)))) else (none)) = some r := by first | (rw [hy129]; with_reducible exact H) | (have H2_ := (Option.bind_some _ _).symm.trans H; rw [hy129]; with_reducible exact H2_) | (have H2_ := (Option.bind_some _ _).symm.trans H; with_reducible exact H2_) | with_reducible exact H | (rw [hy129]; exact H) | exact H
            have Ny129 := Aside0.mk hy129
            clear hy129
            by_cases c23 : y129.length + l0.length < 3518437208883
            · rw [if_pos c23] at H
              have LMc23 := Aside0.mk c23
              clear c23
              obtain ⟨y132, hy132⟩ : ∃ y_ : List (S25), y_ = (y129 ++ l0) := ⟨_, rfl⟩
              replace H : ((meter_Series.f k1 y132 a1 a2).bind fun bt135 => ((meter_Series.f k1 x11_1 a1 a2).bind fun bt139 => (if bt135.2 = bt139.2 then ((pylonref12_SameSeries.f k1 bt135.1 bt139.1).bind fun t143 => (pylonlaw12_MeterSeries.j1 k1 l0 a1 a2 bt135.1 bt135.2 (!t143))) else (pylonlaw12_MeterSeries.j1 k1 l0 a1 a2 bt135.1 bt135.2 true)))) = some r := by first | (rw [hy132]; with_reducible exact H) | (have H2_ := (Option.bind_some _ _).symm.trans H; rw [hy132]; with_reducible exact H2_) | (have H2_ := (Option.bind_some _ _).symm.trans H; with_reducible exact H2_) | with_reducible exact H | (rw [hy132]; exact H) | exact H
              have Ny132 := Aside0.mk hy132
              clear hy132
              replace H := Option.bind_eq_some_iff.mp H
              obtain ⟨⟨t135, t136⟩, A240, H⟩ := H
              replace H : ((meter_Series.f k1 x11_1 a1 a2).bind fun bt139 => (if t136 = bt139.2 then ((pylonref12_SameSeries.f k1 t135 bt139.1).bind fun t143 => (pylonlaw12_MeterSeries.j1 k1 l0 a1 a2 t135 t136 (!t143))) else (pylonlaw12_MeterSeries.j1 k1 l0 a1 a2 t135 t136 true))) = some r := H
              have A24 := Aside0.mk A240
              clear A240
              replace H := Option.bind_eq_some_iff.mp H
              obtain ⟨⟨t139, t140⟩, A250, H⟩ := H
              replace H : (if t136 = t140 then ((pylonref12_SameSeries.f k1 t135 t139).bind fun t143 => (pylonlaw12_MeterSeries.j1 k1 l0 a1 a2 t135 t136 (!t143))) else (pylonlaw12_MeterSeries.j1 k1 l0 a1 a2 t135 t136 true)) = some r := H
              have A25 := Aside0.mk A250
              clear A250
              have HC26 := Aside0.mk H
              clear H
              go_upto_region 11 with (first | ((with_reducible refine gate_dst (N := 42) rfl ?_); refine Kd.R_lit k25 _ 25 ?hg (N := 42) ?hd (xs := ([] : List (S25))) (inner := []) (ok := fun _ => True) (okp := fun _ => True) ?hr ?hp (fun _ hk => hk) trivial (Below.refl _ _) (Nat.le_refl _) (by simp) ?_; (case hd => rfl); (case hg => rfl); (case hr => first | (go_simp; done) | (go_simp; rfl)); (case hp => exact (Reps.none _ _)); intro v130 w27 ho28 hb hg_ hnew_; clear hg_ hnew_; (first | rw [← Ny129.out] at ho28 | (simp only [Int.reduceToNat] at ho28; rw [← Ny129.out] at ho28)); have n0_ := Aside0.mk (Kd.R_elder' (by (with_reducible repeat (first | apply Kd.R_alloc | apply Kd.R_drewN | apply Kd.R_drew)); exact HO_11.out) (Kd.R_base ho28) hb); have n1_ := Aside0.mk (Kd.R_lower (Kd.R_new' ho28 (Kd.R_lt (by (with_reducible repeat (first | apply Kd.R_alloc | apply Kd.R_drewN | apply Kd.R_drew)); exact HO_11.out))) (below_size (by repeat (first | (with_reducible first | exact HB.out | apply below_alloc | apply pw_below_drewN | apply below_drew1) | exact HB.out)))); have n2_ := Aside0.mk (below_step (by repeat (first | (with_reducible first | exact HB.out | apply below_alloc | apply pw_below_drewN | apply below_drew1) | exact HB.out)) hb); clear HO_11; clear HB; have HO_11 := n0_; have HO131 := n1_; have HB := n2_; clear n0_ n1_ n2_; clear hb ho28) | ((with_reducible refine gate_builtin (b := .append) (xs := #[.tmp 42, .tmp 43]) rfl ?_); at_builtin; refine Kd.R_append_rows k25 (w0 := w) w.heap.size rfl (.tmp 42) (.tmp 43) 22 25 (.agg #[(.int .i64 0), (.int .i64 0), (.int .i64 0), (.int .i64 0), (.int .u8 0)]) 40 rfl Try.underlying22 info25 rfl (by decide) (by omega) v130 y129 l0 _ _ _ (fun k_ => some k_ ≠ (.slice Ao13 x11_1.length co13 : Value).ownBlock) (fun _ => False) rfl rfl ?aO ?aR (fun _ _ h => h) (fun _ h => h.elim) ?aF ?aB ?aS ?aL ?_; (case aR => repeat (first | exact (Kd.C_below HR0.out HB.out) | (with_reducible refine Kd.C_alloc ?_ _) | (with_reducible refine Kd.C_drewN ?_ _) | (with_reducible refine Kd.C_drew ?_))); (case aB => exact (by repeat (first | (with_reducible first | exact HB.out | apply below_alloc | apply pw_below_drewN | apply below_drew1) | exact HB.out))); (case aF => exact (fun k_ hk => Kd.fresh' (Kd.R_lt (by (with_reducible repeat (first | apply Kd.R_alloc | apply Kd.R_drewN | apply Kd.R_drew)); exact HO_11.out)) k_ hk)); (case aO => exact (by (with_reducible repeat (first | apply Kd.R_alloc | apply Kd.R_drewN | apply Kd.R_drew)); exact Kd.R_mono HO131.out (fun _ hk => hk.2))); (case aS => exact (below_size (by repeat (first | (with_reducible first | exact HB.out | apply below_alloc | apply pw_below_drewN | apply below_drew1) | exact HB.out)))); (case aL => have := LMc23.out; omega); intro v133 w29 ho hb hg hat; rw [← Ny132.out] at ho; have n0_ := Aside0.mk (Kd.R_after (ok := (fun _ => True)) (by (with_reducible repeat (first | apply Kd.R_alloc | apply Kd.R_drewN | apply Kd.R_drew)); exact HO_11.out) hg hat); have n1_ := Aside0.mk (hb); have n2_ := Aside0.mk (ho); clear HO_11; clear HB; clear HO131; have HO_11 := n0_; have HB := n1_; have HO134 := n2_; clear n0_ n1_ n2_; clear ho hb hg hat; obtain ⟨Ao30, co30, eo30⟩ := Kd.R_slice HO134.out; subst eo30) | ((with_reducible refine gate_callee (f := 21) rfl ?_); refine goesL_ (some 47) rfl rfl Try.func21 (by kernel_rfl) rfl #[.slice Ao30 y132.length co30, .int .i64 a1, .int .i64 a2] rfl (by (try simp only [List.map_toArray, List.map_cons, List.map_nil]); first | done | rfl | (simp only [List.length_drop, List.length_take]; rfl)) ?_; (with_reducible refine (meter_Series.calls k1 _ _ y132 a1 a2 t135 t136 _ ?side1 ?side2 A24.out).mono ?_); (case side1 => repeat (first | exact (Kd.R_reads' HO134.out).2.2 | (with_reducible refine Kd.C_alloc ?_ _) | (with_reducible refine Kd.C_drewN ?_ _) | (with_reducible refine Kd.C_drew ?_))); (case side2 => exact (Kd.R_reads' HO134.out).2.1); rintro e w31 ⟨v137, rfl, ho0, hb⟩; refine ⟨_, rfl, ?_⟩; have n0_ := Aside0.mk (Kd.R_below (by (with_reducible repeat (first | apply Kd.R_alloc | apply Kd.R_drewN | apply Kd.R_drew)); exact HO_11.out) hb); have n1_ := Aside0.mk (Kd.R_below (by (with_reducible repeat (first | apply Kd.R_alloc | apply Kd.R_drewN | apply Kd.R_drew)); exact HO134.out) hb); have n2_ := Aside0.mk (Kd.R_lower ho0 (below_size (by repeat (first | (with_reducible first | exact HB.out | apply below_alloc | apply pw_below_drewN | apply below_drew1) | exact HB.out)))); have n3_ := Aside0.mk (below_step (by repeat (first | (with_reducible first | exact HB.out | apply below_alloc | apply pw_below_drewN | apply below_drew1) | exact HB.out)) hb); clear HO_11; clear HO134; clear HB; have HO_11 := n0_; have HO134 := n1_; have HO138 := n2_; have HB := n3_; clear n0_ n1_ n2_ n3_; (try clear hb); (try clear hb2); (try clear hk); (try clear hi); (try clear ho0)) | ((with_reducible refine gate_callee (f := 21) rfl ?_); refine goesL_ (some 54) rfl rfl Try.func21 (by kernel_rfl) rfl #[.slice Ao13 x11_1.length co13, .int .i64 a1, .int .i64 a2] rfl (by (try simp only [List.map_toArray, List.map_cons, List.map_nil]); first | done | rfl | (simp only [List.length_drop, List.length_take]; rfl)) ?_; (with_reducible refine (meter_Series.calls k1 _ _ x11_1 a1 a2 t139 t140 _ ?side1 ?side2 A25.out).mono ?_); (case side1 => repeat (first | exact (Kd.R_reads' HO_11.out).2.2 | (with_reducible refine Kd.C_alloc ?_ _) | (with_reducible refine Kd.C_drewN ?_ _) | (with_reducible refine Kd.C_drew ?_))); (case side2 => exact (Kd.R_reads' HO_11.out).2.1); rintro e w32 ⟨v141, rfl, ho0, hb⟩; refine ⟨_, rfl, ?_⟩; have n0_ := Aside0.mk (Kd.R_below (by (with_reducible repeat (first | apply Kd.R_alloc | apply Kd.R_drewN | apply Kd.R_drew)); exact HO_11.out) hb); have n1_ := Aside0.mk (Kd.R_below (by (with_reducible repeat (first | apply Kd.R_alloc | apply Kd.R_drewN | apply Kd.R_drew)); exact HO134.out) hb); have n2_ := Aside0.mk (Kd.R_elder' (by (with_reducible repeat (first | apply Kd.R_alloc | apply Kd.R_drewN | apply Kd.R_drew)); exact HO138.out) (Kd.R_base ho0) hb); have n3_ := Aside0.mk (Kd.R_lower (Kd.R_new' ho0 (Kd.R_lt (by (with_reducible repeat (first | apply Kd.R_alloc | apply Kd.R_drewN | apply Kd.R_drew)); exact HO138.out))) (below_size (by repeat (first | (with_reducible first | exact HB.out | apply below_alloc | apply pw_below_drewN | apply below_drew1) | exact HB.out)))); have n4_ := Aside0.mk (below_step (by repeat (first | (with_reducible first | exact HB.out | apply below_alloc | apply pw_below_drewN | apply below_drew1) | exact HB.out)) hb); clear HO_11; clear HO134; clear HO138; clear HB; have HO_11 := n0_; have HO134 := n1_; have HO138 := n2_; have HO142 := n3_; have HB := n4_; clear n0_ n1_ n2_ n3_ n4_; (try clear hb); (try clear hb2); (try clear hk); (try clear hi); (try clear ho0)))
              (try simp only [Act.put, List.setIfInBounds_toArray, List.set_cons_zero, List.set_cons_succ])
              go_cut [65] (fun v65 wc => ∃ (kq : Nat) (x65_25 : Bool), v65 = .bool x65_25 ∧ Aside0 (pylonlaw12_MeterSeries.j1 kq l0 a1 a2 t135 t136 x65_25 = some r) ∧ Aside0 (kq ≤ k1) ∧ Aside0 (Kd.R Kd.c128 31 wc w.heap.size (fun _ => True) v137 t135) ∧ Aside0 (Below w.heap.size w wc))
              case first =>
                have H := HC26.out
                clear HC26
                by_cases c33 : t136 = t140
                · rw [if_pos c33] at H
                  have c33b0 : (t136 == t140) = true := beq_iff_eq.mpr c33
                  have c33b1 : (t136 != t140) = false := bne_eq_false_iff_eq.mpr c33
                  clear c33
                  (first | rw [c33b0] | (simp only [i64_w, i32_w]; rw [c33b0]) | skip)
                  replace H := Option.bind_eq_some_iff.mp H
                  obtain ⟨t143, A340, H⟩ := H
                  replace H : (pylonlaw12_MeterSeries.j1 k1 l0 a1 a2 t135 t136 (!t143)) = some r := H
                  have A34 := Aside0.mk A340
                  clear A340
                  have H' := Aside0.mk H
                  clear H
                  obtain ⟨Ao35, co35, eo35⟩ := Kd.R_slice HO138.out
                  subst eo35
                  obtain ⟨Ao36, co36, eo36⟩ := Kd.R_slice HO142.out
                  subst eo36
                  go_wp2_with (first | (go_at_call 22; (with_reducible refine (pylonref12_SameSeries.calls k1 _ _ t135 _ _ t139 t143 _ ?side1 ?side2 ?side3 ?side4 A34.out).mono ?_); (case side1 => repeat (first | exact (Kd.R_reads' HO138.out).2.2 | (with_reducible refine Kd.C_alloc ?_ _) | (with_reducible refine Kd.C_drewN ?_ _) | (with_reducible refine Kd.C_drew ?_))); (case side2 => exact (Kd.R_reads' HO138.out).2.1); (case side3 => repeat (first | exact (Kd.R_reads' HO142.out).2.2 | (with_reducible refine Kd.C_alloc ?_ _) | (with_reducible refine Kd.C_drewN ?_ _) | (with_reducible refine Kd.C_drew ?_))); (case side4 => exact (Kd.R_reads' HO142.out).2.1); rintro e w' ⟨rfl, ⟨nd, rfl⟩⟩))
                  go_meet
                  case rel => exact ⟨_, (!t143), (by first | rfl | (simp; done) | (simp [*]; done)), H', ⟨by have := HK1.out; first | omega | exact Nat.le_refl _⟩, ⟨by (try simp only [hl11_1]); (with_reducible repeat (first | apply Kd.R_alloc | apply Kd.R_drewN | apply Kd.R_drew)); exact Kd.R_mono HO138.out (fun _ hk => trivial)⟩, ⟨by repeat (first | (with_reducible first | exact HB.out | apply below_alloc | apply pw_below_drewN | apply below_drew1) | exact HB.out)⟩⟩
                · rw [if_neg c33] at H
                  have c33b0 : (t136 == t140) = false := beq_eq_false_iff_ne.mpr c33
                  have c33b1 : (t136 != t140) = true := bne_iff_ne.mpr c33
                  (first | rw [c33b0] | (simp only [i64_w, i32_w]; rw [c33b0]) | skip)
                  have H' := Aside0.mk H
                  clear H
                  go_wp2
                  go_meet
                  case rel => exact ⟨_, (true), (by first | rfl | (simp; done) | (simp [*]; done)), H', ⟨by have := HK1.out; first | omega | exact Nat.le_refl _⟩, ⟨by (try simp only [hl11_1]); (with_reducible repeat (first | apply Kd.R_alloc | apply Kd.R_drewN | apply Kd.R_drew)); exact Kd.R_mono HO138.out (fun _ hk => trivial)⟩, ⟨by repeat (first | (with_reducible first | exact HB.out | apply below_alloc | apply pw_below_drewN | apply below_drew1) | exact HB.out)⟩⟩
              case rest =>
                clear HC26
                try clear c1
                try clear p1
                try clear q1
                try clear hx1
                try clear c2
                try clear p2
                try clear hx2
                try clear c3
                try clear p6
                try clear c7
                try clear c8
                try clear c12
                try clear c14
                try clear c14b0
                try clear c15
                try clear c15b0
                try clear c16
                try clear c16b0
                try clear c17
                try clear p17
                try clear q17
                try clear hx17
                try clear hf17
                try clear c18
                try clear p18
                try clear q18
                try clear hx18
                try clear hf18
                try clear c19
                try clear hx19
                try clear hf19
                try clear c20
                try clear c21
                try clear hx21
                try clear hf21
                try clear c23
                try clear c33
                try clear c33b0
                try clear c33b1
                try clear hx17_0
                try clear hx17_1
                try clear hx17_2
                try clear hx17_3
                try clear hx17_4
                try clear hx18_0
                try clear hx18_1
                try clear hx18_2
                try clear hx18_3
                try clear hx18_4
                try clear hx19_0
                try clear hx21_4
                try clear p17
                try clear p18
                try clear p2
                try clear q17
                try clear q18
                obtain ⟨kq, x65_25, rfl, HA, HJ25, HO_13, HB⟩ := hcut
                cases kq with
                | zero => exact absurd HA.out (by simp [pylonlaw12_MeterSeries.j1])
                | succ kj25 =>
                  have H := HA.out
                  clear HA
                  simp only [pylonlaw12_MeterSeries.j1] at H
                  by_cases c37 : x65_25 = true
                  · subst c37
                    have H1 : (some false) = some r := by rw [if_pos rfl] at H; exact H
                    clear H
                    have H := H1
                    clear H1
                    obtain rfl := Option.some.inj H
                    go_wp2
                    go_ret
                    exact ⟨by first | rfl | (simp [errW_none, errW_some] <;> rfl) | (simp [*, errW_none, errW_some] <;> rfl), by repeat (first | (with_reducible first | exact HB.out | apply below_alloc | apply pw_below_drewN | apply below_drew1) | exact HB.out)⟩
                  · replace c37 := Bool.eq_false_iff.mpr c37
                    subst c37
                    have H1 : (if t136 = 0 then (pylonlaw12_MeterSeries.l1 kj25 l0 a1 a2 t135 (l0.length : Int) 0) else (some ((t135.length : Int) == 0))) = some r := by rw [if_neg (show ¬ (false = true) by decide)] at H; exact H
                    clear H
                    have H := H1
                    clear H1
                    by_cases c38 : t136 = 0
                    · rw [if_pos c38] at H
                      have c38b0 : (t136 == 0) = true := beq_iff_eq.mpr c38
                      have c38b1 : (t136 != 0) = false := bne_eq_false_iff_eq.mpr c38
                      clear c38
                      have H' := Aside0.mk H
                      clear H
                      go_wp2
                      go_loopg [73] kj25 (fun kq v73 w' => ∃ (x73_3 : Int), v73 = .int .i64 x73_3 ∧ Aside0 (pylonlaw12_MeterSeries.l1 kq l0 a1 a2 t135 (l0.length : Int) x73_3 = some r) ∧ Aside0 (kq ≤ kj25) ∧ Aside0 (Kd.R Kd.c128 31 w' w.heap.size (fun _ => True) v137 t135) ∧ Aside0 (Below w.heap.size w w'))
                      case atStart => exact ⟨(0), (by first | rfl | (simp; done) | (simp [*]; done)), H', ⟨Nat.le_refl _⟩, ⟨by (try simp only [hl11_1]); (with_reducible repeat (first | apply Kd.R_alloc | apply Kd.R_drewN | apply Kd.R_drew)); exact HO_13.out⟩, ⟨by repeat (first | (with_reducible first | exact HB.out | apply below_alloc | apply pw_below_drewN | apply below_drew1) | exact HB.out)⟩⟩
                      case round =>
                        clear H'
                        try clear c1
                        try clear p1
                        try clear q1
                        try clear hx1
                        try clear c2
                        try clear p2
                        try clear hx2
                        try clear c3
                        try clear p6
                        try clear c7
                        try clear c8
                        try clear c12
                        try clear c14
                        try clear c14b0
                        try clear c15
                        try clear c15b0
                        try clear c16
                        try clear c16b0
                        try clear c17
                        try clear p17
                        try clear q17
                        try clear hx17
                        try clear hf17
                        try clear c18
                        try clear p18
                        try clear q18
                        try clear hx18
                        try clear hf18
                        try clear c19
                        try clear hx19
                        try clear hf19
                        try clear c20
                        try clear c21
                        try clear hx21
                        try clear hf21
                        try clear c23
                        try clear c33
                        try clear c33b0
                        try clear c33b1
                        try clear c37
                        try clear c38
                        try clear c38b0
                        try clear c38b1
                        try clear hx17_0
                        try clear hx17_1
                        try clear hx17_2
                        try clear hx17_3
                        try clear hx17_4
                        try clear hx18_0
                        try clear hx18_1
                        try clear hx18_2
                        try clear hx18_3
                        try clear hx18_4
                        try clear hx19_0
                        try clear hx21_4
                        try clear p1
                        try clear p17
                        try clear p18
                        try clear p2
                        try clear p6
                        try clear q1
                        try clear q17
                        try clear q18
                        obtain ⟨x73_3, rfl, HA, HK3, HO_13, HB⟩ := hrel
                        cases gk with
                        | zero => exact absurd HA.out (by simp [pylonlaw12_MeterSeries.l1])
                        | succ k3 =>
                          have H := HA.out
                          clear HA
                          simp only [pylonlaw12_MeterSeries.l1] at H
                          by_cases c39 : x73_3 < (l0.length : Int)
                          · rw [if_pos c39] at H
                            have c39b0 : decide (x73_3 < (l0.length : Int)) = true := decide_eq_true c39
                            (try (have c39z0 := c39b0; simp only [hl11_1] at c39z0))
                            clear c39
                            by_cases c40 : 0 ≤ x73_3
                            · rw [if_pos c40] at H
                              have c40b0 : decide (0 ≤ x73_3) = true := decide_eq_true c40
                              clear c40
                              by_cases c41 : x73_3 < (l0.length : Int)
                              · rw [if_pos c41] at H
                                have c41b0 : decide (x73_3 < (l0.length : Int)) = true := decide_eq_true c41
                                (try (have c41z0 := c41b0; simp only [hl11_1] at c41z0))
                                clear c41
                                replace H := Option.bind_eq_some_iff.mp H
                                obtain ⟨⟨t145, t146⟩, A420, H⟩ := H
                                replace H : (if t146 = 0 then (if x73_3 < (t135.length : Int) then (if (ceq t145.re t145.im (rdOf (cx 0 0) t135 x73_3).re (rdOf (cx 0 0) t135 x73_3).im = true) then (pylonlaw12_MeterSeries.l1 k3 l0 a1 a2 t135 (l0.length : Int) (wrap64 (x73_3 + 1))) else (some false)) else (none)) else (some false)) = some r := H
                                have A42 := Aside0.mk A420
                                clear A420
                                by_cases c43 : t146 = 0
                                · rw [if_pos c43] at H
                                  have c43b0 : (t146 == 0) = true := beq_iff_eq.mpr c43
                                  have c43b1 : (t146 != 0) = false := bne_eq_false_iff_eq.mpr c43
                                  clear c43
                                  by_cases c44 : x73_3 < (t135.length : Int)
                                  · rw [if_pos c44] at H
                                    have c44b0 : decide (x73_3 < (t135.length : Int)) = true := decide_eq_true c44
                                    (try (have c44z0 := c44b0; simp only [hl11_1] at c44z0))
                                    clear c44
                                    by_cases c45 : (ceq t145.re t145.im (rdOf (cx 0 0) t135 x73_3).re (rdOf (cx 0 0) t135 x73_3).im = true)
                                    · rw [if_pos c45] at H
                                      have c45b0 : ceq t145.re t145.im (rdOf (cx 0 0) t135 x73_3).re (rdOf (cx 0 0) t135 x73_3).im = true := c45
                                      clear c45
                                      have H' := Aside0.mk H
                                      clear H
                                      have p144 : 0 ≤ (x73_3 : Int) := of_decide_eq_true (by first | (with_reducible assumption) | assumption)
                                      have q144 : x73_3 < (l0.length : Int) := of_decide_eq_true (by first | (with_reducible assumption) | assumption)
                                      obtain ⟨ad144, e144, hx144_0, hx144_1, hx144_2, hx144_3, hx144_4⟩ := at_T25 HR0.out x73_3 p144 q144
                                      cases e144
                                      replace hx144_0 := (HB.out.cell (World.block_lt_of_cell? w _ hx144_0)).trans hx144_0
                                      replace hx144_1 := (HB.out.cell (World.block_lt_of_cell? w _ hx144_1)).trans hx144_1
                                      replace hx144_2 := (HB.out.cell (World.block_lt_of_cell? w _ hx144_2)).trans hx144_2
                                      replace hx144_3 := (HB.out.cell (World.block_lt_of_cell? w _ hx144_3)).trans hx144_3
                                      replace hx144_4 := (HB.out.cell (World.block_lt_of_cell? w _ hx144_4)).trans hx144_4
                                      replace p144 := eq_true p144
                                      replace q144 := eq_true q144
                                      go_wp2_with (first | ((with_reducible refine gate_callee (f := 23) rfl ?_); refine goesL_ (some 83) rfl rfl Try.func23 (by kernel_rfl) rfl #[.agg #[.int .i64 ((rd_T25 l0 x73_3).f0), .int .i64 ((rd_T25 l0 x73_3).f1), .int .i64 ((rd_T25 l0 x73_3).f2), .int .i64 ((rd_T25 l0 x73_3).f3), .int .u8 ((rd_T25 l0 x73_3).f4)], .int .i64 a1, .int .i64 a2] rfl (by (try simp only [List.map_toArray, List.map_cons, List.map_nil]); first | done | rfl | (simp only [List.length_drop, List.length_take]; rfl)) ?_; (with_reducible refine (meter_Point.calls k3 ((rd_T25 l0 x73_3).f0) ((rd_T25 l0 x73_3).f1) ((rd_T25 l0 x73_3).f2) ((rd_T25 l0 x73_3).f3) ((rd_T25 l0 x73_3).f4) a1 a2 t145 t146 _ A42.out).mono ?_); rintro e w46 ⟨rfl, hb⟩; refine ⟨_, rfl, ?_⟩; have n0_ := Aside0.mk (Kd.R_below (by (with_reducible repeat (first | apply Kd.R_alloc | apply Kd.R_drewN | apply Kd.R_drew)); exact HO_13.out) hb); have n1_ := Aside0.mk (below_step (by repeat (first | (with_reducible first | exact HB.out | apply below_alloc | apply pw_below_drewN | apply below_drew1) | exact HB.out)) hb); clear HO_13; clear HB; have HO_13 := n0_; have HB := n1_; clear n0_ n1_; (try clear hb); (try clear hb2); (try clear hk); (try clear hi); obtain ⟨Ao47, co47, eo47⟩ := Kd.R_slice HO_13.out; subst eo47; have p147 : 0 ≤ (x73_3 : Int) := of_decide_eq_true (by first | (with_reducible assumption) | assumption); have q147 : x73_3 < (t135.length : Int) := of_decide_eq_true (by first | (with_reducible assumption) | assumption); obtain ⟨ad147, e147, hx147_0⟩ := Kd.at_c128 (Kd.R_reads' HO_13.out).2.2 x73_3 p147 q147; cases e147; replace p147 := eq_true p147; replace q147 := eq_true q147))
                                      go_roundg k3
                                      case measure => have := HK1.out; have := HJ25.out; have := HK3.out; omega
                                      case rel => exact ⟨(wrap64 (x73_3 + 1)), (by first | rfl | (simp; done) | (simp [*]; done)), H', ⟨by have := HK1.out; have := HJ25.out; have := HK3.out; omega⟩, ⟨by (try simp only [hl11_1]); (with_reducible repeat (first | apply Kd.R_alloc | apply Kd.R_drewN | apply Kd.R_drew)); exact HO_13.out⟩, ⟨by repeat (first | (with_reducible first | exact HB.out | apply below_alloc | apply pw_below_drewN | apply below_drew1) | exact HB.out)⟩⟩
                                    · rw [if_neg c45] at H
                                      have c45b0 : ceq t145.re t145.im (rdOf (cx 0 0) t135 x73_3).re (rdOf (cx 0 0) t135 x73_3).im = false := Bool.eq_false_iff.mpr c45
                                      clear c45
                                      obtain rfl := Option.some.inj H
                                      have p144 : 0 ≤ (x73_3 : Int) := of_decide_eq_true (by first | (with_reducible assumption) | assumption)
                                      have q144 : x73_3 < (l0.length : Int) := of_decide_eq_true (by first | (with_reducible assumption) | assumption)
                                      obtain ⟨ad144, e144, hx144_0, hx144_1, hx144_2, hx144_3, hx144_4⟩ := at_T25 HR0.out x73_3 p144 q144
                                      cases e144
                                      replace hx144_0 := (HB.out.cell (World.block_lt_of_cell? w _ hx144_0)).trans hx144_0
                                      replace hx144_1 := (HB.out.cell (World.block_lt_of_cell? w _ hx144_1)).trans hx144_1
                                      replace hx144_2 := (HB.out.cell (World.block_lt_of_cell? w _ hx144_2)).trans hx144_2
                                      replace hx144_3 := (HB.out.cell (World.block_lt_of_cell? w _ hx144_3)).trans hx144_3
                                      replace hx144_4 := (HB.out.cell (World.block_lt_of_cell? w _ hx144_4)).trans hx144_4
                                      replace p144 := eq_true p144
                                      replace q144 := eq_true q144
                                      go_wp2_with (first | ((with_reducible refine gate_callee (f := 23) rfl ?_); refine goesL_ (some 83) rfl rfl Try.func23 (by kernel_rfl) rfl #[.agg #[.int .i64 ((rd_T25 l0 x73_3).f0), .int .i64 ((rd_T25 l0 x73_3).f1), .int .i64 ((rd_T25 l0 x73_3).f2), .int .i64 ((rd_T25 l0 x73_3).f3), .int .u8 ((rd_T25 l0 x73_3).f4)], .int .i64 a1, .int .i64 a2] rfl (by (try simp only [List.map_toArray, List.map_cons, List.map_nil]); first | done | rfl | (simp only [List.length_drop, List.length_take]; rfl)) ?_; (with_reducible refine (meter_Point.calls k3 ((rd_T25 l0 x73_3).f0) ((rd_T25 l0 x73_3).f1) ((rd_T25 l0 x73_3).f2) ((rd_T25 l0 x73_3).f3) ((rd_T25 l0 x73_3).f4) a1 a2 t145 t146 _ A42.out).mono ?_); rintro e w48 ⟨rfl, hb⟩; refine ⟨_, rfl, ?_⟩; have n0_ := Aside0.mk (Kd.R_below (by (with_reducible repeat (first | apply Kd.R_alloc | apply Kd.R_drewN | apply Kd.R_drew)); exact HO_13.out) hb); have n1_ := Aside0.mk (below_step (by repeat (first | (with_reducible first | exact HB.out | apply below_alloc | apply pw_below_drewN | apply below_drew1) | exact HB.out)) hb); clear HO_13; clear HB; have HO_13 := n0_; have HB := n1_; clear n0_ n1_; (try clear hb); (try clear hb2); (try clear hk); (try clear hi); obtain ⟨Ao49, co49, eo49⟩ := Kd.R_slice HO_13.out; subst eo49; have p147 : 0 ≤ (x73_3 : Int) := of_decide_eq_true (by first | (with_reducible assumption) | assumption); have q147 : x73_3 < (t135.length : Int) := of_decide_eq_true (by first | (with_reducible assumption) | assumption); obtain ⟨ad147, e147, hx147_0⟩ := Kd.at_c128 (Kd.R_reads' HO_13.out).2.2 x73_3 p147 q147; cases e147; replace p147 := eq_true p147; replace q147 := eq_true q147))
                                      go_ret
                                      exact ⟨by first | rfl | (simp [errW_none, errW_some] <;> rfl) | (simp [*, errW_none, errW_some] <;> rfl), by repeat (first | (with_reducible first | exact HB.out | apply below_alloc | apply pw_below_drewN | apply below_drew1) | exact HB.out)⟩
                                  · rw [if_neg c44] at H
                                    exact absurd H (by simp)
                                · rw [if_neg c43] at H
                                  have c43b0 : (t146 == 0) = false := beq_eq_false_iff_ne.mpr c43
                                  have c43b1 : (t146 != 0) = true := bne_iff_ne.mpr c43
                                  obtain rfl := Option.some.inj H
                                  have p144 : 0 ≤ (x73_3 : Int) := of_decide_eq_true (by first | (with_reducible assumption) | assumption)
                                  have q144 : x73_3 < (l0.length : Int) := of_decide_eq_true (by first | (with_reducible assumption) | assumption)
                                  obtain ⟨ad144, e144, hx144_0, hx144_1, hx144_2, hx144_3, hx144_4⟩ := at_T25 HR0.out x73_3 p144 q144
                                  cases e144
                                  replace hx144_0 := (HB.out.cell (World.block_lt_of_cell? w _ hx144_0)).trans hx144_0
                                  replace hx144_1 := (HB.out.cell (World.block_lt_of_cell? w _ hx144_1)).trans hx144_1
                                  replace hx144_2 := (HB.out.cell (World.block_lt_of_cell? w _ hx144_2)).trans hx144_2
                                  replace hx144_3 := (HB.out.cell (World.block_lt_of_cell? w _ hx144_3)).trans hx144_3
                                  replace hx144_4 := (HB.out.cell (World.block_lt_of_cell? w _ hx144_4)).trans hx144_4
                                  replace p144 := eq_true p144
                                  replace q144 := eq_true q144
                                  go_wp2_with (first | ((with_reducible refine gate_callee (f := 23) rfl ?_); refine goesL_ (some 83) rfl rfl Try.func23 (by kernel_rfl) rfl #[.agg #[.int .i64 ((rd_T25 l0 x73_3).f0), .int .i64 ((rd_T25 l0 x73_3).f1), .int .i64 ((rd_T25 l0 x73_3).f2), .int .i64 ((rd_T25 l0 x73_3).f3), .int .u8 ((rd_T25 l0 x73_3).f4)], .int .i64 a1, .int .i64 a2] rfl (by (try simp only [List.map_toArray, List.map_cons, List.map_nil]); first | done | rfl | (simp only [List.length_drop, List.length_take]; rfl)) ?_; (with_reducible refine (meter_Point.calls k3 ((rd_T25 l0 x73_3).f0) ((rd_T25 l0 x73_3).f1) ((rd_T25 l0 x73_3).f2) ((rd_T25 l0 x73_3).f3) ((rd_T25 l0 x73_3).f4) a1 a2 t145 t146 _ A42.out).mono ?_); rintro e w50 ⟨rfl, hb⟩; refine ⟨_, rfl, ?_⟩; have n0_ := Aside0.mk (Kd.R_below (by (with_reducible repeat (first | apply Kd.R_alloc | apply Kd.R_drewN | apply Kd.R_drew)); exact HO_13.out) hb); have n1_ := Aside0.mk (below_step (by repeat (first | (with_reducible first | exact HB.out | apply below_alloc | apply pw_below_drewN | apply below_drew1) | exact HB.out)) hb); clear HO_13; clear HB; have HO_13 := n0_; have HB := n1_; clear n0_ n1_; (try clear hb); (try clear hb2); (try clear hk); (try clear hi)))
                                  go_ret
                                  exact ⟨by first | rfl | (simp [errW_none, errW_some] <;> rfl) | (simp [*, errW_none, errW_some] <;> rfl), by repeat (first | (with_reducible first | exact HB.out | apply below_alloc | apply pw_below_drewN | apply below_drew1) | exact HB.out)⟩
                              · rw [if_neg c41] at H
                                exact absurd H (by simp)
                            · rw [if_neg c40] at H
                              exact absurd H (by simp)
                          · rw [if_neg c39] at H
                            have c39b0 : decide (x73_3 < (l0.length : Int)) = false := decide_eq_false c39
                            (try (have c39z0 := c39b0; simp only [hl11_1] at c39z0))
                            clear c39
                            obtain rfl := Option.some.inj H
                            obtain ⟨Ao51, co51, eo51⟩ := Kd.R_slice HO_13.out
                            subst eo51
                            go_wp2
                            go_ret
                            exact ⟨by first | rfl | (simp [errW_none, errW_some] <;> rfl) | (simp [*, errW_none, errW_some] <;> rfl), by repeat (first | (with_reducible first | exact HB.out | apply below_alloc | apply pw_below_drewN | apply below_drew1) | exact HB.out)⟩
                    · rw [if_neg c38] at H
                      have c38b0 : (t136 == 0) = false := beq_eq_false_iff_ne.mpr c38
                      have c38b1 : (t136 != 0) = true := bne_iff_ne.mpr c38
                      obtain rfl := Option.some.inj H
                      obtain ⟨Ao52, co52, eo52⟩ := Kd.R_slice HO_13.out
                      subst eo52
                      go_wp2
                      go_ret
                      exact ⟨by first | rfl | (simp [errW_none, errW_some] <;> rfl) | (simp [*, errW_none, errW_some] <;> rfl), by repeat (first | (with_reducible first | exact HB.out | apply below_alloc | apply pw_below_drewN | apply below_drew1) | exact HB.out)⟩
            · rw [if_neg c23] at H
              exact absurd H (by simp)
    · rw [if_neg c8] at H
      exact absurd H (by simp)
  · replace c7 := Bool.eq_false_iff.mpr c7
    subst c7
    have H1 : (some false) = some r := by rw [if_neg (show ¬ (false = true) by decide)] at H; exact H
    clear H
    have H := H1
    clear H1
    obtain rfl := Option.some.inj H
    go_enter Try.func3, Try.ntmps3
    go_wp2_with (first | ((with_reducible refine gate_callee (f := 20) rfl ?_); refine goesL_ (some 20) rfl rfl Try.func20 (by kernel_rfl) rfl #[] rfl (by (try simp only [List.map_toArray, List.map_cons, List.map_nil]); first | done | rfl | (simp only [List.length_drop, List.length_take]; rfl)) ?_; (with_reducible refine (pylonlaw12_awake.calls k  false _ A6.out).mono ?_); rintro e w53 ⟨rfl, hb⟩; refine ⟨_, rfl, ?_⟩; have n0_ := Aside0.mk (below_step (by repeat (first | (with_reducible first | exact HB.out | apply below_alloc | apply pw_below_drewN | apply below_drew1) | exact HB.out)) hb); clear HB; have HB := n0_; clear n0_; (try clear hb); (try clear hb2); (try clear hk); (try clear hi)))
    go_ret
    exact ⟨by first | rfl | (simp [errW_none, errW_some] <;> rfl) | (simp [*, errW_none, errW_some] <;> rfl), by repeat (first | (with_reducible first | exact HB.out | apply below_alloc | apply pw_below_drewN | apply below_drew1) | exact HB.out)⟩
/-- THE ONE PURE STATEMENT of pylonlaw12_MeterSeries. -/
def pylonlaw12_MeterSeries.Pure : Prop := ∀ (l0 : List (S25)) (a1 : Int) (a2 : Int) (a3 : Int) (a4 : Int), (l0.length * 40 ≤ 140737488351232 ∧ ∀ y_ ∈ l0, okS25 y_) → ((Lit.int .i64 a1).wf = true) → ((Lit.int .i64 a2).wf = true) → ((Lit.int .i64 a3).wf = true) → ((Lit.int .u8 a4).wf = true) → ∃ k, pylonlaw12_MeterSeries.f k l0 a1 a2 a3 a4 = some true

end Go.Proofs.Ytapimggcnneabaa.PMS
