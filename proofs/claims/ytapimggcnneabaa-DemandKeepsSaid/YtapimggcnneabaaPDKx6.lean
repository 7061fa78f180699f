-- Written by a program of this session for this claim (wip/print2.sh). Lean checks it.
import Derived.Test.YtapimggcnneabaaPDKx0
import Derived.Test.YtapimggcnneabaaPDKx2
import Derived.Test.YtapimggcnneabaaPDKx4
import Derived.Test.YtapimggcnneabaaPDKx5
namespace Go.Proofs.Ytapimggcnneabaa.PDK
open Go.Proofs.YtapimggcnneabaaW.PrintWords
attribute [local go_sem high] fx_eql fx_neq fx_lss fx_leq fx_gtr fx_geq fx_add fx_sub fx_mul fx_neg fx_toint cxx_add cxx_sub cxx_mul cxx_eql cxx_neq cxx_pick st_float st_complex
open Go.RowKit Go.Proofs.YtapimggcnneabaaW.PrintWords Go.Proofs.YtapimggcnneabaaW.PrintLast Go.Proofs.YtapimggcnneabaaW.PrintMore
attribute [local go_sem] max2_int min2_int max_two min_two max_three min_three max_four min_four   -- for this text's walks alone
set_option linter.unusedVariables false
set_option linter.unusedSimpArgs false

/-! ### pylonlaw16_numbers: function 54 -/
def pylonlaw16_numbers.l0 : Nat → List (S77) → List Cx → Int → Int → Option (List Cx)
  | 0, _, _, _, _ => none
  | k + 1, x0, x3, x9, x10 => if x10 < x9 then (if 0 ≤ x10 then (if x10 < (x0.length : Int) then ((pylonlaw16_Z_c.f ((rd_T77 x0 x10).f0) ((rd_T77 x0 x10).f1)).bind fun t146 => (if x10 < (x3.length : Int) then (pylonlaw16_numbers.l0 k x0 (x3.set (x10 : Int).toNat t146) x9 (wrap64 (x10 + 1))) else (none))) else (none)) else (none)) else (some x3)
def pylonlaw16_numbers.f (k : Nat) (l0 : List (S77)) : Option (List Cx) := if 0 ≤ (l0.length : Int) then (if ((l0.length : Int) : Int).toNat ≤ 17592186044416 then (pylonlaw16_numbers.l0 k l0 (List.replicate ((l0.length : Int) : Int).toNat (cx 0 0)) (l0.length : Int) 0) else (none)) else (none)
theorem pylonlaw16_numbers.mono_l : ∀ k, (∀ y0 y1 y2 y3, LeO (pylonlaw16_numbers.l0 k y0 y1 y2 y3) (pylonlaw16_numbers.l0 (k + 1) y0 y1 y2 y3))
  | 0 => fun _ _ _ _ r h => by simp [pylonlaw16_numbers.l0] at h
  | k + 1 => by
    have ih0 := pylonlaw16_numbers.mono_l k
    · intro y0 y1 y2 y3
      unfold pylonlaw16_numbers.l0
      repeat' first
      | (with_reducible exact ih0 _ _ _ _)
      | (with_reducible exact LeO.refl _)
      | (with_reducible exact LeO.none _)
      | (with_reducible refine LeO.ite ?_ ?_)
      | (with_reducible refine LeO.bind ?_ (fun _ => ?_))
      | exact ih0 _ _ _ _
      | exact LeO.none _
      | refine LeO.ite ?_ ?_
      | refine LeO.bind ?_ (fun _ => ?_)
theorem pylonlaw16_numbers.mono : ∀ a0 k, LeO (pylonlaw16_numbers.f k a0) (pylonlaw16_numbers.f (k + 1) a0) := by
  intro a0 k
  have ih0 := pylonlaw16_numbers.mono_l k
  unfold pylonlaw16_numbers.f
  repeat' first
      | (with_reducible exact ih0 _ _ _ _)
      | (with_reducible exact LeO.refl _)
      | (with_reducible exact LeO.none _)
      | (with_reducible refine LeO.ite ?_ ?_)
      | (with_reducible refine LeO.bind ?_ (fun _ => ?_))
      | exact ih0 _ _ _ _
      | exact LeO.none _
      | refine LeO.ite ?_ ?_
      | refine LeO.bind ?_ (fun _ => ?_)
set_option maxHeartbeats 8000000 in
set_option maxRecDepth 100000 in
theorem pylonlaw16_numbers.calls (k : Nat) (A0 : Option Addr) (c0 : Nat) (l0 : List (S77)) (r : List Cx) (w : World) (hr0 : Kd.C k77 w A0 l0.length l0) (hc0 : l0.length ≤ c0) (h : pylonlaw16_numbers.f k l0 = some r) :
    Calls Try.prog 54 #[.slice A0 l0.length c0] w fun e w' => ∃ v0_ : Value, e = .returned (v0_) ∧ Kd.R Kd.c128 31 w' w.heap.size (fun _ => True) v0_ r ∧ Below w.heap.size w w' := by
  have hu77 := Try.underlying77
  have HR0 := Aside0.mk hr0
  have HC0 := Aside0.mk hc0
  clear hr0 hc0
  have HB := Aside0.mk (Below.refl w.heap.size w)
  have H : (if 0 ≤ (l0.length : Int) then (if ((l0.length : Int) : Int).toNat ≤ 17592186044416 then (pylonlaw16_numbers.l0 k l0 (List.replicate ((l0.length : Int) : Int).toNat (cx 0 0)) (l0.length : Int) 0) else (none)) else (none)) = some r := h
  clear h
  by_cases c2 : 0 ≤ (l0.length : Int)
  · rw [if_pos c2] at H
    have c2b0 := eq_true c2
    have c2b1 : decide (0 ≤ (l0.length : Int)) = true := decide_eq_true c2
    clear c2
    by_cases c3 : ((l0.length : Int) : Int).toNat ≤ 17592186044416
    · rw [if_pos c3] at H
      have c3b0 := eq_true c3
      have c3b1 : decide (((l0.length : Int) : Int).toNat ≤ 17592186044416) = true := decide_eq_true c3
      clear c3
      obtain ⟨y142, hy142⟩ : ∃ y_ : List Cx, y_ = (List.replicate ((l0.length : Int) : Int).toNat (cx 0 0)) := ⟨_, rfl⟩
      replace H : (pylonlaw16_numbers.l0 k l0 y142 (l0.length : Int) 0) = some r := by first | (rw [hy142]; with_reducible exact H) | (have H2_ := (Option.bind_some _ _).symm.trans H; rw [hy142]; with_reducible exact H2_) | (have H2_ := (Option.bind_some _ _).symm.trans H; with_reducible exact H2_) | with_reducible exact H | (rw [hy142]; exact H) | exact H
      have Ny142 := Aside0.mk hy142
      clear hy142
      have H' := Aside0.mk H
      clear H
      go_enter Try.func54, Try.ntmps54
      go_wp2_with (first | ((with_reducible refine gate_dst (N := 7) rfl ?_); refine Kd.R_make Kd.c128 _ 31 rfl (N := 7) rfl 26 _ _ rfl (l0.length : Int) rfl rfl Try.underlying26 (.complex .f64 0 0) 16 info31 rfl (by decide) (by omega) (cx 0 0) (ok := fun _ => True) (okp := fun _ => True) rfl (fun _ hk => hk) trivial (of_decide_eq_true (by first | (with_reducible assumption) | assumption)) (Nat.le_trans (Nat.mul_le_mul_right _ (of_decide_eq_true (by first | (with_reducible assumption) | assumption) : (l0.length : Int).toNat ≤ 17592186044416)) (by omega)) (Below.refl _ _) (Nat.le_refl _) ?_; intro v143 w4 ho5 hb hg_ hnew_; clear hg_ hnew_; (first | rw [← Ny142.out] at ho5 | (simp only [Int.reduceToNat] at ho5; rw [← Ny142.out] at ho5)); have n0_ := Aside0.mk (Kd.R_lower ho5 (below_size (by repeat (first | (with_reducible first | exact HB.out | apply below_alloc | apply pw_below_drewN | apply below_drew1) | exact HB.out)))); have n1_ := Aside0.mk (below_step (by repeat (first | (with_reducible first | exact HB.out | apply below_alloc | apply pw_below_drewN | apply below_drew1) | exact HB.out)) hb); clear HB; have HO144 := n0_; have HB := n1_; clear n0_ n1_; clear hb ho5))
      go_loopg [10] k (fun kq v10 w' => ∃ (x3_1 : List Cx) (x10_1 : Int), v10 = .int .i64 x10_1 ∧ Aside0 (pylonlaw16_numbers.l0 kq l0 x3_1 (l0.length : Int) x10_1 = some r) ∧ Aside0 (kq ≤ k) ∧ Aside0 (Kd.R Kd.c128 31 w' w.heap.size (fun _ => True) v143 x3_1) ∧ Aside0 (Below w.heap.size w w'))
      case atStart => exact ⟨(y142), (0), (by first | rfl | (simp; done) | (simp [*]; done)), H', ⟨Nat.le_refl _⟩, ⟨by (with_reducible repeat (first | apply Kd.R_alloc | apply Kd.R_drewN | apply Kd.R_drew)); exact HO144.out⟩, ⟨by repeat (first | (with_reducible first | exact HB.out | apply below_alloc | apply pw_below_drewN | apply below_drew1) | exact HB.out)⟩⟩
      case round =>
        clear H'
        try clear c1
        try clear c2
        try clear c2b0
        try clear c2b1
        try clear p2
        try clear c3
        try clear c3b0
        try clear c3b1
        try clear c5
        obtain ⟨x3_1, x10_1, rfl, HA, HK1, HO_3, HB⟩ := hrel
        cases gk with
        | zero => exact absurd HA.out (by simp [pylonlaw16_numbers.l0])
        | succ k1 =>
          have H := HA.out
          clear HA
          simp only [pylonlaw16_numbers.l0] at H
          by_cases c6 : x10_1 < (l0.length : Int)
          · rw [if_pos c6] at H
            have c6b0 : decide (x10_1 < (l0.length : Int)) = true := decide_eq_true c6
            clear c6
            by_cases c7 : 0 ≤ x10_1
            · rw [if_pos c7] at H
              have c7b0 : decide (0 ≤ x10_1) = true := decide_eq_true c7
              clear c7
              by_cases c8 : x10_1 < (l0.length : Int)
              · rw [if_pos c8] at H
                have c8b0 : decide (x10_1 < (l0.length : Int)) = true := decide_eq_true c8
                clear c8
                replace H := Option.bind_eq_some_iff.mp H
                obtain ⟨t146, A90, H⟩ := H
                replace H : (if x10_1 < (x3_1.length : Int) then (pylonlaw16_numbers.l0 k1 l0 (x3_1.set (x10_1 : Int).toNat t146) (l0.length : Int) (wrap64 (x10_1 + 1))) else (none)) = some r := H
                have A9 := Aside0.mk A90
                clear A90
                by_cases c10 : x10_1 < (x3_1.length : Int)
                · rw [if_pos c10] at H
                  have c10b0 : decide (x10_1 < (x3_1.length : Int)) = true := decide_eq_true c10
                  clear c10
                  obtain ⟨y147, hy147⟩ : ∃ y_ : List Cx, y_ = (x3_1.set (x10_1 : Int).toNat t146) := ⟨_, rfl⟩
                  replace H : (pylonlaw16_numbers.l0 k1 l0 y147 (l0.length : Int) (wrap64 (x10_1 + 1))) = some r := by first | (rw [hy147]; with_reducible exact H) | (have H2_ := (Option.bind_some _ _).symm.trans H; rw [hy147]; with_reducible exact H2_) | (have H2_ := (Option.bind_some _ _).symm.trans H; with_reducible exact H2_) | with_reducible exact H | (rw [hy147]; exact H) | exact H
                  have Ny147 := Aside0.mk hy147
                  clear hy147
                  have H' := Aside0.mk H
                  clear H
                  have p145 : 0 ≤ (x10_1 : Int) := of_decide_eq_true (by first | (with_reducible assumption) | assumption)
                  have q145 : x10_1 < (l0.length : Int) := of_decide_eq_true (by first | (with_reducible assumption) | assumption)
                  obtain ⟨ad145, e145, hx145_0, hx145_1⟩ := at_T77 HR0.out x10_1 p145 q145
                  cases e145
                  replace hx145_0 := (HB.out.cell (World.block_lt_of_cell? w _ hx145_0)).trans hx145_0
                  replace hx145_1 := (HB.out.cell (World.block_lt_of_cell? w _ hx145_1)).trans hx145_1
                  replace p145 := eq_true p145
                  replace q145 := eq_true q145
                  go_wp2_with (first | ((with_reducible refine gate_callee (f := 45) rfl ?_); refine goesL_ (some 19) rfl rfl Try.func45 (by kernel_rfl) rfl #[.agg #[.float .f64 ((rd_T77 l0 x10_1).f0), .float .f64 ((rd_T77 l0 x10_1).f1)]] rfl (by (try simp only [List.map_toArray, List.map_cons, List.map_nil]); first | done | rfl | (simp only [List.length_drop, List.length_take]; rfl)) ?_; (with_reducible refine (pylonlaw16_Z_c.calls ((rd_T77 l0 x10_1).f0) ((rd_T77 l0 x10_1).f1) t146 _ A9.out).mono ?_); rintro e w12 ⟨rfl, hb⟩; refine ⟨_, rfl, ?_⟩; have n0_ := Aside0.mk (Kd.R_below (by (with_reducible repeat (first | apply Kd.R_alloc | apply Kd.R_drewN | apply Kd.R_drew)); exact HO_3.out) hb); have n1_ := Aside0.mk (below_step (by repeat (first | (with_reducible first | exact HB.out | apply below_alloc | apply pw_below_drewN | apply below_drew1) | exact HB.out)) hb); clear HO_3; clear HB; have HO_3 := n0_; have HB := n1_; clear n0_ n1_; (try clear hb); (try clear hb2); (try clear hk); (try clear hi); have p11 : 0 ≤ (x10_1 : Int) := of_decide_eq_true (by first | (with_reducible assumption) | assumption); have q11 : (x10_1 : Int) < ((x3_1.length : Int) : Int) := of_decide_eq_true (by first | (with_reducible assumption) | assumption); obtain ⟨go11, co11, eo11, gb11, gl11, cl11, HG11⟩ := Kd.R_form HO_3.out (by omega); (first | cases eo11 | (injection eo11 with ea_ en_ ec_; (first | subst ea_ | (injection ea_ with ea_; subst ea_)); subst ec_; clear en_)); have GB11 := Aside0.mk gb11; have GG11 := Aside0.mk HG11; clear gb11 gl11 HG11; obtain ⟨hx11_0, hf11_0⟩ := Kd.R_celln (cx 0 0) HO_3.out (x10_1 : Int) p11 q11; replace p11 := eq_true p11; replace q11 := eq_true q11; obtain ⟨hy13_, hz13_⟩ := Kd.R_celln (cx 0 0) HO_3.out (x10_1 : Int) (of_decide_eq_true (by first | (with_reducible assumption) | assumption)) (of_decide_eq_true (by first | (with_reducible assumption) | assumption)); have HP13 := Kd.R_putg HO_3.out (x10_1 : Int) t146) | ((with_reducible refine gate_store (t := 31) (p := 20) rfl ?_); refine store_event (t := 31) (p := 20) (v := ?vo_w14) (w1 := (w12.setCell ⟨go11, (x10_1 : Int).toNat, none⟩ (.complex .f64 t146.re t146.im))) ?hg ?ho ?hn ?hr ?_; (case ho => rfl); (case hg => rfl); (case hn => rfl); (case hr => first | (go_simp; done) | (go_simp; rfl)); intro w14 hw; have hg : w12.grownBy w14 (some go11) := (by rw [hw]; exact HP13.2); have hp_ : Kd.R Kd.c128 31 w14 w.heap.size (fun _ => True) (.slice (some ⟨go11, 0, none⟩) x3_1.length co11) y147 := (by rw [hw, Ny147.out]; exact HP13.1); clear HP13; have n0_ := Aside0.mk (hp_); have n1_ := Aside0.mk ((by rw [hw]; exact below_set (HB.out) GB11.out : Below w.heap.size w w14)); clear HO_3; clear HB; have HO_3 := n0_; have HB := n1_; clear n0_ n1_; clear hg hw hp_))
                  go_roundg k1
                  case measure => have := HK1.out; omega
                  case rel => exact ⟨(y147), (wrap64 (x10_1 + 1)), (by first | rfl | (simp; done) | (simp [*]; done)), H', ⟨by have := HK1.out; omega⟩, ⟨by (with_reducible repeat (first | apply Kd.R_alloc | apply Kd.R_drewN | apply Kd.R_drew)); exact HO_3.out⟩, ⟨by repeat (first | (with_reducible first | exact HB.out | apply below_alloc | apply pw_below_drewN | apply below_drew1) | exact HB.out)⟩⟩
                · rw [if_neg c10] at H
                  exact absurd H (by simp)
              · rw [if_neg c8] at H
                exact absurd H (by simp)
            · rw [if_neg c7] at H
              exact absurd H (by simp)
          · rw [if_neg c6] at H
            have c6b0 : decide (x10_1 < (l0.length : Int)) = false := decide_eq_false c6
            clear c6
            obtain rfl := Option.some.inj H
            go_wp2
            go_ret
            exact ⟨_, by first | rfl | (simp [errW_none, errW_some] <;> rfl) | (simp [*, errW_none, errW_some] <;> rfl), by (with_reducible repeat (first | apply Kd.R_alloc | apply Kd.R_drewN | apply Kd.R_drew)); exact HO_3.out, by repeat (first | (with_reducible first | exact HB.out | apply below_alloc | apply pw_below_drewN | apply below_drew1) | exact HB.out)⟩
    · rw [if_neg c3] at H
      exact absurd H (by simp)
  · rw [if_neg c2] at H
    exact absurd H (by simp)

/-! ### meter_whole: function 62 -/
def meter_whole.f (a0 : Nat) : Option (Bool) := (math_Abs.f a0).bind fun t148 => (if fle t148 4756540486875873280 = true then ((math_Trunc.f a0).bind fun t149 => (some (feq t149 a0))) else (some false))
set_option maxHeartbeats 8000000 in
set_option maxRecDepth 100000 in
theorem meter_whole.calls (a0 : Nat) (r : Bool) (w : World) (h : meter_whole.f a0 = some r) :
    Calls Try.prog 62 #[.float .f64 a0] w fun e w' => e = .returned (.bool r) ∧ Drawn0 w w' := by
  have H : ((math_Abs.f a0).bind fun t148 => (if fle t148 4756540486875873280 = true then ((math_Trunc.f a0).bind fun t149 => (some (feq t149 a0))) else (some false))) = some r := h
  clear h
  replace H := Option.bind_eq_some_iff.mp H
  obtain ⟨t148, A20, H⟩ := H
  replace H : (if fle t148 4756540486875873280 = true then ((math_Trunc.f a0).bind fun t149 => (some (feq t149 a0))) else (some false)) = some r := H
  have A2 := Aside0.mk A20
  clear A20
  by_cases c3 : fle t148 4756540486875873280 = true
  · rw [if_pos c3] at H
    have c3b0 : fle t148 4756540486875873280 = true := c3
    clear c3
    replace H := Option.bind_eq_some_iff.mp H
    obtain ⟨t149, A40, H⟩ := H
    replace H : (some (feq t149 a0)) = some r := H
    have A4 := Aside0.mk A40
    clear A40
    obtain rfl := Option.some.inj H
    go_enter Try.func62, Try.ntmps62
    go_wp2_with (first | ((with_reducible refine gate_callee (f := 82) rfl ?_); refine goesL_ (some 4) rfl rfl Try.func82 (by kernel_rfl) rfl #[.float .f64 a0] rfl (by (try simp only [List.map_toArray, List.map_cons, List.map_nil]); first | done | rfl | (simp only [List.length_drop, List.length_take]; rfl)) ?_; (with_reducible refine (math_Abs.calls a0 t148 _ A2.out).mono ?_); rintro e w' ⟨rfl, ⟨nd, rfl⟩⟩; refine ⟨_, rfl, ?_⟩) | (go_at_call 66; (with_reducible refine (math_Trunc.calls a0 t149 _ A4.out).mono ?_); rintro e w' ⟨rfl, ⟨nd, rfl⟩⟩))
    go_ret
    exact ⟨by first | rfl | (simp; done) | (simp [*]; done), by repeat (first | exact Drawn0.refl _ | apply Drawn0.step)⟩
  · rw [if_neg c3] at H
    have c3b0 : fle t148 4756540486875873280 = false := Bool.eq_false_iff.mpr c3
    clear c3
    obtain rfl := Option.some.inj H
    go_enter Try.func62, Try.ntmps62
    go_wp2_with (first | ((with_reducible refine gate_callee (f := 82) rfl ?_); refine goesL_ (some 4) rfl rfl Try.func82 (by kernel_rfl) rfl #[.float .f64 a0] rfl (by (try simp only [List.map_toArray, List.map_cons, List.map_nil]); first | done | rfl | (simp only [List.length_drop, List.length_take]; rfl)) ?_; (with_reducible refine (math_Abs.calls a0 t148 _ A2.out).mono ?_); rintro e w' ⟨rfl, ⟨nd, rfl⟩⟩; refine ⟨_, rfl, ?_⟩))
    go_ret
    exact ⟨by first | rfl | (simp; done) | (simp [*]; done), by repeat (first | exact Drawn0.refl _ | apply Drawn0.step)⟩

/-! ### meter_Fits: function 29 -/
def meter_Fits.f (a0 : Cx) : Option (Bool) := (meter_whole.f a0.re).bind fun t150 => (if t150 = true then ((meter_whole.f a0.im).bind fun t151 => (some t151)) else (some false))
set_option maxHeartbeats 8000000 in
set_option maxRecDepth 100000 in
theorem meter_Fits.calls (a0 : Cx) (r : Bool) (w : World) (h : meter_Fits.f a0 = some r) :
    Calls Try.prog 29 #[.complex .f64 a0.re a0.im] w fun e w' => e = .returned (.bool r) ∧ Below w.heap.size w w' := by
  have HB := Aside0.mk (Below.refl w.heap.size w)
  have H : ((meter_whole.f a0.re).bind fun t150 => (if t150 = true then ((meter_whole.f a0.im).bind fun t151 => (some t151)) else (some false))) = some r := h
  clear h
  replace H := Option.bind_eq_some_iff.mp H
  obtain ⟨t150, A20, H⟩ := H
  replace H : (if t150 = true then ((meter_whole.f a0.im).bind fun t151 => (some t151)) else (some false)) = some r := H
  have A2 := Aside0.mk A20
  clear A20
  by_cases c3 : t150 = true
  · subst c3
    have H1 : ((meter_whole.f a0.im).bind fun t151 => (some t151)) = some r := by rw [if_pos rfl] at H; exact H
    clear H
    have H := H1
    clear H1
    replace H := Option.bind_eq_some_iff.mp H
    obtain ⟨t151, A40, H⟩ := H
    replace H : (some t151) = some r := H
    have A4 := Aside0.mk A40
    clear A40
    obtain rfl := Option.some.inj H
    go_enter Try.func29, Try.ntmps29
    go_wp2_with (first | ((with_reducible refine gate_callee (f := 62) rfl ?_); refine goesL_ (some 5) rfl rfl Try.func62 (by kernel_rfl) rfl #[.float .f64 a0.re] rfl (by (try simp only [List.map_toArray, List.map_cons, List.map_nil]); first | done | rfl | (simp only [List.length_drop, List.length_take]; rfl)) ?_; (with_reducible refine (meter_whole.calls a0.re true _ A2.out).mono ?_); rintro e w' ⟨rfl, ⟨nd, rfl⟩⟩; refine ⟨_, rfl, ?_⟩) | (go_at_call 62; (with_reducible refine (meter_whole.calls a0.im t151 _ A4.out).mono ?_); rintro e w' ⟨rfl, ⟨nd, rfl⟩⟩))
    go_ret
    exact ⟨by first | rfl | (simp [errW_none, errW_some] <;> rfl) | (simp [*, errW_none, errW_some] <;> rfl), by repeat (first | (with_reducible first | exact HB.out | apply below_alloc | apply pw_below_drewN | apply below_drew1) | exact HB.out)⟩
  · replace c3 := Bool.eq_false_iff.mpr c3
    subst c3
    have H1 : (some false) = some r := by rw [if_neg (show ¬ (false = true) by decide)] at H; exact H
    clear H
    have H := H1
    clear H1
    obtain rfl := Option.some.inj H
    go_enter Try.func29, Try.ntmps29
    go_wp2_with (first | ((with_reducible refine gate_callee (f := 62) rfl ?_); refine goesL_ (some 5) rfl rfl Try.func62 (by kernel_rfl) rfl #[.float .f64 a0.re] rfl (by (try simp only [List.map_toArray, List.map_cons, List.map_nil]); first | done | rfl | (simp only [List.length_drop, List.length_take]; rfl)) ?_; (with_reducible refine (meter_whole.calls a0.re false _ A2.out).mono ?_); rintro e w' ⟨rfl, ⟨nd, rfl⟩⟩; refine ⟨_, rfl, ?_⟩))
    go_ret
    exact ⟨by first | rfl | (simp [errW_none, errW_some] <;> rfl) | (simp [*, errW_none, errW_some] <;> rfl), by repeat (first | (with_reducible first | exact HB.out | apply below_alloc | apply pw_below_drewN | apply below_drew1) | exact HB.out)⟩

/-! ### demand_Peak: function 56 -/
mutual
def demand_Peak.l0 : Nat → List Cx → Int → Int → List (S90) → List Cx → Int → Int → Option (Int × Int)
  | 0, _, _, _, _, _, _, _ => none
  | k + 1, x0, x2, x3, x14, x45, x46, x47 => if x47 < x46 then (if 0 ≤ x47 then (if x47 < (x45.length : Int) then ((meter_Fits.f (rdOf (cx 0 0) x45 x47)).bind fun t161 => (if t161 = true then (demand_Peak.l0 k x0 x2 x3 x14 x45 x46 (wrap64 (x47 + 1))) else (some (0, 5)))) else (none)) else (none)) else (demand_Peak.l1 k x0 x2 x3 0 x14 (x14.length : Int) 0)
def demand_Peak.l1 : Nat → List Cx → Int → Int → Int → List (S90) → Int → Int → Option (Int × Int)
  | 0, _, _, _, _, _, _, _ => none
  | k + 1, x0, x2, x3, x18, x55, x56, x57 => if x57 < x56 then (if 0 ≤ x57 then (if x57 < (x55.length : Int) then (if 0 ≤ ((rd_T90 x55 x57).f0) then (if ((rd_T90 x55 x57).f0) ≤ ((rd_T90 x55 x57).f1) then (if ((rd_T90 x55 x57).f1) ≤ (x0.length : Int) then ((some ((x0.take (((rd_T90 x55 x57).f1) : Int).toNat).drop (((rd_T90 x55 x57).f0) : Int).toNat : List Cx)).bind fun y164 => (demand_Peak.l2 k x0 x2 x3 x18 (cx 0 0) x55 x56 x57 y164 (y164.length : Int) 0)) else (none)) else (none)) else (none)) else (none)) else (none)) else (some (x18, 0))
def demand_Peak.l2 : Nat → List Cx → Int → Int → Int → Cx → List (S90) → Int → Int → List Cx → Int → Int → Option (Int × Int)
  | 0, _, _, _, _, _, _, _, _, _, _, _ => none
  | k + 1, x0, x2, x3, x18, x21, x55, x56, x57, x66, x67, x68 => if x68 < x67 then (if 0 ≤ x68 then (if x68 < (x66.length : Int) then (if caddok x21.re x21.im (rdOf (cx 0 0) x66 x68).re (rdOf (cx 0 0) x66 x68).im = true then (demand_Peak.l2 k x0 x2 x3 x18 (cx (caddre x21.re x21.im (rdOf (cx 0 0) x66 x68).re (rdOf (cx 0 0) x66 x68).im) (caddim x21.re x21.im (rdOf (cx 0 0) x66 x68).re (rdOf (cx 0 0) x66 x68).im)) x55 x56 x57 x66 x67 (wrap64 (x68 + 1))) else (none)) else (none)) else (none)) else ((demand_Power.f k x21 (mx x2 x3)).bind fun bt169 => (demand_Peak.l1 k x0 x2 x3 (mx x18 bt169.1) x55 x56 (wrap64 (x57 + 1))))
end
def demand_Peak.f (k : Nat) (l0 : List Cx) (a1 : Int) (a2 : Int) (a3 : Int) (a4 : Int) (a5 : Int) : Option (Int × Int) := (demand_Whole.f k a1 a2 a3 a4 a5).bind fun bt152 => (if bt152.2 = 0 then (if a5 > (l0.length : Int) then (some (0, 8)) else (if 0 ≤ a4 then (if a4 ≤ a5 then (if a5 ≤ (l0.length : Int) then ((some ((l0.take (a5 : Int).toNat).drop (a4 : Int).toNat : List Cx)).bind fun y156 => (demand_Peak.l0 k l0 a2 a3 bt152.1 y156 (y156.length : Int) 0)) else (none)) else (none)) else (none))) else (some (0, bt152.2)))
theorem demand_Peak.mono_l : ∀ k, (∀ y0 y1 y2 y3 y4 y5 y6, LeO (demand_Peak.l0 k y0 y1 y2 y3 y4 y5 y6) (demand_Peak.l0 (k + 1) y0 y1 y2 y3 y4 y5 y6)) ∧ (∀ y0 y1 y2 y3 y4 y5 y6, LeO (demand_Peak.l1 k y0 y1 y2 y3 y4 y5 y6) (demand_Peak.l1 (k + 1) y0 y1 y2 y3 y4 y5 y6)) ∧ (∀ y0 y1 y2 y3 y4 y5 y6 y7 y8 y9 y10, LeO (demand_Peak.l2 k y0 y1 y2 y3 y4 y5 y6 y7 y8 y9 y10) (demand_Peak.l2 (k + 1) y0 y1 y2 y3 y4 y5 y6 y7 y8 y9 y10))
  | 0 => ⟨fun _ _ _ _ _ _ _ r h => by simp [demand_Peak.l0] at h, fun _ _ _ _ _ _ _ r h => by simp [demand_Peak.l1] at h, fun _ _ _ _ _ _ _ _ _ _ _ r h => by simp [demand_Peak.l2] at h⟩
  | k + 1 => by
    obtain ⟨ih0, ih1, ih2⟩ := demand_Peak.mono_l k
    refine ⟨?_, ?_, ?_⟩
    · intro y0 y1 y2 y3 y4 y5 y6
      unfold demand_Peak.l0
      repeat' first
      | (with_reducible exact ih0 _ _ _ _ _ _ _)
      | (with_reducible exact ih1 _ _ _ _ _ _ _)
      | (with_reducible exact ih2 _ _ _ _ _ _ _ _ _ _ _)
      | (with_reducible exact demand_Power.mono _ _ _)
      | (with_reducible exact demand_Whole.mono _ _ _ _ _ _)
      | (with_reducible exact LeO.refl _)
      | (with_reducible exact LeO.none _)
      | (with_reducible refine LeO.ite ?_ ?_)
      | (with_reducible refine LeO.bind ?_ (fun _ => ?_))
      | exact ih0 _ _ _ _ _ _ _
      | exact ih1 _ _ _ _ _ _ _
      | exact ih2 _ _ _ _ _ _ _ _ _ _ _
      | exact demand_Power.mono _ _ _
      | exact demand_Whole.mono _ _ _ _ _ _
      | exact LeO.none _
      | refine LeO.ite ?_ ?_
      | refine LeO.bind ?_ (fun _ => ?_)
    · intro y0 y1 y2 y3 y4 y5 y6
      unfold demand_Peak.l1
      repeat' first
      | (with_reducible exact ih0 _ _ _ _ _ _ _)
      | (with_reducible exact ih1 _ _ _ _ _ _ _)
      | (with_reducible exact ih2 _ _ _ _ _ _ _ _ _ _ _)
      | (with_reducible exact demand_Power.mono _ _ _)
      | (with_reducible exact demand_Whole.mono _ _ _ _ _ _)
      | (with_reducible exact LeO.refl _)
      | (with_reducible exact LeO.none _)
      | (with_reducible refine LeO.ite ?_ ?_)
      | (with_reducible refine LeO.bind ?_ (fun _ => ?_))
      | exact ih0 _ _ _ _ _ _ _
      | exact ih1 _ _ _ _ _ _ _
      | exact ih2 _ _ _ _ _ _ _ _ _ _ _
      | exact demand_Power.mono _ _ _
      | exact demand_Whole.mono _ _ _ _ _ _
      | exact LeO.none _
      | refine LeO.ite ?_ ?_
      | refine LeO.bind ?_ (fun _ => ?_)
    · intro y0 y1 y2 y3 y4 y5 y6 y7 y8 y9 y10
      unfold demand_Peak.l2
      repeat' first
      | (with_reducible exact ih0 _ _ _ _ _ _ _)
      | (with_reducible exact ih1 _ _ _ _ _ _ _)
      | (with_reducible exact ih2 _ _ _ _ _ _ _ _ _ _ _)
      | (with_reducible exact demand_Power.mono _ _ _)
      | (with_reducible exact demand_Whole.mono _ _ _ _ _ _)
      | (with_reducible exact LeO.refl _)
      | (with_reducible exact LeO.none _)
      | (with_reducible refine LeO.ite ?_ ?_)
      | (with_reducible refine LeO.bind ?_ (fun _ => ?_))
      | exact ih0 _ _ _ _ _ _ _
      | exact ih1 _ _ _ _ _ _ _
      | exact ih2 _ _ _ _ _ _ _ _ _ _ _
      | exact demand_Power.mono _ _ _
      | exact demand_Whole.mono _ _ _ _ _ _
      | exact LeO.none _
      | refine LeO.ite ?_ ?_
      | refine LeO.bind ?_ (fun _ => ?_)
theorem demand_Peak.mono : ∀ a0 a1 a2 a3 a4 a5 k, LeO (demand_Peak.f k a0 a1 a2 a3 a4 a5) (demand_Peak.f (k + 1) a0 a1 a2 a3 a4 a5) := by
  intro a0 a1 a2 a3 a4 a5 k
  obtain ⟨ih0, ih1, ih2⟩ := demand_Peak.mono_l k
  unfold demand_Peak.f
  repeat' first
      | (with_reducible exact ih0 _ _ _ _ _ _ _)
      | (with_reducible exact ih1 _ _ _ _ _ _ _)
      | (with_reducible exact ih2 _ _ _ _ _ _ _ _ _ _ _)
      | (with_reducible exact demand_Power.mono _ _ _)
      | (with_reducible exact demand_Whole.mono _ _ _ _ _ _)
      | (with_reducible exact LeO.refl _)
      | (with_reducible exact LeO.none _)
      | (with_reducible refine LeO.ite ?_ ?_)
      | (with_reducible refine LeO.bind ?_ (fun _ => ?_))
      | exact ih0 _ _ _ _ _ _ _
      | exact ih1 _ _ _ _ _ _ _
      | exact ih2 _ _ _ _ _ _ _ _ _ _ _
      | exact demand_Power.mono _ _ _
      | exact demand_Whole.mono _ _ _ _ _ _
      | exact LeO.none _
      | refine LeO.ite ?_ ?_
      | refine LeO.bind ?_ (fun _ => ?_)
set_option maxHeartbeats 8000000 in
set_option maxRecDepth 100000 in
theorem demand_Peak.calls (k : Nat) (A0 : Option Addr) (c0 : Nat) (l0 : List Cx) (a1 : Int) (a2 : Int) (a3 : Int) (a4 : Int) (a5 : Int) (r1 : Int) (r2 : Int) (w : World) (hr0 : Kd.C Kd.c128 w A0 l0.length l0) (hc0 : l0.length ≤ c0) (h : demand_Peak.f k l0 a1 a2 a3 a4 a5 = some (r1, r2)) :
    Calls Try.prog 56 #[.slice A0 l0.length c0, .int .i64 a1, .int .i64 a2, .int .i64 a3, .int .i64 a4, .int .i64 a5] w fun e w' => e = .returned (.tuple #[.int .i64 r1, .int .i64 r2]) ∧ Below w.heap.size w w' := by
  have hu90 := Try.underlying90
  have HR0 := Aside0.mk hr0
  have HC0 := Aside0.mk hc0
  clear hr0 hc0
  have HB := Aside0.mk (Below.refl w.heap.size w)
  have H : ((demand_Whole.f k a1 a2 a3 a4 a5).bind fun bt152 => (if bt152.2 = 0 then (if a5 > (l0.length : Int) then (some (0, 8)) else (if 0 ≤ a4 then (if a4 ≤ a5 then (if a5 ≤ (l0.length : Int) then ((some ((l0.take (a5 : Int).toNat).drop (a4 : Int).toNat : List Cx)).bind fun y156 => (demand_Peak.l0 k l0 a2 a3 bt152.1 y156 (y156.length : Int) 0)) else (none)) else (none)) else (none))) else (some (0, bt152.2)))) = some (r1, r2) := h
  clear h
  replace H := Option.bind_eq_some_iff.mp H
  obtain ⟨⟨t152, t153⟩, A70, H⟩ := H
  replace H : (if t153 = 0 then (if a5 > (l0.length : Int) then (some (0, 8)) else (if 0 ≤ a4 then (if a4 ≤ a5 then (if a5 ≤ (l0.length : Int) then ((some ((l0.take (a5 : Int).toNat).drop (a4 : Int).toNat : List Cx)).bind fun y156 => (demand_Peak.l0 k l0 a2 a3 t152 y156 (y156.length : Int) 0)) else (none)) else (none)) else (none))) else (some (0, t153))) = some (r1, r2) := H
  have A7 := Aside0.mk A70
  clear A70
  by_cases c8 : t153 = 0
  · rw [if_pos c8] at H
    have c8b0 : (t153 == 0) = true := beq_iff_eq.mpr c8
    have c8b1 : (t153 != 0) = false := bne_eq_false_iff_eq.mpr c8
    clear c8
    by_cases c9 : a5 > (l0.length : Int)
    · rw [if_pos c9] at H
      have c9b0 : decide ((l0.length : Int) < a5) = true := decide_eq_true c9
      clear c9
      simp only [Option.some.injEq, Prod.mk.injEq] at H
      obtain ⟨rfl, rfl⟩ := H
      go_enter Try.func56, Try.ntmps56
      go_wp2_with (first | ((with_reducible refine gate_callee (f := 49) rfl ?_); refine goesL_ (some 32) rfl rfl Try.func49 (by kernel_rfl) rfl #[.int .i64 a1, .int .i64 a2, .int .i64 a3, .int .i64 a4, .int .i64 a5] rfl (by (try simp only [List.map_toArray, List.map_cons, List.map_nil]); first | done | rfl | (simp only [List.length_drop, List.length_take]; rfl)) ?_; (with_reducible refine (demand_Whole.calls k a1 a2 a3 a4 a5 t152 t153 _ A7.out).mono ?_); rintro e w10 ⟨v154, rfl, ho0, hb⟩; refine ⟨_, rfl, ?_⟩; have n0_ := Aside0.mk (Kd.R_lower ho0 (below_size (by repeat (first | (with_reducible first | exact HB.out | apply below_alloc | apply pw_below_drewN | apply below_drew1) | exact HB.out)))); have n1_ := Aside0.mk (below_step (by repeat (first | (with_reducible first | exact HB.out | apply below_alloc | apply pw_below_drewN | apply below_drew1) | exact HB.out)) hb); clear HB; have HO155 := n0_; have HB := n1_; clear n0_ n1_; (try clear hb); (try clear hb2); (try clear hk); (try clear hi); (try clear ho0)))
      go_ret2
      exact ⟨by first | rfl | (simp [errW_none, errW_some] <;> rfl) | (simp [*, errW_none, errW_some] <;> rfl), by repeat (first | (with_reducible first | exact HB.out | apply below_alloc | apply pw_below_drewN | apply below_drew1) | exact HB.out)⟩
    · rw [if_neg c9] at H
      have c9b0 : decide ((l0.length : Int) < a5) = false := decide_eq_false c9
      clear c9
      by_cases c11 : 0 ≤ a4
      · rw [if_pos c11] at H
        have c11b0 := eq_true c11
        have c11b1 : decide (0 ≤ a4) = true := decide_eq_true c11
        clear c11
        by_cases c12 : a4 ≤ a5
        · rw [if_pos c12] at H
          have c12b0 := eq_true c12
          have c12b1 : decide (a4 ≤ a5) = true := decide_eq_true c12
          clear c12
          by_cases c13 : a5 ≤ (l0.length : Int)
          · rw [if_pos c13] at H
            have c13b0 := eq_true c13
            have c13b1 : decide (a5 ≤ (l0.length : Int)) = true := decide_eq_true c13
            clear c13
            obtain ⟨y156, hy156⟩ : ∃ y_ : List Cx, y_ = ((l0.take (a5 : Int).toNat).drop (a4 : Int).toNat) := ⟨_, rfl⟩
            replace H : (demand_Peak.l0 k l0 a2 a3 t152 y156 (y156.length : Int) 0) = some (r1, r2) := by first | (rw [hy156]; with_reducible exact H) | (have H2_ := (Option.bind_some _ _).symm.trans H; rw [hy156]; with_reducible exact H2_) | (have H2_ := (Option.bind_some _ _).symm.trans H; with_reducible exact H2_) | with_reducible exact H | (rw [hy156]; exact H) | exact H
            have Ny156 := Aside0.mk hy156
            clear hy156
            have H' := Aside0.mk H
            clear H
            go_enter Try.func56, Try.ntmps56
            go_wp2_with (first | ((with_reducible refine gate_callee (f := 49) rfl ?_); refine goesL_ (some 32) rfl rfl Try.func49 (by kernel_rfl) rfl #[.int .i64 a1, .int .i64 a2, .int .i64 a3, .int .i64 a4, .int .i64 a5] rfl (by (try simp only [List.map_toArray, List.map_cons, List.map_nil]); first | done | rfl | (simp only [List.length_drop, List.length_take]; rfl)) ?_; (with_reducible refine (demand_Whole.calls k a1 a2 a3 a4 a5 t152 t153 _ A7.out).mono ?_); rintro e w14 ⟨v154, rfl, ho0, hb⟩; refine ⟨_, rfl, ?_⟩; have n0_ := Aside0.mk (Kd.R_lower ho0 (below_size (by repeat (first | (with_reducible first | exact HB.out | apply below_alloc | apply pw_below_drewN | apply below_drew1) | exact HB.out)))); have n1_ := Aside0.mk (below_step (by repeat (first | (with_reducible first | exact HB.out | apply below_alloc | apply pw_below_drewN | apply below_drew1) | exact HB.out)) hb); clear HB; have HO155 := n0_; have HB := n1_; clear n0_ n1_; (try clear hb); (try clear hb2); (try clear hk); (try clear hi); (try clear ho0); have q15 : (a5 : Int) ≤ ((l0.length : Int) : Int) := of_decide_eq_true (by first | (with_reducible assumption) | assumption); obtain ⟨i015, hi015, _, hsz15, _⟩ := info_parts info31; have hroom15 : l0.length ≤ c0 := HC0.out; have hC15 : Kd.C Kd.c128 _ A0 l0.length l0 := HR0.out; have ql15 : (a4 : Int) ≤ (a5 : Int) := of_decide_eq_true (by first | (with_reducible assumption) | assumption); have q015 : (0 : Int) ≤ (a4 : Int) := of_decide_eq_true (by first | (with_reducible assumption) | assumption); have hcut15 := cut_mid (P := Try.prog) 26 31 .i64 .i64 Try.underlying26 hi015 1 hsz15 A0 l0.length c0 a4 a5 q015 ql15 q15 hroom15; have hr15 := Kd.C_mid (lo := (a4 : Int).toNat) (hi := (a5 : Int).toNat) (c := c0) hC15 (by omega) (by omega) hroom15; obtain ⟨A15, hA15⟩ : ∃ A1, A1 = (if c0 = (a4 : Int).toNat then A0 else (A0 : Option Addr).map (·.add ((a4 : Int).toNat * 1))) := ⟨_, rfl⟩; obtain ⟨c15, hc15⟩ : ∃ c1, c1 = c0 - (a4 : Int).toNat := ⟨_, rfl⟩; have hy15 : y156.length = (a5 : Int).toNat - (a4 : Int).toNat := (by rw [Ny156.out, List.length_drop, List.length_take] <;> omega); rw [show ((l0).take (a5 : Int).toNat).drop (a4 : Int).toNat = y156 from Ny156.out.symm] at hr15; replace hr15 : Kd.C Kd.c128 _ A15 y156.length y156 := (by rw [hA15]; exact hr15); rw [← hy15, ← hA15, ← hc15] at hcut15; have HR159 := Aside0.mk hr15; have HC159 := Aside0.mk (show y156.length ≤ c15 from by rw [hy15, hc15]; exact Nat.sub_le_sub_right (Nat.le_trans (by omega) hroom15) _); clear hr15 hC15 hroom15 hi015 hsz15 hc15; have KY15 := Aside0.mk hy15; have KA15 := Aside0.mk hA15; clear hy15 hA15; replace q15 := eq_true q15))
            go_loopg [47] k (fun kq v47 w' => ∃ (x47_1 : Int), v47 = .int .i64 x47_1 ∧ Aside0 (demand_Peak.l0 kq l0 a2 a3 t152 y156 (y156.length : Int) x47_1 = some (r1, r2)) ∧ Aside0 (kq ≤ k) ∧ Aside0 (Kd.R k90 90 w' w.heap.size (fun _ => True) v154 t152) ∧ Aside0 (Below w.heap.size w w'))
            case atStart => exact ⟨(0), (by first | rfl | (simp; done) | (simp [*]; done)), H', ⟨Nat.le_refl _⟩, ⟨by (with_reducible repeat (first | apply Kd.R_alloc | apply Kd.R_drewN | apply Kd.R_drew)); exact HO155.out⟩, ⟨by repeat (first | (with_reducible first | exact HB.out | apply below_alloc | apply pw_below_drewN | apply below_drew1) | exact HB.out)⟩⟩
            case round =>
              clear H'
              try clear c1
              try clear q1
              try clear p2
              try clear c4
              try clear c5
              try clear c8
              try clear c8b0
              try clear c8b1
              try clear c9
              try clear c9b0
              try clear c11
              try clear c11b0
              try clear c11b1
              try clear c12
              try clear c12b0
              try clear c12b1
              try clear c13
              try clear c13b0
              try clear c13b1
              try clear c15
              try clear q15
              try clear q015
              try clear q15
              obtain ⟨x47_1, rfl, HA, HK1, HO_14, HB⟩ := hrel
              cases gk with
              | zero => exact absurd HA.out (by simp [demand_Peak.l0])
              | succ k1 =>
                have H := HA.out
                clear HA
                simp only [demand_Peak.l0] at H
                by_cases c16 : x47_1 < (y156.length : Int)
                · rw [if_pos c16] at H
                  have c16b0 : decide (x47_1 < (y156.length : Int)) = true := decide_eq_true c16
                  clear c16
                  by_cases c17 : 0 ≤ x47_1
                  · rw [if_pos c17] at H
                    have c17b0 : decide (0 ≤ x47_1) = true := decide_eq_true c17
                    clear c17
                    by_cases c18 : x47_1 < (y156.length : Int)
                    · rw [if_pos c18] at H
                      have c18b0 : decide (x47_1 < (y156.length : Int)) = true := decide_eq_true c18
                      clear c18
                      replace H := Option.bind_eq_some_iff.mp H
                      obtain ⟨t161, A190, H⟩ := H
                      replace H : (if t161 = true then (demand_Peak.l0 k1 l0 a2 a3 t152 y156 (y156.length : Int) (wrap64 (x47_1 + 1))) else (some (0, 5))) = some (r1, r2) := H
                      have A19 := Aside0.mk A190
                      clear A190
                      by_cases c20 : t161 = true
                      · subst c20
                        have H1 : (demand_Peak.l0 k1 l0 a2 a3 t152 y156 (y156.length : Int) (wrap64 (x47_1 + 1))) = some (r1, r2) := by rw [if_pos rfl] at H; exact H
                        clear H
                        have H := H1
                        clear H1
                        have H' := Aside0.mk H
                        clear H
                        have p160 : 0 ≤ (x47_1 : Int) := of_decide_eq_true (by first | (with_reducible assumption) | assumption)
                        have q160 : x47_1 < (y156.length : Int) := of_decide_eq_true (by first | (with_reducible assumption) | assumption)
                        obtain ⟨ad160, e160, hx160_0⟩ := Kd.at_c128 HR159.out x47_1 p160 q160
                        cases e160
                        replace hx160_0 := (HB.out.cell (World.block_lt_of_cell? w _ hx160_0)).trans hx160_0
                        replace p160 := eq_true p160
                        replace q160 := eq_true q160
                        go_wp2_with (first | ((with_reducible refine gate_callee (f := 29) rfl ?_); refine goesL_ (some 52) rfl rfl Try.func29 (by kernel_rfl) rfl #[.complex .f64 (rdOf (cx 0 0) y156 x47_1).re (rdOf (cx 0 0) y156 x47_1).im] rfl (by (try simp only [List.map_toArray, List.map_cons, List.map_nil]); first | done | rfl | (simp only [List.length_drop, List.length_take]; rfl)) ?_; (with_reducible refine (meter_Fits.calls (rdOf (cx 0 0) y156 x47_1) true _ A19.out).mono ?_); rintro e w21 ⟨rfl, hb⟩; refine ⟨_, rfl, ?_⟩; have n0_ := Aside0.mk (Kd.R_below (by (with_reducible repeat (first | apply Kd.R_alloc | apply Kd.R_drewN | apply Kd.R_drew)); exact HO_14.out) hb); have n1_ := Aside0.mk (below_step (by repeat (first | (with_reducible first | exact HB.out | apply below_alloc | apply pw_below_drewN | apply below_drew1) | exact HB.out)) hb); clear HO_14; clear HB; have HO_14 := n0_; have HB := n1_; clear n0_ n1_; (try clear hb); (try clear hb2); (try clear hk); (try clear hi)))
                        go_roundg k1
                        case measure => have := HK1.out; omega
                        case rel => exact ⟨(wrap64 (x47_1 + 1)), (by first | rfl | (simp; done) | (simp [*]; done)), H', ⟨by have := HK1.out; omega⟩, ⟨by (with_reducible repeat (first | apply Kd.R_alloc | apply Kd.R_drewN | apply Kd.R_drew)); exact HO_14.out⟩, ⟨by repeat (first | (with_reducible first | exact HB.out | apply below_alloc | apply pw_below_drewN | apply below_drew1) | exact HB.out)⟩⟩
                      · replace c20 := Bool.eq_false_iff.mpr c20
                        subst c20
                        have H1 : (some (0, 5)) = some (r1, r2) := by rw [if_neg (show ¬ (false = true) by decide)] at H; exact H
                        clear H
                        have H := H1
                        clear H1
                        simp only [Option.some.injEq, Prod.mk.injEq] at H
                        obtain ⟨rfl, rfl⟩ := H
                        have p160 : 0 ≤ (x47_1 : Int) := of_decide_eq_true (by first | (with_reducible assumption) | assumption)
                        have q160 : x47_1 < (y156.length : Int) := of_decide_eq_true (by first | (with_reducible assumption) | assumption)
                        obtain ⟨ad160, e160, hx160_0⟩ := Kd.at_c128 HR159.out x47_1 p160 q160
                        cases e160
                        replace hx160_0 := (HB.out.cell (World.block_lt_of_cell? w _ hx160_0)).trans hx160_0
                        replace p160 := eq_true p160
                        replace q160 := eq_true q160
                        go_wp2_with (first | ((with_reducible refine gate_callee (f := 29) rfl ?_); refine goesL_ (some 52) rfl rfl Try.func29 (by kernel_rfl) rfl #[.complex .f64 (rdOf (cx 0 0) y156 x47_1).re (rdOf (cx 0 0) y156 x47_1).im] rfl (by (try simp only [List.map_toArray, List.map_cons, List.map_nil]); first | done | rfl | (simp only [List.length_drop, List.length_take]; rfl)) ?_; (with_reducible refine (meter_Fits.calls (rdOf (cx 0 0) y156 x47_1) false _ A19.out).mono ?_); rintro e w22 ⟨rfl, hb⟩; refine ⟨_, rfl, ?_⟩; have n0_ := Aside0.mk (Kd.R_below (by (with_reducible repeat (first | apply Kd.R_alloc | apply Kd.R_drewN | apply Kd.R_drew)); exact HO_14.out) hb); have n1_ := Aside0.mk (below_step (by repeat (first | (with_reducible first | exact HB.out | apply below_alloc | apply pw_below_drewN | apply below_drew1) | exact HB.out)) hb); clear HO_14; clear HB; have HO_14 := n0_; have HB := n1_; clear n0_ n1_; (try clear hb); (try clear hb2); (try clear hk); (try clear hi)))
                        go_ret2
                        exact ⟨by first | rfl | (simp [errW_none, errW_some] <;> rfl) | (simp [*, errW_none, errW_some] <;> rfl), by repeat (first | (with_reducible first | exact HB.out | apply below_alloc | apply pw_below_drewN | apply below_drew1) | exact HB.out)⟩
                    · rw [if_neg c18] at H
                      exact absurd H (by simp)
                  · rw [if_neg c17] at H
                    exact absurd H (by simp)
                · rw [if_neg c16] at H
                  have c16b0 : decide (x47_1 < (y156.length : Int)) = false := decide_eq_false c16
                  clear c16
                  have H' := Aside0.mk H
                  clear H
                  obtain ⟨Ao23, co23, eo23⟩ := Kd.R_slice HO_14.out
                  subst eo23
                  go_wp2
                  go_loopg [18, 57] k1 (fun kq v18 v57 w' => ∃ (x18_2 : Int) (x57_2 : Int), v18 = .int .i64 x18_2 ∧ v57 = .int .i64 x57_2 ∧ Aside0 (demand_Peak.l1 kq l0 a2 a3 x18_2 t152 (t152.length : Int) x57_2 = some (r1, r2)) ∧ Aside0 (kq ≤ k1) ∧ Aside0 (Kd.R k90 90 w' w.heap.size (fun _ => True) (.slice Ao23 t152.length co23) t152) ∧ Aside0 (Below w.heap.size w w'))
                  case atStart => exact ⟨(0), (0), (by first | rfl | (simp; done) | (simp [*]; done)), (by first | rfl | (simp; done) | (simp [*]; done)), H', ⟨Nat.le_refl _⟩, ⟨by (with_reducible repeat (first | apply Kd.R_alloc | apply Kd.R_drewN | apply Kd.R_drew)); exact HO_14.out⟩, ⟨by repeat (first | (with_reducible first | exact HB.out | apply below_alloc | apply pw_below_drewN | apply below_drew1) | exact HB.out)⟩⟩
                  case round =>
                    clear H'
                    try clear c1
                    try clear p1
                    try clear q1
                    try clear hx1
                    try clear c2
                    try clear p2
                    try clear c4
                    try clear c5
                    try clear p6
                    try clear c8
                    try clear c8b0
                    try clear c8b1
                    try clear c9
                    try clear c9b0
                    try clear c11
                    try clear c11b0
                    try clear c11b1
                    try clear c12
                    try clear c12b0
                    try clear c12b1
                    try clear c13
                    try clear c13b0
                    try clear c13b1
                    try clear c15
                    try clear q15
                    try clear c16
                    try clear c16b0
                    try clear p16
                    try clear q16
                    try clear hx16
                    try clear c17
                    try clear c17b0
                    try clear c18
                    try clear c18b0
                    try clear c20
                    try clear hx160_0
                    try clear p160
                    try clear p2
                    try clear q015
                    try clear q1
                    try clear q15
                    try clear q160
                    obtain ⟨x18_2, x57_2, rfl, rfl, HA, HK2, HO_55, HB⟩ := hrel
                    cases gk with
                    | zero => exact absurd HA.out (by simp [demand_Peak.l1])
                    | succ k2 =>
                      have H := HA.out
                      clear HA
                      simp only [demand_Peak.l1] at H
                      by_cases c24 : x57_2 < (t152.length : Int)
                      · rw [if_pos c24] at H
                        have c24b0 : decide (x57_2 < (t152.length : Int)) = true := decide_eq_true c24
                        clear c24
                        by_cases c25 : 0 ≤ x57_2
                        · rw [if_pos c25] at H
                          have c25b0 : decide (0 ≤ x57_2) = true := decide_eq_true c25
                          clear c25
                          by_cases c26 : x57_2 < (t152.length : Int)
                          · rw [if_pos c26] at H
                            have c26b0 : decide (x57_2 < (t152.length : Int)) = true := decide_eq_true c26
                            clear c26
                            by_cases c27 : 0 ≤ ((rd_T90 t152 x57_2).f0)
                            · rw [if_pos c27] at H
                              have c27b0 := eq_true c27
                              have c27b1 : decide (0 ≤ ((rd_T90 t152 x57_2).f0)) = true := decide_eq_true c27
                              clear c27
                              by_cases c28 : ((rd_T90 t152 x57_2).f0) ≤ ((rd_T90 t152 x57_2).f1)
                              · rw [if_pos c28] at H
                                have c28b0 := eq_true c28
                                have c28b1 : decide (((rd_T90 t152 x57_2).f0) ≤ ((rd_T90 t152 x57_2).f1)) = true := decide_eq_true c28
                                clear c28
                                by_cases c29 : ((rd_T90 t152 x57_2).f1) ≤ (l0.length : Int)
                                · rw [if_pos c29] at H
                                  have c29b0 := eq_true c29
                                  have c29b1 : decide (((rd_T90 t152 x57_2).f1) ≤ (l0.length : Int)) = true := decide_eq_true c29
                                  clear c29
                                  obtain ⟨y164, hy164⟩ : ∃ y_ : List Cx, y_ = ((l0.take (((rd_T90 t152 x57_2).f1) : Int).toNat).drop (((rd_T90 t152 x57_2).f0) : Int).toNat) := ⟨_, rfl⟩
                                  replace H : (demand_Peak.l2 k2 l0 a2 a3 x18_2 (cx 0 0) t152 (t152.length : Int) x57_2 y164 (y164.length : Int) 0) = some (r1, r2) := by first | (rw [hy164]; with_reducible exact H) | (have H2_ := (Option.bind_some _ _).symm.trans H; rw [hy164]; with_reducible exact H2_) | (have H2_ := (Option.bind_some _ _).symm.trans H; with_reducible exact H2_) | with_reducible exact H | (rw [hy164]; exact H) | exact H
                                  have Ny164 := Aside0.mk hy164
                                  clear hy164
                                  have H' := Aside0.mk H
                                  clear H
                                  have p162 : 0 ≤ (x57_2 : Int) := of_decide_eq_true (by first | (with_reducible assumption) | assumption)
                                  have q162 : x57_2 < (t152.length : Int) := of_decide_eq_true (by first | (with_reducible assumption) | assumption)
                                  obtain ⟨ad162, e162, hx162_0, hx162_1⟩ := at_T90 (Kd.R_reads' HO_55.out).2.2 x57_2 p162 q162
                                  cases e162
                                  replace p162 := eq_true p162
                                  replace q162 := eq_true q162
                                  go_wp2_with (first | ((with_reducible refine gate_dst (N := 20) rfl ?_); refine box_event ?hg (N := 20) ?hd (cs := #[.int .i64 0, .int .i64 0]) (t := 90) ?hr ?_; (case hd => rfl); (case hg => rfl); (case hr => first | (go_simp; done) | (go_simp; rfl)); intro gb163 hg w30 hbox hb; have n0_ := Aside0.mk (Kd.R_below (Kd.R_elderB (by (with_reducible repeat (first | apply Kd.R_alloc | apply Kd.R_drewN | apply Kd.R_drew)); exact HO_55.out) gb163 (Nat.le_of_eq hg.symm)) hb); have n1_ := Aside0.mk (below_step (by repeat (first | (with_reducible first | exact HB.out | apply below_alloc | apply pw_below_drewN | apply below_drew1) | exact HB.out)) hb); have n2_ := Aside0.mk (hbox); have n3_ := Aside0.mk ((by rw [hg]; exact (below_size (by repeat (first | (with_reducible first | exact HB.out | apply below_alloc | apply pw_below_drewN | apply below_drew1) | exact HB.out))) : w.heap.size ≤ gb163)); have n4_ := Aside0.mk ((by rw [hg]; exact (below_size (by repeat (first | (with_reducible first | exact HB.out | apply below_alloc | apply pw_below_drewN | apply below_drew1) | exact HB.out))) : w.heap.size ≤ gb163)); clear HO_55; clear HB; have HO_55 := n0_; have HB := n1_; have BK163 := n2_; have GW163 := n3_; have GE163 := n4_; clear n0_ n1_ n2_ n3_ n4_; clear hb hbox hg; have hcz31_0 : w30.cell? ⟨gb163, 0, none⟩ = some (.int .i64 0) := (blk_cell BK163.out 0).trans rfl; have hcz31_1 : w30.cell? ⟨gb163, 1, none⟩ = some (.int .i64 0) := (blk_cell BK163.out 1).trans rfl; have hfz31_0 := blk_frozen BK163.out 0; have hfz31_1 := blk_frozen BK163.out 1) | ((with_reducible refine gate_store (t := 90) (p := 20) rfl ?_); refine store_event (t := 90) (p := 20) (v := ?vo_w32) (w1 := ((w30.setCell ⟨gb163, 0, none⟩ (.int .i64 ((rd_T90 t152 x57_2).f0))).setCell ⟨gb163, 1, none⟩ (.int .i64 ((rd_T90 t152 x57_2).f1)))) ?hg ?ho ?hn ?hr ?_; (case ho => rfl); (case hg => rfl); (case hn => rfl); (case hr => first | (go_simp; done) | (go_simp; rfl)); intro w32 hw; have n0_ : Aside0 (Kd.R k90 90 w32 w.heap.size (fun k_ => k_ ≠ gb163) (.slice (some ad162) t152.length co23) t152) := ⟨(by rw [hw]; exact (by (with_reducible repeat (first | apply Kd.R_alloc | apply Kd.R_drewN | apply Kd.R_drew)); exact Kd.R_mono (Kd.R_far (p := ⟨gb163, 1, none⟩) (Kd.R_far (p := ⟨gb163, 0, none⟩) (Kd.R_mono HO_55.out (fun k_ hk => (⟨hk, hk.2⟩ : _ ∧ k_ ≠ gb163))) (fun _ hk => hk.2) (.int .i64 ((rd_T90 t152 x57_2).f0))) (fun _ hk => hk.2) (.int .i64 ((rd_T90 t152 x57_2).f1))) (fun _ hk => hk.1.2)))⟩; have n1_ : Aside0 (w32.heap[gb163]? = some (.cells #[.int .i64 ((rd_T90 t152 x57_2).f0), .int .i64 ((rd_T90 t152 x57_2).f1)] 90 (0, 0))) := ⟨(by rw [hw]; exact (by (with_reducible repeat (first | refine blk_drewN ?_ _ | refine blk_drew ?_ | refine blk_alloc ?_ _)); refine blk_put (cs := #[.int .i64 ((rd_T90 t152 x57_2).f0), .int .i64 0]) ?_ 1 _ rfl; (with_reducible repeat (first | refine blk_drewN ?_ _ | refine blk_drew ?_ | refine blk_alloc ?_ _)); refine blk_put (cs := #[.int .i64 0, .int .i64 0]) ?_ 0 _ rfl; (with_reducible repeat (first | refine blk_drewN ?_ _ | refine blk_drew ?_ | refine blk_alloc ?_ _)); exact BK163.out))⟩; have n2_ : Aside0 (Below w.heap.size w w32) := ⟨(by rw [hw]; exact (by repeat (first | (with_reducible first | exact HB.out | apply below_alloc | apply pw_below_drewN | apply below_drew1 | refine below_set ?_ GE163.out) | exact HB.out)))⟩; clear hw; clear HO_55; clear BK163; clear HB; have HO_55 := n0_; have BK163 := n1_; have HB := n2_; clear n0_ n1_ n2_; have hcz33_0 : w32.cell? ⟨gb163, 0, none⟩ = some (.int .i64 ((rd_T90 t152 x57_2).f0)) := (blk_cell BK163.out 0).trans rfl; have hcz33_1 : w32.cell? ⟨gb163, 1, none⟩ = some (.int .i64 ((rd_T90 t152 x57_2).f1)) := (blk_cell BK163.out 1).trans rfl; have hfz33_0 := blk_frozen BK163.out 0; have hfz33_1 := blk_frozen BK163.out 1; have q34 : (((rd_T90 t152 x57_2).f1) : Int) ≤ ((l0.length : Int) : Int) := of_decide_eq_true (by first | (with_reducible assumption) | assumption); obtain ⟨i034, hi034, _, hsz34, _⟩ := info_parts info31; have hroom34 : l0.length ≤ c0 := HC0.out; have hC34 : Kd.C Kd.c128 _ A0 l0.length l0 := HR0.out; have ql34 : (((rd_T90 t152 x57_2).f0) : Int) ≤ (((rd_T90 t152 x57_2).f1) : Int) := of_decide_eq_true (by first | (with_reducible assumption) | assumption); have q034 : (0 : Int) ≤ (((rd_T90 t152 x57_2).f0) : Int) := of_decide_eq_true (by first | (with_reducible assumption) | assumption); have hcut34 := cut_mid (P := Try.prog) 26 31 .i64 .i64 Try.underlying26 hi034 1 hsz34 A0 l0.length c0 ((rd_T90 t152 x57_2).f0) ((rd_T90 t152 x57_2).f1) q034 ql34 q34 hroom34; have hr34 := Kd.C_mid (lo := (((rd_T90 t152 x57_2).f0) : Int).toNat) (hi := (((rd_T90 t152 x57_2).f1) : Int).toNat) (c := c0) hC34 (by omega) (by omega) hroom34; obtain ⟨A34, hA34⟩ : ∃ A1, A1 = (if c0 = (((rd_T90 t152 x57_2).f0) : Int).toNat then A0 else (A0 : Option Addr).map (·.add ((((rd_T90 t152 x57_2).f0) : Int).toNat * 1))) := ⟨_, rfl⟩; obtain ⟨c34, hc34⟩ : ∃ c1, c1 = c0 - (((rd_T90 t152 x57_2).f0) : Int).toNat := ⟨_, rfl⟩; have hy34 : y164.length = (((rd_T90 t152 x57_2).f1) : Int).toNat - (((rd_T90 t152 x57_2).f0) : Int).toNat := (by rw [Ny164.out, List.length_drop, List.length_take] <;> omega); rw [show ((l0).take (((rd_T90 t152 x57_2).f1) : Int).toNat).drop (((rd_T90 t152 x57_2).f0) : Int).toNat = y164 from Ny164.out.symm] at hr34; replace hr34 : Kd.C Kd.c128 _ A34 y164.length y164 := (by rw [hA34]; exact hr34); rw [← hy34, ← hA34, ← hc34] at hcut34; have HR167 := Aside0.mk hr34; have HC167 := Aside0.mk (show y164.length ≤ c34 from by rw [hy34, hc34]; exact Nat.sub_le_sub_right (Nat.le_trans (by omega) hroom34) _); clear hr34 hC34 hroom34 hi034 hsz34 hc34; have KY34 := Aside0.mk hy34; have KA34 := Aside0.mk hA34; clear hy34 hA34; replace q34 := eq_true q34))
                                  go_loopg [21, 68] k2 (fun kq v21 v68 w' => ∃ (x21_3 : Cx) (x68_3 : Int), v21 = .complex .f64 x21_3.re x21_3.im ∧ v68 = .int .i64 x68_3 ∧ Aside0 (demand_Peak.l2 kq l0 a2 a3 x18_2 x21_3 t152 (t152.length : Int) x57_2 y164 (y164.length : Int) x68_3 = some (r1, r2)) ∧ Aside0 (kq ≤ k2) ∧ Aside0 (Kd.R k90 90 w' w.heap.size (fun k_ => k_ ≠ gb163) (.slice (some ad162) t152.length co23) t152) ∧ Aside0 (w'.heap[gb163]? = some (.cells #[.int .i64 ((rd_T90 t152 x57_2).f0), .int .i64 ((rd_T90 t152 x57_2).f1)] 90 (0, 0))) ∧ Aside0 (Below w.heap.size w w'))
                                  case atStart => exact ⟨(cx 0 0), (0), (by first | rfl | (simp; done) | (simp [*]; done)), (by first | rfl | (simp; done) | (simp [*]; done)), H', ⟨Nat.le_refl _⟩, ⟨by (with_reducible repeat (first | apply Kd.R_alloc | apply Kd.R_drewN | apply Kd.R_drew)); exact HO_55.out⟩, ⟨by (with_reducible repeat (first | refine blk_drewN ?_ _ | refine blk_drew ?_ | refine blk_alloc ?_ _)); exact BK163.out⟩, ⟨by repeat (first | (with_reducible first | exact HB.out | apply below_alloc | apply pw_below_drewN | apply below_drew1 | refine below_set ?_ GE163.out) | exact HB.out)⟩⟩
                                  case round =>
                                    clear H'
                                    try clear c1
                                    try clear p1
                                    try clear q1
                                    try clear hx1
                                    try clear c2
                                    try clear p2
                                    try clear c3
                                    try clear q3
                                    try clear c4
                                    try clear c5
                                    try clear p6
                                    try clear c8
                                    try clear c8b0
                                    try clear c8b1
                                    try clear c9
                                    try clear c9b0
                                    try clear c11
                                    try clear c11b0
                                    try clear c11b1
                                    try clear c12
                                    try clear c12b0
                                    try clear c12b1
                                    try clear c13
                                    try clear c13b0
                                    try clear c13b1
                                    try clear c15
                                    try clear q15
                                    try clear c16
                                    try clear c16b0
                                    try clear p16
                                    try clear q16
                                    try clear hx16
                                    try clear c17
                                    try clear c17b0
                                    try clear c18
                                    try clear c18b0
                                    try clear c20
                                    try clear c24
                                    try clear c24b0
                                    try clear c25
                                    try clear c25b0
                                    try clear c26
                                    try clear c26b0
                                    try clear c27
                                    try clear c27b0
                                    try clear c27b1
                                    try clear c28
                                    try clear c28b0
                                    try clear c28b1
                                    try clear c29
                                    try clear c29b0
                                    try clear c29b1
                                    try clear c34
                                    try clear q34
                                    try clear hcz31_0
                                    try clear hcz31_1
                                    try clear hcz33_0
                                    try clear hcz33_1
                                    try clear hfz31_0
                                    try clear hfz31_1
                                    try clear hfz33_0
                                    try clear hfz33_1
                                    try clear hx160_0
                                    try clear hx162_0
                                    try clear hx162_1
                                    try clear p1
                                    try clear p16
                                    try clear p160
                                    try clear p162
                                    try clear p2
                                    try clear p6
                                    try clear q015
                                    try clear q034
                                    try clear q1
                                    try clear q15
                                    try clear q16
                                    try clear q160
                                    try clear q162
                                    try clear q34
                                    obtain ⟨x21_3, x68_3, rfl, rfl, HA, HK3, HO_55, BK163, HB⟩ := hrel
                                    cases gk with
                                    | zero => exact absurd HA.out (by simp [demand_Peak.l2])
                                    | succ k3 =>
                                      have H := HA.out
                                      clear HA
                                      simp only [demand_Peak.l2] at H
                                      by_cases c35 : x68_3 < (y164.length : Int)
                                      · rw [if_pos c35] at H
                                        have c35b0 : decide (x68_3 < (y164.length : Int)) = true := decide_eq_true c35
                                        clear c35
                                        by_cases c36 : 0 ≤ x68_3
                                        · rw [if_pos c36] at H
                                          have c36b0 : decide (0 ≤ x68_3) = true := decide_eq_true c36
                                          clear c36
                                          by_cases c37 : x68_3 < (y164.length : Int)
                                          · rw [if_pos c37] at H
                                            have c37b0 : decide (x68_3 < (y164.length : Int)) = true := decide_eq_true c37
                                            clear c37
                                            by_cases c38 : caddok x21_3.re x21_3.im (rdOf (cx 0 0) y164 x68_3).re (rdOf (cx 0 0) y164 x68_3).im = true
                                            · rw [if_pos c38] at H
                                              have c38b0 := eq_true c38
                                              have c38b1 : decide (caddok x21_3.re x21_3.im (rdOf (cx 0 0) y164 x68_3).re (rdOf (cx 0 0) y164 x68_3).im = true) = true := decide_eq_true c38
                                              clear c38
                                              have H' := Aside0.mk H
                                              clear H
                                              have p168 : 0 ≤ (x68_3 : Int) := of_decide_eq_true (by first | (with_reducible assumption) | assumption)
                                              have q168 : x68_3 < (y164.length : Int) := of_decide_eq_true (by first | (with_reducible assumption) | assumption)
                                              obtain ⟨ad168, e168, hx168_0⟩ := Kd.at_c128 HR167.out x68_3 p168 q168
                                              cases e168
                                              replace hx168_0 := (HB.out.cell (World.block_lt_of_cell? w _ hx168_0)).trans hx168_0
                                              replace p168 := eq_true p168
                                              replace q168 := eq_true q168
                                              go_wp2
                                              go_roundg k3
                                              case measure => have := HK1.out; have := HK2.out; have := HK3.out; omega
                                              case rel => exact ⟨(cx (caddre x21_3.re x21_3.im (rdOf (cx 0 0) y164 x68_3).re (rdOf (cx 0 0) y164 x68_3).im) (caddim x21_3.re x21_3.im (rdOf (cx 0 0) y164 x68_3).re (rdOf (cx 0 0) y164 x68_3).im)), (wrap64 (x68_3 + 1)), (by first | rfl | (simp; done) | (simp [*]; done)), (by first | rfl | (simp; done) | (simp [*]; done)), H', ⟨by have := HK1.out; have := HK2.out; have := HK3.out; omega⟩, ⟨by (with_reducible repeat (first | apply Kd.R_alloc | apply Kd.R_drewN | apply Kd.R_drew)); exact HO_55.out⟩, ⟨by (with_reducible repeat (first | refine blk_drewN ?_ _ | refine blk_drew ?_ | refine blk_alloc ?_ _)); exact BK163.out⟩, ⟨by repeat (first | (with_reducible first | exact HB.out | apply below_alloc | apply pw_below_drewN | apply below_drew1 | refine below_set ?_ GE163.out) | exact HB.out)⟩⟩
                                            · rw [if_neg c38] at H
                                              exact absurd H (by simp)
                                          · rw [if_neg c37] at H
                                            exact absurd H (by simp)
                                        · rw [if_neg c36] at H
                                          exact absurd H (by simp)
                                      · rw [if_neg c35] at H
                                        have c35b0 : decide (x68_3 < (y164.length : Int)) = false := decide_eq_false c35
                                        clear c35
                                        obtain ⟨ji39, hji39⟩ : ∃ j_ : Int, (mx a2 a3) = j_ := ⟨_, rfl⟩
                                        replace H : ((demand_Power.f k3 x21_3 (ji39)).bind fun bt169 => (demand_Peak.l1 k3 l0 a2 a3 (mx x18_2 bt169.1) t152 (t152.length : Int) (wrap64 (x57_2 + 1)))) = some (r1, r2) := by first | (rw [hji39] at H; exact H) | (simp only [hji39] at H ⊢; exact H)
                                        have hji39_ : (if a2 < a3 then a3 else a2) = ji39 := hji39
                                        replace H := Option.bind_eq_some_iff.mp H
                                        obtain ⟨⟨t169, t170⟩, A400, H⟩ := H
                                        replace H : (demand_Peak.l1 k3 l0 a2 a3 (mx x18_2 t169) t152 (t152.length : Int) (wrap64 (x57_2 + 1))) = some (r1, r2) := H
                                        have A40 := Aside0.mk A400
                                        clear A400
                                        obtain ⟨ji41, hji41⟩ : ∃ j_ : Int, (mx x18_2 t169) = j_ := ⟨_, rfl⟩
                                        replace H : (demand_Peak.l1 k3 l0 a2 a3 ji41 t152 (t152.length : Int) (wrap64 (x57_2 + 1))) = some (r1, r2) := by first | (rw [hji41] at H; exact H) | (simp only [hji41] at H ⊢; exact H)
                                        (try rw [hji41] at A40)
                                        have hji41_ : (if x18_2 < t169 then t169 else x18_2) = ji41 := hji41
                                        have H' := Aside0.mk H
                                        clear H
                                        go_wp2_with (first | ((with_reducible refine gate_callee (f := 47) rfl ?_); refine goesL_ (some 81) rfl rfl Try.func47 (by kernel_rfl) rfl #[.complex .f64 x21_3.re x21_3.im, .int .i64 ji39] rfl (by (try simp only [List.map_toArray, List.map_cons, List.map_nil]); first | done | (simp only [hji39]; rfl) | rfl | (simp only [List.length_drop, List.length_take]; rfl)) ?_; (with_reducible refine (demand_Power.calls k3 x21_3 ji39 t169 t170 _ A40.out).mono ?_); rintro e w42 ⟨rfl, hb⟩; refine ⟨_, rfl, ?_⟩; have n0_ := Aside0.mk (Kd.R_below (by (with_reducible repeat (first | apply Kd.R_alloc | apply Kd.R_drewN | apply Kd.R_drew)); exact HO_55.out) hb); have n1_ := Aside0.mk (blk_below (g := gb163) (o := .cells #[.int .i64 ((rd_T90 t152 x57_2).f0), .int .i64 ((rd_T90 t152 x57_2).f1)] 90 (0, 0)) (by (with_reducible repeat (first | refine blk_drewN ?_ _ | refine blk_drew ?_ | refine blk_alloc ?_ _)); exact BK163.out) hb); have n2_ := Aside0.mk (below_step (by repeat (first | (with_reducible first | exact HB.out | apply below_alloc | apply pw_below_drewN | apply below_drew1 | refine below_set ?_ GE163.out) | exact HB.out)) hb); clear HO_55; clear BK163; clear HB; have HO_55 := n0_; have BK163 := n1_; have HB := n2_; clear n0_ n1_ n2_; (try clear hb); (try clear hb2); (try clear hk); (try clear hi)))
                                        go_roundg k3
                                        case measure => have := HK1.out; have := HK2.out; have := HK3.out; omega
                                        case rel => exact ⟨(ji41), (wrap64 (x57_2 + 1)), (by first | rfl | (simp; done) | (simp only [← hji41] <;> (first | rfl | simp)) | (simp [*]; done)), (by first | rfl | (simp; done) | (simp [*]; done)), H', ⟨by have := HK1.out; have := HK2.out; have := HK3.out; omega⟩, ⟨by (with_reducible repeat (first | apply Kd.R_alloc | apply Kd.R_drewN | apply Kd.R_drew)); exact Kd.R_mono HO_55.out (fun _ hk => trivial)⟩, ⟨by repeat (first | (with_reducible first | exact HB.out | apply below_alloc | apply pw_below_drewN | apply below_drew1 | refine below_set ?_ GE163.out) | exact HB.out)⟩⟩
                                · rw [if_neg c29] at H
                                  exact absurd H (by simp)
                              · rw [if_neg c28] at H
                                exact absurd H (by simp)
                            · rw [if_neg c27] at H
                              exact absurd H (by simp)
                          · rw [if_neg c26] at H
                            exact absurd H (by simp)
                        · rw [if_neg c25] at H
                          exact absurd H (by simp)
                      · rw [if_neg c24] at H
                        have c24b0 : decide (x57_2 < (t152.length : Int)) = false := decide_eq_false c24
                        clear c24
                        simp only [Option.some.injEq, Prod.mk.injEq] at H
                        obtain ⟨rfl, rfl⟩ := H
                        go_wp2
                        go_ret2
                        exact ⟨by first | rfl | (simp [errW_none, errW_some] <;> rfl) | (simp [*, errW_none, errW_some] <;> rfl), by repeat (first | (with_reducible first | exact HB.out | apply below_alloc | apply pw_below_drewN | apply below_drew1) | exact HB.out)⟩
          · rw [if_neg c13] at H
            exact absurd H (by simp)
        · rw [if_neg c12] at H
          exact absurd H (by simp)
      · rw [if_neg c11] at H
        exact absurd H (by simp)
  · rw [if_neg c8] at H
    have c8b0 : (t153 == 0) = false := beq_eq_false_iff_ne.mpr c8
    have c8b1 : (t153 != 0) = true := bne_iff_ne.mpr c8
    simp only [Option.some.injEq, Prod.mk.injEq] at H
    obtain ⟨rfl, rfl⟩ := H
    go_enter Try.func56, Try.ntmps56
    go_wp2_with (first | ((with_reducible refine gate_callee (f := 49) rfl ?_); refine goesL_ (some 32) rfl rfl Try.func49 (by kernel_rfl) rfl #[.int .i64 a1, .int .i64 a2, .int .i64 a3, .int .i64 a4, .int .i64 a5] rfl (by (try simp only [List.map_toArray, List.map_cons, List.map_nil]); first | done | rfl | (simp only [List.length_drop, List.length_take]; rfl)) ?_; (with_reducible refine (demand_Whole.calls k a1 a2 a3 a4 a5 t152 t153 _ A7.out).mono ?_); rintro e w43 ⟨v154, rfl, ho0, hb⟩; refine ⟨_, rfl, ?_⟩; have n0_ := Aside0.mk (Kd.R_lower ho0 (below_size (by repeat (first | (with_reducible first | exact HB.out | apply below_alloc | apply pw_below_drewN | apply below_drew1) | exact HB.out)))); have n1_ := Aside0.mk (below_step (by repeat (first | (with_reducible first | exact HB.out | apply below_alloc | apply pw_below_drewN | apply below_drew1) | exact HB.out)) hb); clear HB; have HO155 := n0_; have HB := n1_; clear n0_ n1_; (try clear hb); (try clear hb2); (try clear hk); (try clear hi); (try clear ho0)))
    go_ret2
    exact ⟨by first | rfl | (simp [errW_none, errW_some] <;> rfl) | (simp [*, errW_none, errW_some] <;> rfl), by repeat (first | (with_reducible first | exact HB.out | apply below_alloc | apply pw_below_drewN | apply below_drew1) | exact HB.out)⟩

end Go.Proofs.Ytapimggcnneabaa.PDK
