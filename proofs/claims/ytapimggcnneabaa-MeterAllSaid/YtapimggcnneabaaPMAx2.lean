-- Written by a program of this session for this claim (wip/print2.sh). Lean checks it.
import Derived.Test.YtapimggcnneabaaPMAx0
import Derived.Test.YtapimggcnneabaaPMAx1
namespace Go.Proofs.Ytapimggcnneabaa.PMA
open Go.Proofs.YtapimggcnneabaaW.PrintWords
attribute [local go_sem high] fx_eql fx_neq fx_lss fx_leq fx_gtr fx_geq fx_add fx_sub fx_mul fx_neg fx_toint cxx_add cxx_sub cxx_mul cxx_eql cxx_neq cxx_pick st_float st_complex
open Go.RowKit Go.Proofs.YtapimggcnneabaaW.PrintWords Go.Proofs.YtapimggcnneabaaW.PrintLast Go.Proofs.YtapimggcnneabaaW.PrintMore
attribute [local go_sem] max2_int min2_int max_two min_two max_three min_three max_four min_four   -- for this text's walks alone
set_option linter.unusedVariables false
set_option linter.unusedSimpArgs false

/-! ### meter_Split: function 31 -/
def meter_Split.f (a0 : Cx) : Option (Int × Int × Int × Int) := (meter_Fits.f a0).bind fun t127 => (if t127 = true then (if f2iok a0.re = true then (if f2iok a0.im = true then (some (mx (f2i a0.re) 0, mx (wrap64 (-(f2i a0.re))) 0, f2i a0.im, 0)) else (none)) else (none)) else (some (0, 0, 0, 5)))
set_option maxHeartbeats 8000000 in
set_option maxRecDepth 100000 in
theorem meter_Split.calls (a0 : Cx) (r1 : Int) (r2 : Int) (r3 : Int) (r4 : Int) (w : World) (h : meter_Split.f a0 = some (r1, r2, r3, r4)) :
  Calls Try.prog 31 #[.complex .f64 a0.re a0.im] w fun e w' => e = .returned (.tuple #[.int .i64 r1, .int .i64 r2, .int .i64 r3, .int .i64 r4]) ∧ Below w.heap.size w w' := by
 have HB := Aside0.mk (Below.refl w.heap.size w)
 have H : ((meter_Fits.f a0).bind fun t127 => (if t127 = true then (if f2iok a0.re = true then (if f2iok a0.im = true then (some (mx (f2i a0.re) 0, mx (wrap64 (-(f2i a0.re))) 0, f2i a0.im, 0)) else (none)) else (none)) else (some (0, 0, 0, 5)))) = some (r1, r2, r3, r4) := h
 clear h
 replace H := Option.bind_eq_some_iff.mp H
 obtain ⟨t127, A20, H⟩ := H
 replace H : (if t127 = true then (if f2iok a0.re = true then (if f2iok a0.im = true then (some (mx (f2i a0.re) 0, mx (wrap64 (-(f2i a0.re))) 0, f2i a0.im, 0)) else (none)) else (none)) else (some (0, 0, 0, 5))) = some (r1, r2, r3, r4) := H
 have A2 := Aside0.mk A20
 clear A20
 by_cases c3 : t127 = true
 ·
  subst c3
  have H1 : (if f2iok a0.re = true then (if f2iok a0.im = true then (some (mx (f2i a0.re) 0, mx (wrap64 (-(f2i a0.re))) 0, f2i a0.im, 0)) else (none)) else (none)) = some (r1, r2, r3, r4) := by rw [if_pos rfl] at H; exact H
  clear H
  have H := H1
  clear H1
  by_cases c4 : f2iok a0.re = true
  ·
   rw [if_pos c4] at H
   have c4b0 := eq_true c4
   have c4b1 : decide (f2iok a0.re = true) = true := decide_eq_true c4
   clear c4
   obtain ⟨ji5, hji5⟩ : ∃ j_ : Int, (mx (f2i a0.re) 0) = j_ := ⟨_, rfl⟩
   replace H : (if f2iok a0.im = true then (some (ji5, mx (wrap64 (-(f2i a0.re))) 0, f2i a0.im, 0)) else (none)) = some (r1, r2, r3, r4) := by first | (rw [hji5] at H; exact H) | (simp only [hji5] at H ⊢; exact H)
   (try rw [hji5] at A2)
   (try (have hji5l : 0 ≤ ji5 := by (rw [← hji5]; unfold mx; (repeat' split) <;> omega)))
   (try (have hji5m : 0 ≤ ji5 := by omega))
   have hji5_ : (if (f2i a0.re) < 0 then 0 else (f2i a0.re)) = ji5 := hji5
   obtain ⟨ji6, hji6⟩ : ∃ j_ : Int, (mx (wrap64 (-(f2i a0.re))) 0) = j_ := ⟨_, rfl⟩
   replace H : (if f2iok a0.im = true then (some (ji5, ji6, f2i a0.im, 0)) else (none)) = some (r1, r2, r3, r4) := by first | (rw [hji6] at H; exact H) | (simp only [hji6] at H ⊢; exact H)
   (try rw [hji6] at A2)
   (try (have hji6l : 0 ≤ ji6 := by (rw [← hji6]; unfold mx; (repeat' split) <;> omega)))
   (try (have hji6m : 0 ≤ ji6 := by omega))
   have hji6_ : (if (wrap64 (-(f2i a0.re))) < 0 then 0 else (wrap64 (-(f2i a0.re)))) = ji6 := hji6
   by_cases c7 : f2iok a0.im = true
   ·
    rw [if_pos c7] at H
    have c7b0 := eq_true c7
    have c7b1 : decide (f2iok a0.im = true) = true := decide_eq_true c7
    clear c7
    simp only [Option.some.injEq, Prod.mk.injEq] at H
    obtain ⟨rfl, rfl, rfl, rfl⟩ := H
    go_enter Try.func31, Try.ntmps31
    go_wp2_with (first | ((with_reducible refine gate_callee (f := 29) rfl ?_); refine goesL_ (some 8) rfl rfl Try.func29 (by kernel_rfl) rfl #[.complex .f64 a0.re a0.im] rfl (by (try simp only [List.map_toArray, List.map_cons, List.map_nil]); first | done | rfl | (simp only [List.length_drop, List.length_take]; rfl)) ?_; (with_reducible refine (meter_Fits.calls a0 true _ A2.out).mono ?_); rintro e w8 ⟨rfl, hb⟩; refine ⟨_, rfl, ?_⟩; have n0_ := Aside0.mk (below_step (by repeat (first | (with_reducible first | exact HB.out | apply lA_ | apply lN_ | apply l1_) | exact HB.out)) hb); clear HB; have HB := n0_; clear n0_; (try clear hb); (try clear hb2); (try clear hk); (try clear hi)))
    refine bodyPost_ret (results_list (rs := [.tmp 2, .tmp 3, .tmp 4, .tmp 5]) rfl (by simp) (.tmp (.tmp (.tmp (.tmp .nil))))) rfl ?_
    exact ⟨by first | rfl | (simp [errW_none, errW_some] <;> rfl) | (simp only [← hji5, ← hji6]; first | rfl | (simp [errW_none, errW_some] <;> rfl)) | (simp [*, errW_none, errW_some] <;> rfl), by repeat (first | (with_reducible first | exact HB.out | apply lA_ | apply lN_ | apply l1_) | exact HB.out)⟩
   ·
    rw [if_neg c7] at H
    exact absurd H (by simp)
  ·
   rw [if_neg c4] at H
   exact absurd H (by simp)
 ·
  replace c3 := Bool.eq_false_iff.mpr c3
  subst c3
  have H1 : (some (0, 0, 0, 5)) = some (r1, r2, r3, r4) := by rw [if_neg (show ¬ (false = true) by decide)] at H; exact H
  clear H
  have H := H1
  clear H1
  simp only [Option.some.injEq, Prod.mk.injEq] at H
  obtain ⟨rfl, rfl, rfl, rfl⟩ := H
  go_enter Try.func31, Try.ntmps31
  go_wp2_with (first | ((with_reducible refine gate_callee (f := 29) rfl ?_); refine goesL_ (some 8) rfl rfl Try.func29 (by kernel_rfl) rfl #[.complex .f64 a0.re a0.im] rfl (by (try simp only [List.map_toArray, List.map_cons, List.map_nil]); first | done | rfl | (simp only [List.length_drop, List.length_take]; rfl)) ?_; (with_reducible refine (meter_Fits.calls a0 false _ A2.out).mono ?_); rintro e w9 ⟨rfl, hb⟩; refine ⟨_, rfl, ?_⟩; have n0_ := Aside0.mk (below_step (by repeat (first | (with_reducible first | exact HB.out | apply lA_ | apply lN_ | apply l1_) | exact HB.out)) hb); clear HB; have HB := n0_; clear n0_; (try clear hb); (try clear hb2); (try clear hk); (try clear hi)))
  refine bodyPost_ret (results_list (rs := [.tmp 2, .tmp 3, .tmp 4, .tmp 5]) rfl (by simp) (.tmp (.tmp (.tmp (.tmp .nil))))) rfl ?_
  exact ⟨by first | rfl | (simp [errW_none, errW_some] <;> rfl) | (simp [*, errW_none, errW_some] <;> rfl), by repeat (first | (with_reducible first | exact HB.out | apply lA_ | apply lN_ | apply l1_) | exact HB.out)⟩

/-! ### pylonlaw12_numbers: function 37 -/
def pylonlaw12_numbers.l0 : Nat → List (S47) → List Cx → Int → Int → Option (List Cx)
 | 0, _, _, _, _ => none
 | k + 1, x0, x3, x9, x10 => if x10 < x9 then (if 0 ≤ x10 then (if x10 < (x0.length : Int) then ((pylonlaw12_Z_c.f ((rd_T47 x0 x10).f0) ((rd_T47 x0 x10).f1)).bind fun t132 => (if x10 < (x3.length : Int) then (pylonlaw12_numbers.l0 k x0 (x3.set (x10 : Int).toNat t132) x9 (wrap64 (x10 + 1))) else (none))) else (none)) else (none)) else (some x3)
def pylonlaw12_numbers.f (k : Nat) (l0 : List (S47)) : Option (List Cx) := if 0 ≤ (l0.length : Int) then (if ((l0.length : Int) : Int).toNat ≤ 17592186044416 then (pylonlaw12_numbers.l0 k l0 (List.replicate ((l0.length : Int) : Int).toNat (cx 0 0)) (l0.length : Int) 0) else (none)) else (none)
theorem pylonlaw12_numbers.mono_l : ∀ k, (∀ y0 y1 y2 y3, LeO (pylonlaw12_numbers.l0 k y0 y1 y2 y3) (pylonlaw12_numbers.l0 (k + 1) y0 y1 y2 y3))
 | 0 => fun _ _ _ _ r h => by simp [pylonlaw12_numbers.l0] at h
 | k + 1 => by
  have ih0 := pylonlaw12_numbers.mono_l k
  ·
   intro y0 y1 y2 y3
   unfold pylonlaw12_numbers.l0
   repeat' first
   | (with_reducible exact ih0 _ _ _ _)
   | (with_reducible exact LeO.refl _)
   | (with_reducible exact LeO.none _)
   | (with_reducible refine LeO.ite ?_ ?_)
   | (with_reducible refine LeO.bind ?_ (fun _ => ?_))
   | exact ih0 _ _ _ _
   | exact LeO.none _
   | refine LeO.ite ?_ ?_
   | refine LeO.bind ?_ (fun _ => ?_)
theorem pylonlaw12_numbers.mono : ∀ a0 k, LeO (pylonlaw12_numbers.f k a0) (pylonlaw12_numbers.f (k + 1) a0) := by
 intro a0 k
 have ih0 := pylonlaw12_numbers.mono_l k
 unfold pylonlaw12_numbers.f
 repeat' first
   | (with_reducible exact ih0 _ _ _ _)
   | (with_reducible exact LeO.refl _)
   | (with_reducible exact LeO.none _)
   | (with_reducible refine LeO.ite ?_ ?_)
   | (with_reducible refine LeO.bind ?_ (fun _ => ?_))
   | exact ih0 _ _ _ _
   | exact LeO.none _
   | refine LeO.ite ?_ ?_
   | refine LeO.bind ?_ (fun _ => ?_)
set_option maxHeartbeats 8000000 in
set_option maxRecDepth 100000 in
theorem pylonlaw12_numbers.calls (k : Nat) (A0 : Option Addr) (c0 : Nat) (l0 : List (S47)) (r : List Cx) (w : World) (hr0 : Kd.C k47 w A0 l0.length l0) (hc0 : l0.length ≤ c0) (h : pylonlaw12_numbers.f k l0 = some r) :
  Calls Try.prog 37 #[.slice A0 l0.length c0] w fun e w' => ∃ v0_ : Value, e = .returned (v0_) ∧ Kd.R Kd.c128 31 w' w.heap.size (fun _ => True) v0_ r ∧ Below w.heap.size w w' := by
 have hu47 := Try.underlying47
 have HR0 := Aside0.mk hr0
 have HC0 := Aside0.mk hc0
 clear hr0 hc0
 have HB := Aside0.mk (Below.refl w.heap.size w)
 have H : (if 0 ≤ (l0.length : Int) then (if ((l0.length : Int) : Int).toNat ≤ 17592186044416 then (pylonlaw12_numbers.l0 k l0 (List.replicate ((l0.length : Int) : Int).toNat (cx 0 0)) (l0.length : Int) 0) else (none)) else (none)) = some r := h
 clear h
 by_cases c2 : 0 ≤ (l0.length : Int)
 ·
  rw [if_pos c2] at H
  have c2b0 := eq_true c2
  have c2b1 : decide (0 ≤ (l0.length : Int)) = true := decide_eq_true c2
  clear c2
  by_cases c3 : ((l0.length : Int) : Int).toNat ≤ 17592186044416
  ·
   rw [if_pos c3] at H
   have c3b0 := eq_true c3
   have c3b1 : decide (((l0.length : Int) : Int).toNat ≤ 17592186044416) = true := decide_eq_true c3
   clear c3
   obtain ⟨y128, hy128⟩ : ∃ y_ : List Cx, y_ = (List.replicate ((l0.length : Int) : Int).toNat (cx 0 0)) := ⟨_, rfl⟩
   replace H : (pylonlaw12_numbers.l0 k l0 y128 (l0.length : Int) 0) = some r := by first | (rw [hy128]; with_reducible exact H) | (have H2_ := (Option.bind_some _ _).symm.trans H; rw [hy128]; with_reducible exact H2_) | (have H2_ := (Option.bind_some _ _).symm.trans H; with_reducible exact H2_) | with_reducible exact H | (rw [hy128]; exact H) | exact H
   have Ny128 := Aside0.mk hy128
   clear hy128
   have H' := Aside0.mk H
   clear H
   go_enter Try.func37, Try.ntmps37
   go_wp2_with (first | ((with_reducible refine gate_dst (N := 7) rfl ?_); refine Kd.R_make Kd.c128 _ 31 rfl (N := 7) rfl 26 _ _ rfl (l0.length : Int) rfl rfl Try.underlying26 (.complex .f64 0 0) 16 info31 rfl (by decide) (by omega) (cx 0 0) (ok := fun _ => True) (okp := fun _ => True) rfl (fun _ hk => hk) trivial (of_decide_eq_true (by first | (with_reducible assumption) | assumption)) (Nat.le_trans (Nat.mul_le_mul_right _ (of_decide_eq_true (by first | (with_reducible assumption) | assumption) : (l0.length : Int).toNat ≤ 17592186044416)) (by omega)) (Below.refl _ _) (Nat.le_refl _) ?_; intro v129 w4 ho5 hb hg_ hnew_; clear hg_ hnew_; (first | rw [← Ny128.out] at ho5 | (simp only [Int.reduceToNat] at ho5; rw [← Ny128.out] at ho5)); have n0_ := Aside0.mk (Kd.R_lower ho5 (below_size (by repeat (first | (with_reducible first | exact HB.out | apply lA_ | apply lN_ | apply l1_) | exact HB.out)))); have n1_ := Aside0.mk (below_step (by repeat (first | (with_reducible first | exact HB.out | apply lA_ | apply lN_ | apply l1_) | exact HB.out)) hb); clear HB; have HO130 := n0_; have HB := n1_; clear n0_ n1_; clear hb ho5))
   go_loopg [10] k (fun kq v10 w' => ∃ (x3_1 : List Cx) (x10_1 : Int), v10 = .int .i64 x10_1 ∧ Aside0 (pylonlaw12_numbers.l0 kq l0 x3_1 (l0.length : Int) x10_1 = some r) ∧ Aside0 (kq ≤ k) ∧ Aside0 (Kd.R Kd.c128 31 w' w.heap.size (fun _ => True) v129 x3_1) ∧ Aside0 (Below w.heap.size w w'))
   case atStart => exact ⟨(y128), (0), (by first | rfl | (simp; done) | (simp [*]; done)), H', ⟨Nat.le_refl _⟩, ⟨by (with_reducible repeat (first | apply Kd.R_alloc | apply Kd.R_drewN | apply Kd.R_drew)); exact HO130.out⟩, ⟨by repeat (first | (with_reducible first | exact HB.out | apply lA_ | apply lN_ | apply l1_) | exact HB.out)⟩⟩
   case round =>
    clear H'
    try clear c1
    try clear c2
    try clear c2b0
    try clear c2b1
    try clear p2
    try clear c3
    try clear c3b0
    try clear c3b1
    obtain ⟨x3_1, x10_1, rfl, HA, HK1, HO_3, HB⟩ := hrel
    cases gk with
    | zero => exact absurd HA.out (by simp [pylonlaw12_numbers.l0])
    | succ k1 =>
     have H := HA.out
     clear HA
     simp only [pylonlaw12_numbers.l0] at H
     by_cases c6 : x10_1 < (l0.length : Int)
     ·
      rw [if_pos c6] at H
      have c6b0 : decide (x10_1 < (l0.length : Int)) = true := decide_eq_true c6
      clear c6
      by_cases c7 : 0 ≤ x10_1
      ·
       rw [if_pos c7] at H
       have c7b0 : decide (0 ≤ x10_1) = true := decide_eq_true c7
       clear c7
       by_cases c8 : x10_1 < (l0.length : Int)
       ·
        rw [if_pos c8] at H
        have c8b0 : decide (x10_1 < (l0.length : Int)) = true := decide_eq_true c8
        clear c8
        replace H := Option.bind_eq_some_iff.mp H
        obtain ⟨t132, A90, H⟩ := H
        replace H : (if x10_1 < (x3_1.length : Int) then (pylonlaw12_numbers.l0 k1 l0 (x3_1.set (x10_1 : Int).toNat t132) (l0.length : Int) (wrap64 (x10_1 + 1))) else (none)) = some r := H
        have A9 := Aside0.mk A90
        clear A90
        by_cases c10 : x10_1 < (x3_1.length : Int)
        ·
         rw [if_pos c10] at H
         have c10b0 : decide (x10_1 < (x3_1.length : Int)) = true := decide_eq_true c10
         clear c10
         obtain ⟨y133, hy133⟩ : ∃ y_ : List Cx, y_ = (x3_1.set (x10_1 : Int).toNat t132) := ⟨_, rfl⟩
         replace H : (pylonlaw12_numbers.l0 k1 l0 y133 (l0.length : Int) (wrap64 (x10_1 + 1))) = some r := by first | (rw [hy133]; with_reducible exact H) | (have H2_ := (Option.bind_some _ _).symm.trans H; rw [hy133]; with_reducible exact H2_) | (have H2_ := (Option.bind_some _ _).symm.trans H; with_reducible exact H2_) | with_reducible exact H | (rw [hy133]; exact H) | exact H
         have Ny133 := Aside0.mk hy133
         clear hy133
         have H' := Aside0.mk H
         clear H
         have p131 : 0 ≤ (x10_1 : Int) := of_decide_eq_true (by first | (with_reducible assumption) | assumption)
         have q131 : x10_1 < (l0.length : Int) := of_decide_eq_true (by first | (with_reducible assumption) | assumption)
         obtain ⟨ad131, e131, hx131_0, hx131_1⟩ := at_T47 HR0.out x10_1 p131 q131
         cases e131
         replace hx131_0 := (HB.out.cell (World.block_lt_of_cell? w _ hx131_0)).trans hx131_0
         replace hx131_1 := (HB.out.cell (World.block_lt_of_cell? w _ hx131_1)).trans hx131_1
         replace p131 := eq_true p131
         replace q131 := eq_true q131
         go_wp2_with (first | ((with_reducible refine gate_callee (f := 30) rfl ?_); refine goesL_ (some 19) rfl rfl Try.func30 (by kernel_rfl) rfl #[.agg #[.float .f64 ((rd_T47 l0 x10_1).f0), .float .f64 ((rd_T47 l0 x10_1).f1)]] rfl (by (try simp only [List.map_toArray, List.map_cons, List.map_nil]); first | done | rfl | (simp only [List.length_drop, List.length_take]; rfl)) ?_; (with_reducible refine (pylonlaw12_Z_c.calls ((rd_T47 l0 x10_1).f0) ((rd_T47 l0 x10_1).f1) t132 _ A9.out).mono ?_); rintro e w12 ⟨rfl, hb⟩; refine ⟨_, rfl, ?_⟩; have n0_ := Aside0.mk (Kd.R_below (by (with_reducible repeat (first | apply Kd.R_alloc | apply Kd.R_drewN | apply Kd.R_drew)); exact HO_3.out) hb); have n1_ := Aside0.mk (below_step (by repeat (first | (with_reducible first | exact HB.out | apply lA_ | apply lN_ | apply l1_) | exact HB.out)) hb); clear HO_3; clear HB; have HO_3 := n0_; have HB := n1_; clear n0_ n1_; (try clear hb); (try clear hb2); (try clear hk); (try clear hi); have p11 : 0 ≤ (x10_1 : Int) := of_decide_eq_true (by first | (with_reducible assumption) | assumption); have q11 : (x10_1 : Int) < ((x3_1.length : Int) : Int) := of_decide_eq_true (by first | (with_reducible assumption) | assumption); obtain ⟨go11, co11, eo11, gb11, gl11, cl11, HG11⟩ := Kd.R_form HO_3.out (by omega); (first | cases eo11 | (injection eo11 with ea_ en_ ec_; (first | subst ea_ | (injection ea_ with ea_; subst ea_)); subst ec_; clear en_)); have GB11 := Aside0.mk gb11; have GG11 := Aside0.mk HG11; clear gb11 gl11 HG11; obtain ⟨hx11_0, hf11_0⟩ := Kd.R_celln (cx 0 0) HO_3.out (x10_1 : Int) p11 q11; replace p11 := eq_true p11; replace q11 := eq_true q11; obtain ⟨hy13_, hz13_⟩ := Kd.R_celln (cx 0 0) HO_3.out (x10_1 : Int) (of_decide_eq_true (by first | (with_reducible assumption) | assumption)) (of_decide_eq_true (by first | (with_reducible assumption) | assumption)); have HP13 := Kd.R_putg HO_3.out (x10_1 : Int) t132) | ((with_reducible refine gate_store (t := 31) (p := 20) rfl ?_); refine store_event (t := 31) (p := 20) (v := ?vo_w14) (w1 := (w12.setCell ⟨go11, (x10_1 : Int).toNat, none⟩ (.complex .f64 t132.re t132.im))) ?hg ?ho ?hn ?hr ?_; (case ho => rfl); (case hg => rfl); (case hn => rfl); (case hr => first | (go_simp; done) | (go_simp; rfl)); intro w14 hw; have hg : w12.grownBy w14 (some go11) := (by rw [hw]; exact HP13.2); have hp_ : Kd.R Kd.c128 31 w14 w.heap.size (fun _ => True) (.slice (some ⟨go11, 0, none⟩) x3_1.length co11) y133 := (by rw [hw, Ny133.out]; exact HP13.1); clear HP13; have n0_ := Aside0.mk (hp_); have n1_ := Aside0.mk ((by rw [hw]; exact lS_ (HB.out) GB11.out : Below w.heap.size w w14)); clear HO_3; clear HB; have HO_3 := n0_; have HB := n1_; clear n0_ n1_; clear hg hw hp_))
         go_roundg k1
         case measure => have := HK1.out; omega
         case rel => exact ⟨(y133), (wrap64 (x10_1 + 1)), (by first | rfl | (simp; done) | (simp [*]; done)), H', ⟨by have := HK1.out; omega⟩, ⟨by (with_reducible repeat (first | apply Kd.R_alloc | apply Kd.R_drewN | apply Kd.R_drew)); exact HO_3.out⟩, ⟨by repeat (first | (with_reducible first | exact HB.out | apply lA_ | apply lN_ | apply l1_) | exact HB.out)⟩⟩
        ·
         rw [if_neg c10] at H
         exact absurd H (by simp)
       ·
        rw [if_neg c8] at H
        exact absurd H (by simp)
      ·
       rw [if_neg c7] at H
       exact absurd H (by simp)
     ·
      rw [if_neg c6] at H
      have c6b0 : decide (x10_1 < (l0.length : Int)) = false := decide_eq_false c6
      clear c6
      obtain rfl := Option.some.inj H
      go_wp2
      go_ret
      exact ⟨_, by first | rfl | (simp [errW_none, errW_some] <;> rfl) | (simp [*, errW_none, errW_some] <;> rfl), by (with_reducible repeat (first | apply Kd.R_alloc | apply Kd.R_drewN | apply Kd.R_drew)); exact HO_3.out, by repeat (first | (with_reducible first | exact HB.out | apply lA_ | apply lN_ | apply l1_) | exact HB.out)⟩
  ·
   rw [if_neg c3] at H
   exact absurd H (by simp)
 ·
  rw [if_neg c2] at H
  exact absurd H (by simp)

/-! ### meter_check: function 67 -/
def meter_check.l0 : Nat → List Cx → Int → Int → Option (Int)
 | 0, _, _, _ => none
 | k + 1, x8, x9, x10 => if x10 < x9 then (if 0 ≤ x10 then (if x10 < (x8.length : Int) then ((meter_Fits.f (rdOf (cx 0 0) x8 x10)).bind fun t135 => (if t135 = true then (meter_check.l0 k x8 x9 (wrap64 (x10 + 1))) else (some 5))) else (none)) else (none)) else (some 0)
def meter_check.f (k : Nat) (l0 : List Cx) : Option (Int) := if (l0.length : Int) > 40000 then (some 9) else (meter_check.l0 k l0 (l0.length : Int) 0)
theorem meter_check.mono_l : ∀ k, (∀ y0 y1 y2, LeO (meter_check.l0 k y0 y1 y2) (meter_check.l0 (k + 1) y0 y1 y2))
 | 0 => fun _ _ _ r h => by simp [meter_check.l0] at h
 | k + 1 => by
  have ih0 := meter_check.mono_l k
  ·
   intro y0 y1 y2
   unfold meter_check.l0
   repeat' first
   | (with_reducible exact ih0 _ _ _)
   | (with_reducible exact LeO.refl _)
   | (with_reducible exact LeO.none _)
   | (with_reducible refine LeO.ite ?_ ?_)
   | (with_reducible refine LeO.bind ?_ (fun _ => ?_))
   | exact ih0 _ _ _
   | exact LeO.none _
   | refine LeO.ite ?_ ?_
   | refine LeO.bind ?_ (fun _ => ?_)
theorem meter_check.mono : ∀ a0 k, LeO (meter_check.f k a0) (meter_check.f (k + 1) a0) := by
 intro a0 k
 have ih0 := meter_check.mono_l k
 unfold meter_check.f
 repeat' first
   | (with_reducible exact ih0 _ _ _)
   | (with_reducible exact LeO.refl _)
   | (with_reducible exact LeO.none _)
   | (with_reducible refine LeO.ite ?_ ?_)
   | (with_reducible refine LeO.bind ?_ (fun _ => ?_))
   | exact ih0 _ _ _
   | exact LeO.none _
   | refine LeO.ite ?_ ?_
   | refine LeO.bind ?_ (fun _ => ?_)
set_option maxHeartbeats 8000000 in
set_option maxRecDepth 100000 in
theorem meter_check.calls (k : Nat) (A0 : Option Addr) (c0 : Nat) (l0 : List Cx) (r : Int) (w : World) (hr0 : Kd.C Kd.c128 w A0 l0.length l0) (hc0 : l0.length ≤ c0) (h : meter_check.f k l0 = some r) :
  Calls Try.prog 67 #[.slice A0 l0.length c0] w fun e w' => e = .returned (.int .i64 r) ∧ Below w.heap.size w w' := by
 have HR0 := Aside0.mk hr0
 have HC0 := Aside0.mk hc0
 clear hr0 hc0
 have HB := Aside0.mk (Below.refl w.heap.size w)
 have H : (if (l0.length : Int) > 40000 then (some 9) else (meter_check.l0 k l0 (l0.length : Int) 0)) = some r := h
 clear h
 by_cases c2 : (l0.length : Int) > 40000
 ·
  rw [if_pos c2] at H
  have c2b0 : decide (40000 < (l0.length : Int)) = true := decide_eq_true c2
  have c2b1 : decide (40000 < l0.length) = true := decide_eq_true (by omega)
  clear c2
  obtain rfl := Option.some.inj H
  go_enter Try.func67, Try.ntmps67
  go_wp2
  go_ret
  exact ⟨by first | rfl | (simp [errW_none, errW_some] <;> rfl) | (simp [*, errW_none, errW_some] <;> rfl), by repeat (first | (with_reducible first | exact HB.out | apply lA_ | apply lN_ | apply l1_) | exact HB.out)⟩
 ·
  rw [if_neg c2] at H
  have c2b0 : decide (40000 < (l0.length : Int)) = false := decide_eq_false c2
  have c2b1 : decide (40000 < l0.length) = false := decide_eq_false (by omega)
  clear c2
  have H' := Aside0.mk H
  clear H
  go_enter Try.func67, Try.ntmps67
  go_wp2
  go_loopg [10] k (fun kq v10 w' => ∃ (x10_1 : Int), v10 = .int .i64 x10_1 ∧ Aside0 (meter_check.l0 kq l0 (l0.length : Int) x10_1 = some r) ∧ Aside0 (kq ≤ k) ∧ Aside0 (Below w.heap.size w w'))
  case atStart => exact ⟨(0), (by first | rfl | (simp; done) | (simp [*]; done)), H', ⟨Nat.le_refl _⟩, ⟨by repeat (first | (with_reducible first | exact HB.out | apply lA_ | apply lN_ | apply l1_) | exact HB.out)⟩⟩
  case round =>
   clear H'
   try clear c2
   try clear c2b0
   try clear c2b1
   try clear p2
   obtain ⟨x10_1, rfl, HA, HK1, HB⟩ := hrel
   cases gk with
   | zero => exact absurd HA.out (by simp [meter_check.l0])
   | succ k1 =>
    have H := HA.out
    clear HA
    simp only [meter_check.l0] at H
    by_cases c3 : x10_1 < (l0.length : Int)
    ·
     rw [if_pos c3] at H
     have c3b0 : decide (x10_1 < (l0.length : Int)) = true := decide_eq_true c3
     clear c3
     by_cases c4 : 0 ≤ x10_1
     ·
      rw [if_pos c4] at H
      have c4b0 : decide (0 ≤ x10_1) = true := decide_eq_true c4
      clear c4
      by_cases c5 : x10_1 < (l0.length : Int)
      ·
       rw [if_pos c5] at H
       have c5b0 : decide (x10_1 < (l0.length : Int)) = true := decide_eq_true c5
       clear c5
       replace H := Option.bind_eq_some_iff.mp H
       obtain ⟨t135, A60, H⟩ := H
       replace H : (if t135 = true then (meter_check.l0 k1 l0 (l0.length : Int) (wrap64 (x10_1 + 1))) else (some 5)) = some r := H
       have A6 := Aside0.mk A60
       clear A60
       by_cases c7 : t135 = true
       ·
        subst c7
        have H1 : (meter_check.l0 k1 l0 (l0.length : Int) (wrap64 (x10_1 + 1))) = some r := by rw [if_pos rfl] at H; exact H
        clear H
        have H := H1
        clear H1
        have H' := Aside0.mk H
        clear H
        have p134 : 0 ≤ (x10_1 : Int) := of_decide_eq_true (by first | (with_reducible assumption) | assumption)
        have q134 : x10_1 < (l0.length : Int) := of_decide_eq_true (by first | (with_reducible assumption) | assumption)
        obtain ⟨ad134, e134, hx134_0⟩ := Kd.at_c128 HR0.out x10_1 p134 q134
        cases e134
        replace hx134_0 := (HB.out.cell (World.block_lt_of_cell? w _ hx134_0)).trans hx134_0
        replace p134 := eq_true p134
        replace q134 := eq_true q134
        go_wp2_with (first | ((with_reducible refine gate_callee (f := 29) rfl ?_); refine goesL_ (some 15) rfl rfl Try.func29 (by kernel_rfl) rfl #[.complex .f64 (rdOf (cx 0 0) l0 x10_1).re (rdOf (cx 0 0) l0 x10_1).im] rfl (by (try simp only [List.map_toArray, List.map_cons, List.map_nil]); first | done | rfl | (simp only [List.length_drop, List.length_take]; rfl)) ?_; (with_reducible refine (meter_Fits.calls (rdOf (cx 0 0) l0 x10_1) true _ A6.out).mono ?_); rintro e w8 ⟨rfl, hb⟩; refine ⟨_, rfl, ?_⟩; have n0_ := Aside0.mk (below_step (by repeat (first | (with_reducible first | exact HB.out | apply lA_ | apply lN_ | apply l1_) | exact HB.out)) hb); clear HB; have HB := n0_; clear n0_; (try clear hb); (try clear hb2); (try clear hk); (try clear hi)))
        go_roundg k1
        case measure => have := HK1.out; omega
        case rel => exact ⟨(wrap64 (x10_1 + 1)), (by first | rfl | (simp; done) | (simp [*]; done)), H', ⟨by have := HK1.out; omega⟩, ⟨by repeat (first | (with_reducible first | exact HB.out | apply lA_ | apply lN_ | apply l1_) | exact HB.out)⟩⟩
       ·
        replace c7 := Bool.eq_false_iff.mpr c7
        subst c7
        have H1 : (some 5) = some r := by rw [if_neg (show ¬ (false = true) by decide)] at H; exact H
        clear H
        have H := H1
        clear H1
        obtain rfl := Option.some.inj H
        have p134 : 0 ≤ (x10_1 : Int) := of_decide_eq_true (by first | (with_reducible assumption) | assumption)
        have q134 : x10_1 < (l0.length : Int) := of_decide_eq_true (by first | (with_reducible assumption) | assumption)
        obtain ⟨ad134, e134, hx134_0⟩ := Kd.at_c128 HR0.out x10_1 p134 q134
        cases e134
        replace hx134_0 := (HB.out.cell (World.block_lt_of_cell? w _ hx134_0)).trans hx134_0
        replace p134 := eq_true p134
        replace q134 := eq_true q134
        go_wp2_with (first | ((with_reducible refine gate_callee (f := 29) rfl ?_); refine goesL_ (some 15) rfl rfl Try.func29 (by kernel_rfl) rfl #[.complex .f64 (rdOf (cx 0 0) l0 x10_1).re (rdOf (cx 0 0) l0 x10_1).im] rfl (by (try simp only [List.map_toArray, List.map_cons, List.map_nil]); first | done | rfl | (simp only [List.length_drop, List.length_take]; rfl)) ?_; (with_reducible refine (meter_Fits.calls (rdOf (cx 0 0) l0 x10_1) false _ A6.out).mono ?_); rintro e w9 ⟨rfl, hb⟩; refine ⟨_, rfl, ?_⟩; have n0_ := Aside0.mk (below_step (by repeat (first | (with_reducible first | exact HB.out | apply lA_ | apply lN_ | apply l1_) | exact HB.out)) hb); clear HB; have HB := n0_; clear n0_; (try clear hb); (try clear hb2); (try clear hk); (try clear hi)))
        go_ret
        exact ⟨by first | rfl | (simp [errW_none, errW_some] <;> rfl) | (simp [*, errW_none, errW_some] <;> rfl), by repeat (first | (with_reducible first | exact HB.out | apply lA_ | apply lN_ | apply l1_) | exact HB.out)⟩
      ·
       rw [if_neg c5] at H
       exact absurd H (by simp)
     ·
      rw [if_neg c4] at H
      exact absurd H (by simp)
    ·
     rw [if_neg c3] at H
     have c3b0 : decide (x10_1 < (l0.length : Int)) = false := decide_eq_false c3
     clear c3
     obtain rfl := Option.some.inj H
     go_wp2
     go_ret
     exact ⟨by first | rfl | (simp [errW_none, errW_some] <;> rfl) | (simp [*, errW_none, errW_some] <;> rfl), by repeat (first | (with_reducible first | exact HB.out | apply lA_ | apply lN_ | apply l1_) | exact HB.out)⟩

/-! ### meter_Total: function 38 -/
def meter_Total.l0 : Nat → Cx → List Cx → Int → Int → Option (Cx × Int)
 | 0, _, _, _, _ => none
 | k + 1, x5, x13, x14, x15 => if x15 < x14 then (if 0 ≤ x15 then (if x15 < (x13.length : Int) then (if caddok x5.re x5.im (rdOf (cx 0 0) x13 x15).re (rdOf (cx 0 0) x13 x15).im = true then (meter_Total.l0 k (cx (caddre x5.re x5.im (rdOf (cx 0 0) x13 x15).re (rdOf (cx 0 0) x13 x15).im) (caddim x5.re x5.im (rdOf (cx 0 0) x13 x15).re (rdOf (cx 0 0) x13 x15).im)) x13 x14 (wrap64 (x15 + 1))) else (none)) else (none)) else (none)) else (some (x5, 0))
def meter_Total.f (k : Nat) (l0 : List Cx) : Option (Cx × Int) := (meter_check.f k l0).bind fun t136 => (if t136 = 0 then (meter_Total.l0 k (cx 0 0) l0 (l0.length : Int) 0) else (some (cx 0 0, t136)))
theorem meter_Total.mono_l : ∀ k, (∀ y0 y1 y2 y3, LeO (meter_Total.l0 k y0 y1 y2 y3) (meter_Total.l0 (k + 1) y0 y1 y2 y3))
 | 0 => fun _ _ _ _ r h => by simp [meter_Total.l0] at h
 | k + 1 => by
  have ih0 := meter_Total.mono_l k
  ·
   intro y0 y1 y2 y3
   unfold meter_Total.l0
   repeat' first
   | (with_reducible exact ih0 _ _ _ _)
   | (with_reducible exact meter_check.mono _ _)
   | (with_reducible exact LeO.refl _)
   | (with_reducible exact LeO.none _)
   | (with_reducible refine LeO.ite ?_ ?_)
   | (with_reducible refine LeO.bind ?_ (fun _ => ?_))
   | exact ih0 _ _ _ _
   | exact meter_check.mono _ _
   | exact LeO.none _
   | refine LeO.ite ?_ ?_
   | refine LeO.bind ?_ (fun _ => ?_)
theorem meter_Total.mono : ∀ a0 k, LeO (meter_Total.f k a0) (meter_Total.f (k + 1) a0) := by
 intro a0 k
 have ih0 := meter_Total.mono_l k
 unfold meter_Total.f
 repeat' first
   | (with_reducible exact ih0 _ _ _ _)
   | (with_reducible exact meter_check.mono _ _)
   | (with_reducible exact LeO.refl _)
   | (with_reducible exact LeO.none _)
   | (with_reducible refine LeO.ite ?_ ?_)
   | (with_reducible refine LeO.bind ?_ (fun _ => ?_))
   | exact ih0 _ _ _ _
   | exact meter_check.mono _ _
   | exact LeO.none _
   | refine LeO.ite ?_ ?_
   | refine LeO.bind ?_ (fun _ => ?_)
set_option maxHeartbeats 8000000 in
set_option maxRecDepth 100000 in
theorem meter_Total.calls (k : Nat) (A0 : Option Addr) (c0 : Nat) (l0 : List Cx) (r1 : Cx) (r2 : Int) (w : World) (hr0 : Kd.C Kd.c128 w A0 l0.length l0) (hc0 : l0.length ≤ c0) (h : meter_Total.f k l0 = some (r1, r2)) :
  Calls Try.prog 38 #[.slice A0 l0.length c0] w fun e w' => e = .returned (.tuple #[.complex .f64 r1.re r1.im, .int .i64 r2]) ∧ Below w.heap.size w w' := by
 have HR0 := Aside0.mk hr0
 have HC0 := Aside0.mk hc0
 clear hr0 hc0
 have HB := Aside0.mk (Below.refl w.heap.size w)
 have H : ((meter_check.f k l0).bind fun t136 => (if t136 = 0 then (meter_Total.l0 k (cx 0 0) l0 (l0.length : Int) 0) else (some (cx 0 0, t136)))) = some (r1, r2) := h
 clear h
 replace H := Option.bind_eq_some_iff.mp H
 obtain ⟨t136, A20, H⟩ := H
 replace H : (if t136 = 0 then (meter_Total.l0 k (cx 0 0) l0 (l0.length : Int) 0) else (some (cx 0 0, t136))) = some (r1, r2) := H
 have A2 := Aside0.mk A20
 clear A20
 by_cases c3 : t136 = 0
 ·
  rw [if_pos c3] at H
  have c3b0 : (t136 == 0) = true := beq_iff_eq.mpr c3
  have c3b1 : (t136 != 0) = false := bne_eq_false_iff_eq.mpr c3
  clear c3
  have H' := Aside0.mk H
  clear H
  go_enter Try.func38, Try.ntmps38
  go_wp2_with (first | ((with_reducible refine gate_callee (f := 67) rfl ?_); refine goesL_ (some 9) rfl rfl Try.func67 (by kernel_rfl) rfl #[.slice A0 l0.length c0] rfl (by (try simp only [List.map_toArray, List.map_cons, List.map_nil]); first | done | rfl | (simp only [List.length_drop, List.length_take]; rfl)) ?_; (with_reducible refine (meter_check.calls k _ _ l0 t136 _ ?side1 ?side2 A2.out).mono ?_); (case side1 => repeat (first | exact HR0.out | (with_reducible refine Kd.C_alloc ?_ _) | (with_reducible refine Kd.C_drewN ?_ _) | (with_reducible refine Kd.C_drew ?_))); (case side2 => exact HC0.out); rintro e w4 ⟨rfl, hb⟩; refine ⟨_, rfl, ?_⟩; have n0_ := Aside0.mk (below_step (by repeat (first | (with_reducible first | exact HB.out | apply lA_ | apply lN_ | apply l1_) | exact HB.out)) hb); clear HB; have HB := n0_; clear n0_; (try clear hb); (try clear hb2); (try clear hk); (try clear hi)))
  go_loopg [5, 15] k (fun kq v5 v15 w' => ∃ (x5_1 : Cx) (x15_1 : Int), v5 = .complex .f64 x5_1.re x5_1.im ∧ v15 = .int .i64 x15_1 ∧ Aside0 (meter_Total.l0 kq x5_1 l0 (l0.length : Int) x15_1 = some (r1, r2)) ∧ Aside0 (kq ≤ k) ∧ Aside0 (Below w.heap.size w w'))
  case atStart => exact ⟨(cx 0 0), (0), (by first | rfl | (simp; done) | (simp [*]; done)), (by first | rfl | (simp; done) | (simp [*]; done)), H', ⟨Nat.le_refl _⟩, ⟨by repeat (first | (with_reducible first | exact HB.out | apply lA_ | apply lN_ | apply l1_) | exact HB.out)⟩⟩
  case round =>
   clear H'
   try clear p2
   try clear c3
   try clear c3b0
   try clear c3b1
   obtain ⟨x5_1, x15_1, rfl, rfl, HA, HK1, HB⟩ := hrel
   cases gk with
   | zero => exact absurd HA.out (by simp [meter_Total.l0])
   | succ k1 =>
    have H := HA.out
    clear HA
    simp only [meter_Total.l0] at H
    by_cases c5 : x15_1 < (l0.length : Int)
    ·
     rw [if_pos c5] at H
     have c5b0 : decide (x15_1 < (l0.length : Int)) = true := decide_eq_true c5
     clear c5
     by_cases c6 : 0 ≤ x15_1
     ·
      rw [if_pos c6] at H
      have c6b0 : decide (0 ≤ x15_1) = true := decide_eq_true c6
      clear c6
      by_cases c7 : x15_1 < (l0.length : Int)
      ·
       rw [if_pos c7] at H
       have c7b0 : decide (x15_1 < (l0.length : Int)) = true := decide_eq_true c7
       clear c7
       by_cases c8 : caddok x5_1.re x5_1.im (rdOf (cx 0 0) l0 x15_1).re (rdOf (cx 0 0) l0 x15_1).im = true
       ·
        rw [if_pos c8] at H
        have c8b0 := eq_true c8
        have c8b1 : decide (caddok x5_1.re x5_1.im (rdOf (cx 0 0) l0 x15_1).re (rdOf (cx 0 0) l0 x15_1).im = true) = true := decide_eq_true c8
        clear c8
        have H' := Aside0.mk H
        clear H
        have p137 : 0 ≤ (x15_1 : Int) := of_decide_eq_true (by first | (with_reducible assumption) | assumption)
        have q137 : x15_1 < (l0.length : Int) := of_decide_eq_true (by first | (with_reducible assumption) | assumption)
        obtain ⟨ad137, e137, hx137_0⟩ := Kd.at_c128 HR0.out x15_1 p137 q137
        cases e137
        replace hx137_0 := (HB.out.cell (World.block_lt_of_cell? w _ hx137_0)).trans hx137_0
        replace p137 := eq_true p137
        replace q137 := eq_true q137
        go_wp2
        go_roundg k1
        case measure => have := HK1.out; omega
        case rel => exact ⟨(cx (caddre x5_1.re x5_1.im (rdOf (cx 0 0) l0 x15_1).re (rdOf (cx 0 0) l0 x15_1).im) (caddim x5_1.re x5_1.im (rdOf (cx 0 0) l0 x15_1).re (rdOf (cx 0 0) l0 x15_1).im)), (wrap64 (x15_1 + 1)), (by first | rfl | (simp; done) | (simp [*]; done)), (by first | rfl | (simp; done) | (simp [*]; done)), H', ⟨by have := HK1.out; omega⟩, ⟨by repeat (first | (with_reducible first | exact HB.out | apply lA_ | apply lN_ | apply l1_) | exact HB.out)⟩⟩
       ·
        rw [if_neg c8] at H
        exact absurd H (by simp)
      ·
       rw [if_neg c7] at H
       exact absurd H (by simp)
     ·
      rw [if_neg c6] at H
      exact absurd H (by simp)
    ·
     rw [if_neg c5] at H
     have c5b0 : decide (x15_1 < (l0.length : Int)) = false := decide_eq_false c5
     clear c5
     simp only [Option.some.injEq, Prod.mk.injEq] at H
     obtain ⟨rfl, rfl⟩ := H
     go_wp2
     go_ret2
     exact ⟨by first | rfl | (simp [errW_none, errW_some] <;> rfl) | (simp [*, errW_none, errW_some] <;> rfl), by repeat (first | (with_reducible first | exact HB.out | apply lA_ | apply lN_ | apply l1_) | exact HB.out)⟩
 ·
  rw [if_neg c3] at H
  have c3b0 : (t136 == 0) = false := beq_eq_false_iff_ne.mpr c3
  have c3b1 : (t136 != 0) = true := bne_iff_ne.mpr c3
  simp only [Option.some.injEq, Prod.mk.injEq] at H
  obtain ⟨rfl, rfl⟩ := H
  go_enter Try.func38, Try.ntmps38
  go_wp2_with (first | ((with_reducible refine gate_callee (f := 67) rfl ?_); refine goesL_ (some 9) rfl rfl Try.func67 (by kernel_rfl) rfl #[.slice A0 l0.length c0] rfl (by (try simp only [List.map_toArray, List.map_cons, List.map_nil]); first | done | rfl | (simp only [List.length_drop, List.length_take]; rfl)) ?_; (with_reducible refine (meter_check.calls k _ _ l0 t136 _ ?side1 ?side2 A2.out).mono ?_); (case side1 => repeat (first | exact HR0.out | (with_reducible refine Kd.C_alloc ?_ _) | (with_reducible refine Kd.C_drewN ?_ _) | (with_reducible refine Kd.C_drew ?_))); (case side2 => exact HC0.out); rintro e w9 ⟨rfl, hb⟩; refine ⟨_, rfl, ?_⟩; have n0_ := Aside0.mk (below_step (by repeat (first | (with_reducible first | exact HB.out | apply lA_ | apply lN_ | apply l1_) | exact HB.out)) hb); clear HB; have HB := n0_; clear n0_; (try clear hb); (try clear hb2); (try clear hk); (try clear hi)))
  go_ret2
  exact ⟨by first | rfl | (simp [errW_none, errW_some] <;> rfl) | (simp [*, errW_none, errW_some] <;> rfl), by repeat (first | (with_reducible first | exact HB.out | apply lA_ | apply lN_ | apply l1_) | exact HB.out)⟩

/-! ### meter_Energy: function 39 -/
def meter_Energy.l0 : Nat → Int → Int → List Cx → Int → Int → Option (Int × Int × Int)
 | 0, _, _, _, _, _ => none
 | k + 1, x2, x3, x17, x18, x19 => if x19 < x18 then (if 0 ≤ x19 then (if x19 < (x17.length : Int) then ((meter_Split.f (rdOf (cx 0 0) x17 x19)).bind fun bt140 => (meter_Energy.l0 k (wrap64 (x2 + bt140.1)) (wrap64 (x3 + bt140.2.1)) x17 x18 (wrap64 (x19 + 1)))) else (none)) else (none)) else (some (x2, x3, 0))
def meter_Energy.f (k : Nat) (l0 : List Cx) : Option (Int × Int × Int) := (meter_check.f k l0).bind fun t138 => (if t138 = 0 then (meter_Energy.l0 k 0 0 l0 (l0.length : Int) 0) else (some (0, 0, t138)))
theorem meter_Energy.mono_l : ∀ k, (∀ y0 y1 y2 y3 y4, LeO (meter_Energy.l0 k y0 y1 y2 y3 y4) (meter_Energy.l0 (k + 1) y0 y1 y2 y3 y4))
 | 0 => fun _ _ _ _ _ r h => by simp [meter_Energy.l0] at h
 | k + 1 => by
  have ih0 := meter_Energy.mono_l k
  ·
   intro y0 y1 y2 y3 y4
   unfold meter_Energy.l0
   repeat' first
   | (with_reducible exact ih0 _ _ _ _ _)
   | (with_reducible exact meter_check.mono _ _)
   | (with_reducible exact LeO.refl _)
   | (with_reducible exact LeO.none _)
   | (with_reducible refine LeO.ite ?_ ?_)
   | (with_reducible refine LeO.bind ?_ (fun _ => ?_))
   | exact ih0 _ _ _ _ _
   | exact meter_check.mono _ _
   | exact LeO.none _
   | refine LeO.ite ?_ ?_
   | refine LeO.bind ?_ (fun _ => ?_)
theorem meter_Energy.mono : ∀ a0 k, LeO (meter_Energy.f k a0) (meter_Energy.f (k + 1) a0) := by
 intro a0 k
 have ih0 := meter_Energy.mono_l k
 unfold meter_Energy.f
 repeat' first
   | (with_reducible exact ih0 _ _ _ _ _)
   | (with_reducible exact meter_check.mono _ _)
   | (with_reducible exact LeO.refl _)
   | (with_reducible exact LeO.none _)
   | (with_reducible refine LeO.ite ?_ ?_)
   | (with_reducible refine LeO.bind ?_ (fun _ => ?_))
   | exact ih0 _ _ _ _ _
   | exact meter_check.mono _ _
   | exact LeO.none _
   | refine LeO.ite ?_ ?_
   | refine LeO.bind ?_ (fun _ => ?_)
set_option maxHeartbeats 8000000 in
set_option maxRecDepth 100000 in
theorem meter_Energy.calls (k : Nat) (A0 : Option Addr) (c0 : Nat) (l0 : List Cx) (r1 : Int) (r2 : Int) (r3 : Int) (w : World) (hr0 : Kd.C Kd.c128 w A0 l0.length l0) (hc0 : l0.length ≤ c0) (h : meter_Energy.f k l0 = some (r1, r2, r3)) :
  Calls Try.prog 39 #[.slice A0 l0.length c0] w fun e w' => e = .returned (.tuple #[.int .i64 r1, .int .i64 r2, .int .i64 r3]) ∧ Below w.heap.size w w' := by
 have HR0 := Aside0.mk hr0
 have HC0 := Aside0.mk hc0
 clear hr0 hc0
 have HB := Aside0.mk (Below.refl w.heap.size w)
 have H : ((meter_check.f k l0).bind fun t138 => (if t138 = 0 then (meter_Energy.l0 k 0 0 l0 (l0.length : Int) 0) else (some (0, 0, t138)))) = some (r1, r2, r3) := h
 clear h
 replace H := Option.bind_eq_some_iff.mp H
 obtain ⟨t138, A20, H⟩ := H
 replace H : (if t138 = 0 then (meter_Energy.l0 k 0 0 l0 (l0.length : Int) 0) else (some (0, 0, t138))) = some (r1, r2, r3) := H
 have A2 := Aside0.mk A20
 clear A20
 by_cases c3 : t138 = 0
 ·
  rw [if_pos c3] at H
  have c3b0 : (t138 == 0) = true := beq_iff_eq.mpr c3
  have c3b1 : (t138 != 0) = false := bne_eq_false_iff_eq.mpr c3
  clear c3
  have H' := Aside0.mk H
  clear H
  go_enter Try.func39, Try.ntmps39
  go_wp2_with (first | ((with_reducible refine gate_callee (f := 67) rfl ?_); refine goesL_ (some 13) rfl rfl Try.func67 (by kernel_rfl) rfl #[.slice A0 l0.length c0] rfl (by (try simp only [List.map_toArray, List.map_cons, List.map_nil]); first | done | rfl | (simp only [List.length_drop, List.length_take]; rfl)) ?_; (with_reducible refine (meter_check.calls k _ _ l0 t138 _ ?side1 ?side2 A2.out).mono ?_); (case side1 => repeat (first | exact HR0.out | (with_reducible refine Kd.C_alloc ?_ _) | (with_reducible refine Kd.C_drewN ?_ _) | (with_reducible refine Kd.C_drew ?_))); (case side2 => exact HC0.out); rintro e w4 ⟨rfl, hb⟩; refine ⟨_, rfl, ?_⟩; have n0_ := Aside0.mk (below_step (by repeat (first | (with_reducible first | exact HB.out | apply lA_ | apply lN_ | apply l1_) | exact HB.out)) hb); clear HB; have HB := n0_; clear n0_; (try clear hb); (try clear hb2); (try clear hk); (try clear hi)))
  go_loopg [2, 3, 19] k (fun kq v2 v3 v19 w' => ∃ (x2_1 : Int) (x3_1 : Int) (x19_1 : Int), v2 = .int .i64 x2_1 ∧ v3 = .int .i64 x3_1 ∧ v19 = .int .i64 x19_1 ∧ Aside0 (meter_Energy.l0 kq x2_1 x3_1 l0 (l0.length : Int) x19_1 = some (r1, r2, r3)) ∧ Aside0 (kq ≤ k) ∧ Aside0 (Below w.heap.size w w'))
  case atStart => exact ⟨(0), (0), (0), (by first | rfl | (simp; done) | (simp [*]; done)), (by first | rfl | (simp; done) | (simp [*]; done)), (by first | rfl | (simp; done) | (simp [*]; done)), H', ⟨Nat.le_refl _⟩, ⟨by repeat (first | (with_reducible first | exact HB.out | apply lA_ | apply lN_ | apply l1_) | exact HB.out)⟩⟩
  case round =>
   clear H'
   try clear p2
   try clear c3
   try clear c3b0
   try clear c3b1
   obtain ⟨x2_1, x3_1, x19_1, rfl, rfl, rfl, HA, HK1, HB⟩ := hrel
   cases gk with
   | zero => exact absurd HA.out (by simp [meter_Energy.l0])
   | succ k1 =>
    have H := HA.out
    clear HA
    simp only [meter_Energy.l0] at H
    by_cases c5 : x19_1 < (l0.length : Int)
    ·
     rw [if_pos c5] at H
     have c5b0 : decide (x19_1 < (l0.length : Int)) = true := decide_eq_true c5
     clear c5
     by_cases c6 : 0 ≤ x19_1
     ·
      rw [if_pos c6] at H
      have c6b0 : decide (0 ≤ x19_1) = true := decide_eq_true c6
      clear c6
      by_cases c7 : x19_1 < (l0.length : Int)
      ·
       rw [if_pos c7] at H
       have c7b0 : decide (x19_1 < (l0.length : Int)) = true := decide_eq_true c7
       clear c7
       replace H := Option.bind_eq_some_iff.mp H
       obtain ⟨⟨t140, t141, t142, t143⟩, A80, H⟩ := H
       replace H : (meter_Energy.l0 k1 (wrap64 (x2_1 + t140)) (wrap64 (x3_1 + t141)) l0 (l0.length : Int) (wrap64 (x19_1 + 1))) = some (r1, r2, r3) := H
       have A8 := Aside0.mk A80
       clear A80
       have H' := Aside0.mk H
       clear H
       have p139 : 0 ≤ (x19_1 : Int) := of_decide_eq_true (by first | (with_reducible assumption) | assumption)
       have q139 : x19_1 < (l0.length : Int) := of_decide_eq_true (by first | (with_reducible assumption) | assumption)
       obtain ⟨ad139, e139, hx139_0⟩ := Kd.at_c128 HR0.out x19_1 p139 q139
       cases e139
       replace hx139_0 := (HB.out.cell (World.block_lt_of_cell? w _ hx139_0)).trans hx139_0
       replace p139 := eq_true p139
       replace q139 := eq_true q139
       go_wp2_with (first | ((with_reducible refine gate_callee (f := 31) rfl ?_); refine goesL_ (some 25) rfl rfl Try.func31 (by kernel_rfl) rfl #[.complex .f64 (rdOf (cx 0 0) l0 x19_1).re (rdOf (cx 0 0) l0 x19_1).im] rfl (by (try simp only [List.map_toArray, List.map_cons, List.map_nil]); first | done | rfl | (simp only [List.length_drop, List.length_take]; rfl)) ?_; (with_reducible refine (meter_Split.calls (rdOf (cx 0 0) l0 x19_1) t140 t141 t142 t143 _ A8.out).mono ?_); rintro e w9 ⟨rfl, hb⟩; refine ⟨_, rfl, ?_⟩; have n0_ := Aside0.mk (below_step (by repeat (first | (with_reducible first | exact HB.out | apply lA_ | apply lN_ | apply l1_) | exact HB.out)) hb); clear HB; have HB := n0_; clear n0_; (try clear hb); (try clear hb2); (try clear hk); (try clear hi)))
       go_roundg k1
       case measure => have := HK1.out; omega
       case rel => exact ⟨(wrap64 (x2_1 + t140)), (wrap64 (x3_1 + t141)), (wrap64 (x19_1 + 1)), (by first | rfl | (simp; done) | (simp [*]; done)), (by first | rfl | (simp; done) | (simp [*]; done)), (by first | rfl | (simp; done) | (simp [*]; done)), H', ⟨by have := HK1.out; omega⟩, ⟨by repeat (first | (with_reducible first | exact HB.out | apply lA_ | apply lN_ | apply l1_) | exact HB.out)⟩⟩
      ·
       rw [if_neg c7] at H
       exact absurd H (by simp)
     ·
      rw [if_neg c6] at H
      exact absurd H (by simp)
    ·
     rw [if_neg c5] at H
     have c5b0 : decide (x19_1 < (l0.length : Int)) = false := decide_eq_false c5
     clear c5
     simp only [Option.some.injEq, Prod.mk.injEq] at H
     obtain ⟨rfl, rfl, rfl⟩ := H
     go_wp2
     go_ret3
     exact ⟨by first | rfl | (simp [errW_none, errW_some] <;> rfl) | (simp [*, errW_none, errW_some] <;> rfl), by repeat (first | (with_reducible first | exact HB.out | apply lA_ | apply lN_ | apply l1_) | exact HB.out)⟩
 ·
  rw [if_neg c3] at H
  have c3b0 : (t138 == 0) = false := beq_eq_false_iff_ne.mpr c3
  have c3b1 : (t138 != 0) = true := bne_iff_ne.mpr c3
  simp only [Option.some.injEq, Prod.mk.injEq] at H
  obtain ⟨rfl, rfl, rfl⟩ := H
  go_enter Try.func39, Try.ntmps39
  go_wp2_with (first | ((with_reducible refine gate_callee (f := 67) rfl ?_); refine goesL_ (some 13) rfl rfl Try.func67 (by kernel_rfl) rfl #[.slice A0 l0.length c0] rfl (by (try simp only [List.map_toArray, List.map_cons, List.map_nil]); first | done | rfl | (simp only [List.length_drop, List.length_take]; rfl)) ?_; (with_reducible refine (meter_check.calls k _ _ l0 t138 _ ?side1 ?side2 A2.out).mono ?_); (case side1 => repeat (first | exact HR0.out | (with_reducible refine Kd.C_alloc ?_ _) | (with_reducible refine Kd.C_drewN ?_ _) | (with_reducible refine Kd.C_drew ?_))); (case side2 => exact HC0.out); rintro e w10 ⟨rfl, hb⟩; refine ⟨_, rfl, ?_⟩; have n0_ := Aside0.mk (below_step (by repeat (first | (with_reducible first | exact HB.out | apply lA_ | apply lN_ | apply l1_) | exact HB.out)) hb); clear HB; have HB := n0_; clear n0_; (try clear hb); (try clear hb2); (try clear hk); (try clear hi)))
  go_ret3
  exact ⟨by first | rfl | (simp [errW_none, errW_some] <;> rfl) | (simp [*, errW_none, errW_some] <;> rfl), by repeat (first | (with_reducible first | exact HB.out | apply lA_ | apply lN_ | apply l1_) | exact HB.out)⟩

/-! ### pylonlaw12_plays: function 40 -/
def pylonlaw12_plays.f (k : Nat) (a0_0 : Int) (a0_1 : Nat) (a0_2 : Nat) (a0_3 : Int) (a0_4 : Int) (a0_5 : Int) (a0_6 : Int) (a0_7 : Int) (a0_8 : Int) (a0_9 : Int) (l0_10 : List (S25)) (l0_11 : List (S47)) : Option (Bool × Cx × Int × Int × Int × List Cx × Int) := if a0_0 = 1 then ((pylonlaw12_Z_c.f a0_1 a0_2).bind fun t147 => ((meter_Fits.f t147).bind fun t148 => (some (t148, cx 0 0, 0, 0, 0, ([] : List Cx), 0)))) else (if a0_0 = 2 then ((meter_Point.f k a0_3 a0_4 a0_5 a0_6 a0_7 a0_8 a0_9).bind fun bt149 => (some (false, bt149.1, 0, 0, 0, ([] : List Cx), bt149.2))) else (if a0_0 = 3 then ((meter_Series.f k l0_10 a0_8 a0_9).bind fun bt151 => (some (false, cx 0 0, 0, 0, 0, bt151.1, bt151.2))) else (if a0_0 = 4 then ((pylonlaw12_Z_c.f a0_1 a0_2).bind fun t155 => ((meter_Split.f t155).bind fun bt156 => (some (false, cx 0 0, bt156.1, bt156.2.1, bt156.2.2.1, ([] : List Cx), bt156.2.2.2)))) else (if a0_0 = 5 then ((pylonlaw12_numbers.f k l0_11).bind fun t160 => ((meter_Total.f k t160).bind fun bt163 => (some (false, bt163.1, 0, 0, 0, ([] : List Cx), bt163.2)))) else (if a0_0 = 6 then ((pylonlaw12_numbers.f k l0_11).bind fun t165 => ((meter_Energy.f k t165).bind fun bt168 => (some (false, cx 0 0, bt168.1, bt168.2.1, 0, ([] : List Cx), bt168.2.2)))) else (some (false, cx 0 0, 0, 0, 0, ([] : List Cx), 0)))))))
theorem pylonlaw12_plays.mono : ∀ a0 a1 a2 a3 a4 a5 a6 a7 a8 a9 a10 a11 k, LeO (pylonlaw12_plays.f k a0 a1 a2 a3 a4 a5 a6 a7 a8 a9 a10 a11) (pylonlaw12_plays.f (k + 1) a0 a1 a2 a3 a4 a5 a6 a7 a8 a9 a10 a11) := by
 intro a0 a1 a2 a3 a4 a5 a6 a7 a8 a9 a10 a11 k
 unfold pylonlaw12_plays.f
 repeat' first
   | (with_reducible exact meter_Energy.mono _ _)
   | (with_reducible exact meter_Point.mono _ _ _ _ _ _ _ _)
   | (with_reducible exact meter_Series.mono _ _ _ _)
   | (with_reducible exact meter_Total.mono _ _)
   | (with_reducible exact pylonlaw12_numbers.mono _ _)
   | (with_reducible exact LeO.refl _)
   | (with_reducible exact LeO.none _)
   | (with_reducible refine LeO.ite ?_ ?_)
   | (with_reducible refine LeO.bind ?_ (fun _ => ?_))
   | exact meter_Energy.mono _ _
   | exact meter_Point.mono _ _ _ _ _ _ _ _
   | exact meter_Series.mono _ _ _ _
   | exact meter_Total.mono _ _
   | exact pylonlaw12_numbers.mono _ _
   | exact LeO.none _
   | refine LeO.ite ?_ ?_
   | refine LeO.bind ?_ (fun _ => ?_)
set_option maxHeartbeats 8000000 in
set_option maxRecDepth 100000 in
theorem pylonlaw12_plays.calls (k : Nat) (a0_0 : Int) (a0_1 : Nat) (a0_2 : Nat) (a0_3 : Int) (a0_4 : Int) (a0_5 : Int) (a0_6 : Int) (a0_7 : Int) (a0_8 : Int) (a0_9 : Int) (A0_10 : Option Addr) (c0_10 : Nat) (l0_10 : List (S25)) (A0_11 : Option Addr) (c0_11 : Nat) (l0_11 : List (S47)) (r1 : Bool) (r2 : Cx) (r3 : Int) (r4 : Int) (r5 : Int) (r6 : List Cx) (r7 : Int) (w : World) (hr0_10 : Kd.C k25 w A0_10 l0_10.length l0_10) (hc0_10 : l0_10.length ≤ c0_10) (hr0_11 : Kd.C k47 w A0_11 l0_11.length l0_11) (hc0_11 : l0_11.length ≤ c0_11) (h : pylonlaw12_plays.f k a0_0 a0_1 a0_2 a0_3 a0_4 a0_5 a0_6 a0_7 a0_8 a0_9 l0_10 l0_11 = some (r1, r2, r3, r4, r5, r6, r7)) :
  Calls Try.prog 40 #[.agg #[.int .i64 a0_0, .float .f64 a0_1, .float .f64 a0_2, .int .i64 a0_3, .int .i64 a0_4, .int .i64 a0_5, .int .i64 a0_6, .int .u8 a0_7, .int .i64 a0_8, .int .i64 a0_9, .slice A0_10 l0_10.length c0_10, .slice A0_11 l0_11.length c0_11]] w fun e w' => ∃ v5_ : Value, e = .returned (.agg #[.bool r1, .complex .f64 r2.re r2.im, .int .i64 r3, .int .i64 r4, .int .i64 r5, v5_, .int .i64 r7]) ∧ Kd.R Kd.c128 31 w' w.heap.size (fun _ => True) v5_ r6 ∧ Below w.heap.size w w' := by
 have hu73 := Try.underlying73
 have hu70 := Try.underlying70
 have hu47 := Try.underlying47
 have hu25 := Try.underlying25
 have HR0_10 := Aside0.mk hr0_10
 have HC0_10 := Aside0.mk hc0_10
 clear hr0_10 hc0_10
 have HR0_11 := Aside0.mk hr0_11
 have HC0_11 := Aside0.mk hc0_11
 clear hr0_11 hc0_11
 have HB := Aside0.mk (Below.refl w.heap.size w)
 have H : (if a0_0 = 1 then ((pylonlaw12_Z_c.f a0_1 a0_2).bind fun t147 => ((meter_Fits.f t147).bind fun t148 => (some (t148, cx 0 0, 0, 0, 0, ([] : List Cx), 0)))) else (if a0_0 = 2 then ((meter_Point.f k a0_3 a0_4 a0_5 a0_6 a0_7 a0_8 a0_9).bind fun bt149 => (some (false, bt149.1, 0, 0, 0, ([] : List Cx), bt149.2))) else (if a0_0 = 3 then ((meter_Series.f k l0_10 a0_8 a0_9).bind fun bt151 => (some (false, cx 0 0, 0, 0, 0, bt151.1, bt151.2))) else (if a0_0 = 4 then ((pylonlaw12_Z_c.f a0_1 a0_2).bind fun t155 => ((meter_Split.f t155).bind fun bt156 => (some (false, cx 0 0, bt156.1, bt156.2.1, bt156.2.2.1, ([] : List Cx), bt156.2.2.2)))) else (if a0_0 = 5 then ((pylonlaw12_numbers.f k l0_11).bind fun t160 => ((meter_Total.f k t160).bind fun bt163 => (some (false, bt163.1, 0, 0, 0, ([] : List Cx), bt163.2)))) else (if a0_0 = 6 then ((pylonlaw12_numbers.f k l0_11).bind fun t165 => ((meter_Energy.f k t165).bind fun bt168 => (some (false, cx 0 0, bt168.1, bt168.2.1, 0, ([] : List Cx), bt168.2.2)))) else (some (false, cx 0 0, 0, 0, 0, ([] : List Cx), 0)))))))) = some (r1, r2, r3, r4, r5, r6, r7) := h
 clear h
 by_cases c2 : a0_0 = 1
 ·
  rw [if_pos c2] at H
  have c2b0 : (a0_0 == 1) = true := beq_iff_eq.mpr c2
  have c2b1 : (a0_0 != 1) = false := bne_eq_false_iff_eq.mpr c2
  clear c2
  replace H := Option.bind_eq_some_iff.mp H
  obtain ⟨t147, A30, H⟩ := H
  replace H : ((meter_Fits.f t147).bind fun t148 => (some (t148, cx 0 0, 0, 0, 0, ([] : List Cx), 0))) = some (r1, r2, r3, r4, r5, r6, r7) := H
  have A3 := Aside0.mk A30
  clear A30
  replace H := Option.bind_eq_some_iff.mp H
  obtain ⟨t148, A40, H⟩ := H
  replace H : (some (t148, cx 0 0, 0, 0, 0, ([] : List Cx), 0)) = some (r1, r2, r3, r4, r5, r6, r7) := H
  have A4 := Aside0.mk A40
  clear A40
  simp only [Option.some.injEq, Prod.mk.injEq] at H
  obtain ⟨rfl, rfl, rfl, rfl, rfl, rfl, rfl⟩ := H
  go_enter Try.func40, Try.ntmps40
  go_wp2_with (first | ((with_reducible refine gate_dst (N := 1) rfl ?_); refine box_event ?hg (N := 1) ?hd (cs := #[.int .i64 a0_0, .float .f64 a0_1, .float .f64 a0_2, .int .i64 a0_3, .int .i64 a0_4, .int .i64 a0_5, .int .i64 a0_6, .int .u8 a0_7, .int .i64 a0_8, .int .i64 a0_9, .slice A0_10 l0_10.length c0_10, .slice A0_11 l0_11.length c0_11]) (t := 73) ?hr ?_; (case hd => rfl); (case hg => rfl); (case hr => first | (go_simp; done) | (go_simp; rfl)); intro gb144 hg w5 hbox hb; have n0_ := Aside0.mk (below_step (by repeat (first | (with_reducible first | exact HB.out | apply lA_ | apply lN_ | apply l1_) | exact HB.out)) hb); have n1_ := Aside0.mk (hbox); have n2_ := Aside0.mk ((by rw [hg]; exact (below_size (by repeat (first | (with_reducible first | exact HB.out | apply lA_ | apply lN_ | apply l1_) | exact HB.out))) : w.heap.size ≤ gb144)); have n3_ := Aside0.mk ((by rw [hg]; exact (below_size (by repeat (first | (with_reducible first | exact HB.out | apply lA_ | apply lN_ | apply l1_) | exact HB.out))) : w.heap.size ≤ gb144)); clear HB; have HB := n0_; have BK144 := n1_; have GW144 := n2_; have GE144 := n3_; clear n0_ n1_ n2_ n3_; clear hb hbox hg) | ((with_reducible refine gate_dst (N := 2) rfl ?_); refine box_event ?hg (N := 2) ?hd (cs := #[.bool false, .complex .f64 0 0, .int .i64 0, .int .i64 0, .int .i64 0, .slice none 0 0, .int .i64 0]) (t := 70) ?hr ?_; (case hd => rfl); (case hg => rfl); (case hr => first | (go_simp; done) | (go_simp; rfl)); intro gb145 hg w6 hbox hb; have n0_ := Aside0.mk (bB_ (g := gb144) (o := .cells #[.int .i64 a0_0, .float .f64 a0_1, .float .f64 a0_2, .int .i64 a0_3, .int .i64 a0_4, .int .i64 a0_5, .int .i64 a0_6, .int .u8 a0_7, .int .i64 a0_8, .int .i64 a0_9, .slice A0_10 l0_10.length c0_10, .slice A0_11 l0_11.length c0_11] 73 (0, 0)) (by (with_reducible repeat (first | refine bN_ ?_ _ | refine bD_ ?_ | refine bA_ ?_ _)); exact BK144.out) hb); have n1_ := Aside0.mk (below_step (by repeat (first | (with_reducible first | exact HB.out | apply lA_ | apply lN_ | apply l1_ | refine lS_ ?_ GE144.out) | exact HB.out)) hb); have n2_ := Aside0.mk (hbox); have n3_ := Aside0.mk ((by rw [hg]; exact (below_size (by repeat (first | (with_reducible first | exact HB.out | apply lA_ | apply lN_ | apply l1_ | refine lS_ ?_ GE144.out) | exact HB.out))) : w.heap.size ≤ gb145)); have n4_ := Aside0.mk ((by rw [hg]; exact (below_size (by repeat (first | (with_reducible first | exact HB.out | apply lA_ | apply lN_ | apply l1_ | refine lS_ ?_ GE144.out) | exact HB.out))) : w.heap.size ≤ gb145)); have n5_ := Aside0.mk ((by rw [hg]; exact Nat.ne_of_lt (blk_lt (g := gb144) (o := .cells #[.int .i64 a0_0, .float .f64 a0_1, .float .f64 a0_2, .int .i64 a0_3, .int .i64 a0_4, .int .i64 a0_5, .int .i64 a0_6, .int .u8 a0_7, .int .i64 a0_8, .int .i64 a0_9, .slice A0_10 l0_10.length c0_10, .slice A0_11 l0_11.length c0_11] 73 (0, 0)) (by (with_reducible repeat (first | refine bN_ ?_ _ | refine bD_ ?_ | refine bA_ ?_ _)); exact BK144.out)) : gb144 ≠ gb145)); have n6_ := Aside0.mk ((by rw [hg]; exact Nat.ne_of_gt (blk_lt (g := gb144) (o := .cells #[.int .i64 a0_0, .float .f64 a0_1, .float .f64 a0_2, .int .i64 a0_3, .int .i64 a0_4, .int .i64 a0_5, .int .i64 a0_6, .int .u8 a0_7, .int .i64 a0_8, .int .i64 a0_9, .slice A0_10 l0_10.length c0_10, .slice A0_11 l0_11.length c0_11] 73 (0, 0)) (by (with_reducible repeat (first | refine bN_ ?_ _ | refine bD_ ?_ | refine bA_ ?_ _)); exact BK144.out)) : gb145 ≠ gb144)); clear BK144; clear HB; have BK144 := n0_; have HB := n1_; have BK145 := n2_; have GW145 := n3_; have GE145 := n4_; have NB144_145 := n5_; have NB145_144 := n6_; clear n0_ n1_ n2_ n3_ n4_ n5_ n6_; clear hb hbox hg) | ((with_reducible refine gate_dst (N := 3) rfl ?_); refine box_event ?hg (N := 3) ?hd (cs := #[.bool false, .complex .f64 0 0, .int .i64 0, .int .i64 0, .int .i64 0, .slice none 0 0, .int .i64 0]) (t := 70) ?hr ?_; (case hd => rfl); (case hg => rfl); (case hr => first | (go_simp; done) | (go_simp; rfl)); intro gb146 hg w7 hbox hb; have n0_ := Aside0.mk (bB_ (g := gb144) (o := .cells #[.int .i64 a0_0, .float .f64 a0_1, .float .f64 a0_2, .int .i64 a0_3, .int .i64 a0_4, .int .i64 a0_5, .int .i64 a0_6, .int .u8 a0_7, .int .i64 a0_8, .int .i64 a0_9, .slice A0_10 l0_10.length c0_10, .slice A0_11 l0_11.length c0_11] 73 (0, 0)) (by (with_reducible repeat (first | refine bN_ ?_ _ | refine bD_ ?_ | refine bA_ ?_ _)); exact BK144.out) hb); have n1_ := Aside0.mk (bB_ (g := gb145) (o := .cells #[.bool false, .complex .f64 0 0, .int .i64 0, .int .i64 0, .int .i64 0, .slice none 0 0, .int .i64 0] 70 (0, 0)) (by (with_reducible repeat (first | refine bN_ ?_ _ | refine bD_ ?_ | refine bA_ ?_ _)); exact BK145.out) hb); have n2_ := Aside0.mk (below_step (by repeat (first | (with_reducible first | exact HB.out | apply lA_ | apply lN_ | apply l1_ | refine lS_ ?_ GE144.out | refine lS_ ?_ GE145.out) | exact HB.out)) hb); have n3_ := Aside0.mk (hbox); have n4_ := Aside0.mk ((by rw [hg]; exact (below_size (by repeat (first | (with_reducible first | exact HB.out | apply lA_ | apply lN_ | apply l1_ | refine lS_ ?_ GE144.out | refine lS_ ?_ GE145.out) | exact HB.out))) : w.heap.size ≤ gb146)); have n5_ := Aside0.mk ((by rw [hg]; exact (below_size (by repeat (first | (with_reducible first | exact HB.out | apply lA_ | apply lN_ | apply l1_ | refine lS_ ?_ GE144.out | refine lS_ ?_ GE145.out) | exact HB.out))) : w.heap.size ≤ gb146)); have n6_ := Aside0.mk ((by rw [hg]; exact Nat.ne_of_lt (blk_lt (g := gb144) (o := .cells #[.int .i64 a0_0, .float .f64 a0_1, .float .f64 a0_2, .int .i64 a0_3, .int .i64 a0_4, .int .i64 a0_5, .int .i64 a0_6, .int .u8 a0_7, .int .i64 a0_8, .int .i64 a0_9, .slice A0_10 l0_10.length c0_10, .slice A0_11 l0_11.length c0_11] 73 (0, 0)) (by (with_reducible repeat (first | refine bN_ ?_ _ | refine bD_ ?_ | refine bA_ ?_ _)); exact BK144.out)) : gb144 ≠ gb146)); have n7_ := Aside0.mk ((by rw [hg]; exact Nat.ne_of_gt (blk_lt (g := gb144) (o := .cells #[.int .i64 a0_0, .float .f64 a0_1, .float .f64 a0_2, .int .i64 a0_3, .int .i64 a0_4, .int .i64 a0_5, .int .i64 a0_6, .int .u8 a0_7, .int .i64 a0_8, .int .i64 a0_9, .slice A0_10 l0_10.length c0_10, .slice A0_11 l0_11.length c0_11] 73 (0, 0)) (by (with_reducible repeat (first | refine bN_ ?_ _ | refine bD_ ?_ | refine bA_ ?_ _)); exact BK144.out)) : gb146 ≠ gb144)); have n8_ := Aside0.mk ((by rw [hg]; exact Nat.ne_of_lt (blk_lt (g := gb145) (o := .cells #[.bool false, .complex .f64 0 0, .int .i64 0, .int .i64 0, .int .i64 0, .slice none 0 0, .int .i64 0] 70 (0, 0)) (by (with_reducible repeat (first | refine bN_ ?_ _ | refine bD_ ?_ | refine bA_ ?_ _)); exact BK145.out)) : gb145 ≠ gb146)); have n9_ := Aside0.mk ((by rw [hg]; exact Nat.ne_of_gt (blk_lt (g := gb145) (o := .cells #[.bool false, .complex .f64 0 0, .int .i64 0, .int .i64 0, .int .i64 0, .slice none 0 0, .int .i64 0] 70 (0, 0)) (by (with_reducible repeat (first | refine bN_ ?_ _ | refine bD_ ?_ | refine bA_ ?_ _)); exact BK145.out)) : gb146 ≠ gb145)); clear BK144; clear BK145; clear HB; have BK144 := n0_; have BK145 := n1_; have HB := n2_; have BK146 := n3_; have GW146 := n4_; have GE146 := n5_; have NB144_146 := n6_; have NB146_144 := n7_; have NB145_146 := n8_; have NB146_145 := n9_; clear n0_ n1_ n2_ n3_ n4_ n5_ n6_ n7_ n8_ n9_; clear hb hbox hg; have hnb8 := NB144_145.out; have hnc8 := NB145_144.out; have hnb9 := NB144_146.out; have hnc9 := NB146_144.out; have hcz10_0 : w7.cell? ⟨gb144, 0, none⟩ = some (.int .i64 a0_0) := (bC_ BK144.out 0).trans rfl; have hcz10_1 : w7.cell? ⟨gb144, 1, none⟩ = some (.float .f64 a0_1) := (bC_ BK144.out 1).trans rfl; have hcz10_2 : w7.cell? ⟨gb144, 2, none⟩ = some (.float .f64 a0_2) := (bC_ BK144.out 2).trans rfl; have hcz10_3 : w7.cell? ⟨gb144, 3, none⟩ = some (.int .i64 a0_3) := (bC_ BK144.out 3).trans rfl; have hcz10_4 : w7.cell? ⟨gb144, 4, none⟩ = some (.int .i64 a0_4) := (bC_ BK144.out 4).trans rfl; have hcz10_5 : w7.cell? ⟨gb144, 5, none⟩ = some (.int .i64 a0_5) := (bC_ BK144.out 5).trans rfl; have hcz10_6 : w7.cell? ⟨gb144, 6, none⟩ = some (.int .i64 a0_6) := (bC_ BK144.out 6).trans rfl; have hcz10_7 : w7.cell? ⟨gb144, 7, none⟩ = some (.int .u8 a0_7) := (bC_ BK144.out 7).trans rfl; have hcz10_8 : w7.cell? ⟨gb144, 8, none⟩ = some (.int .i64 a0_8) := (bC_ BK144.out 8).trans rfl; have hcz10_9 : w7.cell? ⟨gb144, 9, none⟩ = some (.int .i64 a0_9) := (bC_ BK144.out 9).trans rfl; have hcz10_10 : w7.cell? ⟨gb144, 10, none⟩ = some (.slice A0_10 l0_10.length c0_10) := (bC_ BK144.out 10).trans rfl; have hcz10_11 : w7.cell? ⟨gb144, 11, none⟩ = some (.slice A0_11 l0_11.length c0_11) := (bC_ BK144.out 11).trans rfl; have hfz10_0 := bZ_ BK144.out 0; have hfz10_1 := bZ_ BK144.out 1; have hfz10_2 := bZ_ BK144.out 2; have hfz10_3 := bZ_ BK144.out 3; have hfz10_4 := bZ_ BK144.out 4; have hfz10_5 := bZ_ BK144.out 5; have hfz10_6 := bZ_ BK144.out 6; have hfz10_7 := bZ_ BK144.out 7; have hfz10_8 := bZ_ BK144.out 8; have hfz10_9 := bZ_ BK144.out 9; have hfz10_10 := bZ_ BK144.out 10; have hfz10_11 := bZ_ BK144.out 11) | ((with_reducible refine gate_callee (f := 30) rfl ?_); refine goesL_ (some 10) rfl rfl Try.func30 (by kernel_rfl) rfl #[.agg #[.float .f64 a0_1, .float .f64 a0_2]] rfl (by (try simp only [List.map_toArray, List.map_cons, List.map_nil]); first | done | rfl | (simp only [List.length_drop, List.length_take]; rfl)) ?_; (with_reducible refine (pylonlaw12_Z_c.calls a0_1 a0_2 t147 _ A3.out).mono ?_); rintro e w11 ⟨rfl, hb⟩; refine ⟨_, rfl, ?_⟩; have n0_ := Aside0.mk (bB_ (g := gb144) (o := .cells #[.int .i64 a0_0, .float .f64 a0_1, .float .f64 a0_2, .int .i64 a0_3, .int .i64 a0_4, .int .i64 a0_5, .int .i64 a0_6, .int .u8 a0_7, .int .i64 a0_8, .int .i64 a0_9, .slice A0_10 l0_10.length c0_10, .slice A0_11 l0_11.length c0_11] 73 (0, 0)) (by (with_reducible repeat (first | refine bN_ ?_ _ | refine bD_ ?_ | refine bA_ ?_ _)); exact BK144.out) hb); have n1_ := Aside0.mk (bB_ (g := gb145) (o := .cells #[.bool false, .complex .f64 0 0, .int .i64 0, .int .i64 0, .int .i64 0, .slice none 0 0, .int .i64 0] 70 (0, 0)) (by (with_reducible repeat (first | refine bN_ ?_ _ | refine bD_ ?_ | refine bA_ ?_ _)); exact BK145.out) hb); have n2_ := Aside0.mk (bB_ (g := gb146) (o := .cells #[.bool false, .complex .f64 0 0, .int .i64 0, .int .i64 0, .int .i64 0, .slice none 0 0, .int .i64 0] 70 (0, 0)) (by (with_reducible repeat (first | refine bN_ ?_ _ | refine bD_ ?_ | refine bA_ ?_ _)); exact BK146.out) hb); have n3_ := Aside0.mk (below_step (by repeat (first | (with_reducible first | exact HB.out | apply lA_ | apply lN_ | apply l1_ | refine lS_ ?_ GE144.out | refine lS_ ?_ GE145.out | refine lS_ ?_ GE146.out) | exact HB.out)) hb); clear BK144; clear BK145; clear BK146; clear HB; have BK144 := n0_; have BK145 := n1_; have BK146 := n2_; have HB := n3_; clear n0_ n1_ n2_ n3_; (try clear hb); (try clear hb2); (try clear hk); (try clear hi)) | ((with_reducible refine gate_callee (f := 29) rfl ?_); refine goesL_ (some 11) rfl rfl Try.func29 (by kernel_rfl) rfl #[.complex .f64 t147.re t147.im] rfl (by (try simp only [List.map_toArray, List.map_cons, List.map_nil]); first | done | rfl | (simp only [List.length_drop, List.length_take]; rfl)) ?_; (with_reducible refine (meter_Fits.calls t147 t148 _ A4.out).mono ?_); rintro e w12 ⟨rfl, hb⟩; refine ⟨_, rfl, ?_⟩; have n0_ := Aside0.mk (bB_ (g := gb144) (o := .cells #[.int .i64 a0_0, .float .f64 a0_1, .float .f64 a0_2, .int .i64 a0_3, .int .i64 a0_4, .int .i64 a0_5, .int .i64 a0_6, .int .u8 a0_7, .int .i64 a0_8, .int .i64 a0_9, .slice A0_10 l0_10.length c0_10, .slice A0_11 l0_11.length c0_11] 73 (0, 0)) (by (with_reducible repeat (first | refine bN_ ?_ _ | refine bD_ ?_ | refine bA_ ?_ _)); exact BK144.out) hb); have n1_ := Aside0.mk (bB_ (g := gb145) (o := .cells #[.bool false, .complex .f64 0 0, .int .i64 0, .int .i64 0, .int .i64 0, .slice none 0 0, .int .i64 0] 70 (0, 0)) (by (with_reducible repeat (first | refine bN_ ?_ _ | refine bD_ ?_ | refine bA_ ?_ _)); exact BK145.out) hb); have n2_ := Aside0.mk (bB_ (g := gb146) (o := .cells #[.bool false, .complex .f64 0 0, .int .i64 0, .int .i64 0, .int .i64 0, .slice none 0 0, .int .i64 0] 70 (0, 0)) (by (with_reducible repeat (first | refine bN_ ?_ _ | refine bD_ ?_ | refine bA_ ?_ _)); exact BK146.out) hb); have n3_ := Aside0.mk (below_step (by repeat (first | (with_reducible first | exact HB.out | apply lA_ | apply lN_ | apply l1_ | refine lS_ ?_ GE144.out | refine lS_ ?_ GE145.out | refine lS_ ?_ GE146.out) | exact HB.out)) hb); clear BK144; clear BK145; clear BK146; clear HB; have BK144 := n0_; have BK145 := n1_; have BK146 := n2_; have HB := n3_; clear n0_ n1_ n2_ n3_; (try clear hb); (try clear hb2); (try clear hk); (try clear hi); have hnb13 := NB146_145.out; have hnc13 := NB145_146.out; have hcz14_0 : w12.cell? ⟨gb146, 0, none⟩ = some (.bool false) := (bC_ BK146.out 0).trans rfl; have hcz14_1 : w12.cell? ⟨gb146, 1, none⟩ = some (.complex .f64 0 0) := (bC_ BK146.out 1).trans rfl; have hcz14_2 : w12.cell? ⟨gb146, 2, none⟩ = some (.int .i64 0) := (bC_ BK146.out 2).trans rfl; have hcz14_3 : w12.cell? ⟨gb146, 3, none⟩ = some (.int .i64 0) := (bC_ BK146.out 3).trans rfl; have hcz14_4 : w12.cell? ⟨gb146, 4, none⟩ = some (.int .i64 0) := (bC_ BK146.out 4).trans rfl; have hcz14_5 : w12.cell? ⟨gb146, 5, none⟩ = some (.slice none 0 0) := (bC_ BK146.out 5).trans rfl; have hcz14_6 : w12.cell? ⟨gb146, 6, none⟩ = some (.int .i64 0) := (bC_ BK146.out 6).trans rfl; have hfz14_0 := bZ_ BK146.out 0; have hfz14_1 := bZ_ BK146.out 1; have hfz14_2 := bZ_ BK146.out 2; have hfz14_3 := bZ_ BK146.out 3; have hfz14_4 := bZ_ BK146.out 4; have hfz14_5 := bZ_ BK146.out 5; have hfz14_6 := bZ_ BK146.out 6; have hcz15_0 : w12.cell? ⟨gb145, 0, none⟩ = some (.bool false) := (bC_ BK145.out 0).trans rfl; have hcz15_1 : w12.cell? ⟨gb145, 1, none⟩ = some (.complex .f64 0 0) := (bC_ BK145.out 1).trans rfl; have hcz15_2 : w12.cell? ⟨gb145, 2, none⟩ = some (.int .i64 0) := (bC_ BK145.out 2).trans rfl; have hcz15_3 : w12.cell? ⟨gb145, 3, none⟩ = some (.int .i64 0) := (bC_ BK145.out 3).trans rfl; have hcz15_4 : w12.cell? ⟨gb145, 4, none⟩ = some (.int .i64 0) := (bC_ BK145.out 4).trans rfl; have hcz15_5 : w12.cell? ⟨gb145, 5, none⟩ = some (.slice none 0 0) := (bC_ BK145.out 5).trans rfl; have hcz15_6 : w12.cell? ⟨gb145, 6, none⟩ = some (.int .i64 0) := (bC_ BK145.out 6).trans rfl; have hfz15_0 := bZ_ BK145.out 0; have hfz15_1 := bZ_ BK145.out 1; have hfz15_2 := bZ_ BK145.out 2; have hfz15_3 := bZ_ BK145.out 3; have hfz15_4 := bZ_ BK145.out 4; have hfz15_5 := bZ_ BK145.out 5; have hfz15_6 := bZ_ BK145.out 6))
  refine bodyPost_ret (results_cell_row rfl _ _ gb145 70 #[.bool t148, .complex .f64 0 0, .int .i64 0, .int .i64 0, .int .i64 0, .slice none 0 0, .int .i64 0] (0, 0) _ rfl (by (with_reducible repeat (first | refine bN_ ?_ _ | refine bD_ ?_ | refine bA_ ?_ _)); refine bP_ (cs := #[.bool t148, .complex .f64 0 0, .int .i64 0, .int .i64 0, .int .i64 0, .slice none 0 0, .int .i64 0]) ?_ 6 _ rfl; (with_reducible repeat (first | refine bN_ ?_ _ | refine bD_ ?_ | refine bA_ ?_ _)); refine bP_ (cs := #[.bool t148, .complex .f64 0 0, .int .i64 0, .int .i64 0, .int .i64 0, .slice none 0 0, .int .i64 0]) ?_ 5 _ rfl; (with_reducible repeat (first | refine bN_ ?_ _ | refine bD_ ?_ | refine bA_ ?_ _)); refine bP_ (cs := #[.bool t148, .complex .f64 0 0, .int .i64 0, .int .i64 0, .int .i64 0, .slice none 0 0, .int .i64 0]) ?_ 4 _ rfl; (with_reducible repeat (first | refine bN_ ?_ _ | refine bD_ ?_ | refine bA_ ?_ _)); refine bP_ (cs := #[.bool t148, .complex .f64 0 0, .int .i64 0, .int .i64 0, .int .i64 0, .slice none 0 0, .int .i64 0]) ?_ 3 _ rfl; (with_reducible repeat (first | refine bN_ ?_ _ | refine bD_ ?_ | refine bA_ ?_ _)); refine bP_ (cs := #[.bool t148, .complex .f64 0 0, .int .i64 0, .int .i64 0, .int .i64 0, .slice none 0 0, .int .i64 0]) ?_ 2 _ rfl; (with_reducible repeat (first | refine bN_ ?_ _ | refine bD_ ?_ | refine bA_ ?_ _)); refine bP_ (cs := #[.bool t148, .complex .f64 0 0, .int .i64 0, .int .i64 0, .int .i64 0, .slice none 0 0, .int .i64 0]) ?_ 1 _ rfl; (with_reducible repeat (first | refine bN_ ?_ _ | refine bD_ ?_ | refine bA_ ?_ _)); refine bP_ (cs := #[.bool false, .complex .f64 0 0, .int .i64 0, .int .i64 0, .int .i64 0, .slice none 0 0, .int .i64 0]) ?_ 0 _ rfl; (with_reducible repeat (first | refine bN_ ?_ _ | refine bD_ ?_ | refine bA_ ?_ _)); refine bF_ ?_ NB145_146.out _; (with_reducible repeat (first | refine bN_ ?_ _ | refine bD_ ?_ | refine bA_ ?_ _)); exact BK145.out) Try.underlying70 rfl (by kernel_rfl)) rfl ?_
  exact ⟨_, by first | rfl | (simp [errW_none, errW_some] <;> rfl) | (simp [*, errW_none, errW_some] <;> rfl), by first | exact Kd.R_nil _ _ _ _ _ | exact Kd.N_nil _ _ _ _ _ | exact Kd.V_nil _ _ _ _ _ | exact Kd.Q_nil _ _ _ _ _ | exact Kd.S_nil _ _ _ _ _, by repeat (first | (with_reducible first | exact HB.out | apply lA_ | apply lN_ | apply l1_ | refine lS_ ?_ GE144.out | refine lS_ ?_ GE145.out | refine lS_ ?_ GE146.out) | exact HB.out)⟩
 ·
  rw [if_neg c2] at H
  have c2b0 : (a0_0 == 1) = false := beq_eq_false_iff_ne.mpr c2
  have c2b1 : (a0_0 != 1) = true := bne_iff_ne.mpr c2
  by_cases c16 : a0_0 = 2
  ·
   rw [if_pos c16] at H
   have c16b0 : (a0_0 == 2) = true := beq_iff_eq.mpr c16
   have c16b1 : (a0_0 != 2) = false := bne_eq_false_iff_eq.mpr c16
   clear c16
   replace H := Option.bind_eq_some_iff.mp H
   obtain ⟨⟨t149, t150⟩, A170, H⟩ := H
   replace H : (some (false, t149, 0, 0, 0, ([] : List Cx), t150)) = some (r1, r2, r3, r4, r5, r6, r7) := H
   have A17 := Aside0.mk A170
   clear A170
   simp only [Option.some.injEq, Prod.mk.injEq] at H
   obtain ⟨rfl, rfl, rfl, rfl, rfl, rfl, rfl⟩ := H
   go_enter Try.func40, Try.ntmps40
   go_wp2_with (first | ((with_reducible refine gate_dst (N := 1) rfl ?_); refine box_event ?hg (N := 1) ?hd (cs := #[.int .i64 a0_0, .float .f64 a0_1, .float .f64 a0_2, .int .i64 a0_3, .int .i64 a0_4, .int .i64 a0_5, .int .i64 a0_6, .int .u8 a0_7, .int .i64 a0_8, .int .i64 a0_9, .slice A0_10 l0_10.length c0_10, .slice A0_11 l0_11.length c0_11]) (t := 73) ?hr ?_; (case hd => rfl); (case hg => rfl); (case hr => first | (go_simp; done) | (go_simp; rfl)); intro gb144 hg w18 hbox hb; have n0_ := Aside0.mk (below_step (by repeat (first | (with_reducible first | exact HB.out | apply lA_ | apply lN_ | apply l1_) | exact HB.out)) hb); have n1_ := Aside0.mk (hbox); have n2_ := Aside0.mk ((by rw [hg]; exact (below_size (by repeat (first | (with_reducible first | exact HB.out | apply lA_ | apply lN_ | apply l1_) | exact HB.out))) : w.heap.size ≤ gb144)); have n3_ := Aside0.mk ((by rw [hg]; exact (below_size (by repeat (first | (with_reducible first | exact HB.out | apply lA_ | apply lN_ | apply l1_) | exact HB.out))) : w.heap.size ≤ gb144)); clear HB; have HB := n0_; have BK144 := n1_; have GW144 := n2_; have GE144 := n3_; clear n0_ n1_ n2_ n3_; clear hb hbox hg) | ((with_reducible refine gate_dst (N := 2) rfl ?_); refine box_event ?hg (N := 2) ?hd (cs := #[.bool false, .complex .f64 0 0, .int .i64 0, .int .i64 0, .int .i64 0, .slice none 0 0, .int .i64 0]) (t := 70) ?hr ?_; (case hd => rfl); (case hg => rfl); (case hr => first | (go_simp; done) | (go_simp; rfl)); intro gb145 hg w19 hbox hb; have n0_ := Aside0.mk (bB_ (g := gb144) (o := .cells #[.int .i64 a0_0, .float .f64 a0_1, .float .f64 a0_2, .int .i64 a0_3, .int .i64 a0_4, .int .i64 a0_5, .int .i64 a0_6, .int .u8 a0_7, .int .i64 a0_8, .int .i64 a0_9, .slice A0_10 l0_10.length c0_10, .slice A0_11 l0_11.length c0_11] 73 (0, 0)) (by (with_reducible repeat (first | refine bN_ ?_ _ | refine bD_ ?_ | refine bA_ ?_ _)); exact BK144.out) hb); have n1_ := Aside0.mk (below_step (by repeat (first | (with_reducible first | exact HB.out | apply lA_ | apply lN_ | apply l1_ | refine lS_ ?_ GE144.out) | exact HB.out)) hb); have n2_ := Aside0.mk (hbox); have n3_ := Aside0.mk ((by rw [hg]; exact (below_size (by repeat (first | (with_reducible first | exact HB.out | apply lA_ | apply lN_ | apply l1_ | refine lS_ ?_ GE144.out) | exact HB.out))) : w.heap.size ≤ gb145)); have n4_ := Aside0.mk ((by rw [hg]; exact (below_size (by repeat (first | (with_reducible first | exact HB.out | apply lA_ | apply lN_ | apply l1_ | refine lS_ ?_ GE144.out) | exact HB.out))) : w.heap.size ≤ gb145)); have n5_ := Aside0.mk ((by rw [hg]; exact Nat.ne_of_lt (blk_lt (g := gb144) (o := .cells #[.int .i64 a0_0, .float .f64 a0_1, .float .f64 a0_2, .int .i64 a0_3, .int .i64 a0_4, .int .i64 a0_5, .int .i64 a0_6, .int .u8 a0_7, .int .i64 a0_8, .int .i64 a0_9, .slice A0_10 l0_10.length c0_10, .slice A0_11 l0_11.length c0_11] 73 (0, 0)) (by (with_reducible repeat (first | refine bN_ ?_ _ | refine bD_ ?_ | refine bA_ ?_ _)); exact BK144.out)) : gb144 ≠ gb145)); have n6_ := Aside0.mk ((by rw [hg]; exact Nat.ne_of_gt (blk_lt (g := gb144) (o := .cells #[.int .i64 a0_0, .float .f64 a0_1, .float .f64 a0_2, .int .i64 a0_3, .int .i64 a0_4, .int .i64 a0_5, .int .i64 a0_6, .int .u8 a0_7, .int .i64 a0_8, .int .i64 a0_9, .slice A0_10 l0_10.length c0_10, .slice A0_11 l0_11.length c0_11] 73 (0, 0)) (by (with_reducible repeat (first | refine bN_ ?_ _ | refine bD_ ?_ | refine bA_ ?_ _)); exact BK144.out)) : gb145 ≠ gb144)); clear BK144; clear HB; have BK144 := n0_; have HB := n1_; have BK145 := n2_; have GW145 := n3_; have GE145 := n4_; have NB144_145 := n5_; have NB145_144 := n6_; clear n0_ n1_ n2_ n3_ n4_ n5_ n6_; clear hb hbox hg) | ((with_reducible refine gate_dst (N := 3) rfl ?_); refine box_event ?hg (N := 3) ?hd (cs := #[.bool false, .complex .f64 0 0, .int .i64 0, .int .i64 0, .int .i64 0, .slice none 0 0, .int .i64 0]) (t := 70) ?hr ?_; (case hd => rfl); (case hg => rfl); (case hr => first | (go_simp; done) | (go_simp; rfl)); intro gb146 hg w20 hbox hb; have n0_ := Aside0.mk (bB_ (g := gb144) (o := .cells #[.int .i64 a0_0, .float .f64 a0_1, .float .f64 a0_2, .int .i64 a0_3, .int .i64 a0_4, .int .i64 a0_5, .int .i64 a0_6, .int .u8 a0_7, .int .i64 a0_8, .int .i64 a0_9, .slice A0_10 l0_10.length c0_10, .slice A0_11 l0_11.length c0_11] 73 (0, 0)) (by (with_reducible repeat (first | refine bN_ ?_ _ | refine bD_ ?_ | refine bA_ ?_ _)); exact BK144.out) hb); have n1_ := Aside0.mk (bB_ (g := gb145) (o := .cells #[.bool false, .complex .f64 0 0, .int .i64 0, .int .i64 0, .int .i64 0, .slice none 0 0, .int .i64 0] 70 (0, 0)) (by (with_reducible repeat (first | refine bN_ ?_ _ | refine bD_ ?_ | refine bA_ ?_ _)); exact BK145.out) hb); have n2_ := Aside0.mk (below_step (by repeat (first | (with_reducible first | exact HB.out | apply lA_ | apply lN_ | apply l1_ | refine lS_ ?_ GE144.out | refine lS_ ?_ GE145.out) | exact HB.out)) hb); have n3_ := Aside0.mk (hbox); have n4_ := Aside0.mk ((by rw [hg]; exact (below_size (by repeat (first | (with_reducible first | exact HB.out | apply lA_ | apply lN_ | apply l1_ | refine lS_ ?_ GE144.out | refine lS_ ?_ GE145.out) | exact HB.out))) : w.heap.size ≤ gb146)); have n5_ := Aside0.mk ((by rw [hg]; exact (below_size (by repeat (first | (with_reducible first | exact HB.out | apply lA_ | apply lN_ | apply l1_ | refine lS_ ?_ GE144.out | refine lS_ ?_ GE145.out) | exact HB.out))) : w.heap.size ≤ gb146)); have n6_ := Aside0.mk ((by rw [hg]; exact Nat.ne_of_lt (blk_lt (g := gb144) (o := .cells #[.int .i64 a0_0, .float .f64 a0_1, .float .f64 a0_2, .int .i64 a0_3, .int .i64 a0_4, .int .i64 a0_5, .int .i64 a0_6, .int .u8 a0_7, .int .i64 a0_8, .int .i64 a0_9, .slice A0_10 l0_10.length c0_10, .slice A0_11 l0_11.length c0_11] 73 (0, 0)) (by (with_reducible repeat (first | refine bN_ ?_ _ | refine bD_ ?_ | refine bA_ ?_ _)); exact BK144.out)) : gb144 ≠ gb146)); have n7_ := Aside0.mk ((by rw [hg]; exact Nat.ne_of_gt (blk_lt (g := gb144) (o := .cells #[.int .i64 a0_0, .float .f64 a0_1, .float .f64 a0_2, .int .i64 a0_3, .int .i64 a0_4, .int .i64 a0_5, .int .i64 a0_6, .int .u8 a0_7, .int .i64 a0_8, .int .i64 a0_9, .slice A0_10 l0_10.length c0_10, .slice A0_11 l0_11.length c0_11] 73 (0, 0)) (by (with_reducible repeat (first | refine bN_ ?_ _ | refine bD_ ?_ | refine bA_ ?_ _)); exact BK144.out)) : gb146 ≠ gb144)); have n8_ := Aside0.mk ((by rw [hg]; exact Nat.ne_of_lt (blk_lt (g := gb145) (o := .cells #[.bool false, .complex .f64 0 0, .int .i64 0, .int .i64 0, .int .i64 0, .slice none 0 0, .int .i64 0] 70 (0, 0)) (by (with_reducible repeat (first | refine bN_ ?_ _ | refine bD_ ?_ | refine bA_ ?_ _)); exact BK145.out)) : gb145 ≠ gb146)); have n9_ := Aside0.mk ((by rw [hg]; exact Nat.ne_of_gt (blk_lt (g := gb145) (o := .cells #[.bool false, .complex .f64 0 0, .int .i64 0, .int .i64 0, .int .i64 0, .slice none 0 0, .int .i64 0] 70 (0, 0)) (by (with_reducible repeat (first | refine bN_ ?_ _ | refine bD_ ?_ | refine bA_ ?_ _)); exact BK145.out)) : gb146 ≠ gb145)); clear BK144; clear BK145; clear HB; have BK144 := n0_; have BK145 := n1_; have HB := n2_; have BK146 := n3_; have GW146 := n4_; have GE146 := n5_; have NB144_146 := n6_; have NB146_144 := n7_; have NB145_146 := n8_; have NB146_145 := n9_; clear n0_ n1_ n2_ n3_ n4_ n5_ n6_ n7_ n8_ n9_; clear hb hbox hg; have hnb21 := NB144_145.out; have hnc21 := NB145_144.out; have hnb22 := NB144_146.out; have hnc22 := NB146_144.out; have hcz23_0 : w20.cell? ⟨gb144, 0, none⟩ = some (.int .i64 a0_0) := (bC_ BK144.out 0).trans rfl; have hcz23_1 : w20.cell? ⟨gb144, 1, none⟩ = some (.float .f64 a0_1) := (bC_ BK144.out 1).trans rfl; have hcz23_2 : w20.cell? ⟨gb144, 2, none⟩ = some (.float .f64 a0_2) := (bC_ BK144.out 2).trans rfl; have hcz23_3 : w20.cell? ⟨gb144, 3, none⟩ = some (.int .i64 a0_3) := (bC_ BK144.out 3).trans rfl; have hcz23_4 : w20.cell? ⟨gb144, 4, none⟩ = some (.int .i64 a0_4) := (bC_ BK144.out 4).trans rfl; have hcz23_5 : w20.cell? ⟨gb144, 5, none⟩ = some (.int .i64 a0_5) := (bC_ BK144.out 5).trans rfl; have hcz23_6 : w20.cell? ⟨gb144, 6, none⟩ = some (.int .i64 a0_6) := (bC_ BK144.out 6).trans rfl; have hcz23_7 : w20.cell? ⟨gb144, 7, none⟩ = some (.int .u8 a0_7) := (bC_ BK144.out 7).trans rfl; have hcz23_8 : w20.cell? ⟨gb144, 8, none⟩ = some (.int .i64 a0_8) := (bC_ BK144.out 8).trans rfl; have hcz23_9 : w20.cell? ⟨gb144, 9, none⟩ = some (.int .i64 a0_9) := (bC_ BK144.out 9).trans rfl; have hcz23_10 : w20.cell? ⟨gb144, 10, none⟩ = some (.slice A0_10 l0_10.length c0_10) := (bC_ BK144.out 10).trans rfl; have hcz23_11 : w20.cell? ⟨gb144, 11, none⟩ = some (.slice A0_11 l0_11.length c0_11) := (bC_ BK144.out 11).trans rfl; have hfz23_0 := bZ_ BK144.out 0; have hfz23_1 := bZ_ BK144.out 1; have hfz23_2 := bZ_ BK144.out 2; have hfz23_3 := bZ_ BK144.out 3; have hfz23_4 := bZ_ BK144.out 4; have hfz23_5 := bZ_ BK144.out 5; have hfz23_6 := bZ_ BK144.out 6; have hfz23_7 := bZ_ BK144.out 7; have hfz23_8 := bZ_ BK144.out 8; have hfz23_9 := bZ_ BK144.out 9; have hfz23_10 := bZ_ BK144.out 10; have hfz23_11 := bZ_ BK144.out 11) | ((with_reducible refine gate_callee (f := 23) rfl ?_); refine goesL_ (some 22) rfl rfl Try.func23 (by kernel_rfl) rfl #[.agg #[.int .i64 a0_3, .int .i64 a0_4, .int .i64 a0_5, .int .i64 a0_6, .int .u8 a0_7], .int .i64 a0_8, .int .i64 a0_9] rfl (by (try simp only [List.map_toArray, List.map_cons, List.map_nil]); first | done | rfl | (simp only [List.length_drop, List.length_take]; rfl)) ?_; (with_reducible refine (meter_Point.calls k a0_3 a0_4 a0_5 a0_6 a0_7 a0_8 a0_9 t149 t150 _ A17.out).mono ?_); rintro e w24 ⟨rfl, hb⟩; refine ⟨_, rfl, ?_⟩; have n0_ := Aside0.mk (bB_ (g := gb144) (o := .cells #[.int .i64 a0_0, .float .f64 a0_1, .float .f64 a0_2, .int .i64 a0_3, .int .i64 a0_4, .int .i64 a0_5, .int .i64 a0_6, .int .u8 a0_7, .int .i64 a0_8, .int .i64 a0_9, .slice A0_10 l0_10.length c0_10, .slice A0_11 l0_11.length c0_11] 73 (0, 0)) (by (with_reducible repeat (first | refine bN_ ?_ _ | refine bD_ ?_ | refine bA_ ?_ _)); exact BK144.out) hb); have n1_ := Aside0.mk (bB_ (g := gb145) (o := .cells #[.bool false, .complex .f64 0 0, .int .i64 0, .int .i64 0, .int .i64 0, .slice none 0 0, .int .i64 0] 70 (0, 0)) (by (with_reducible repeat (first | refine bN_ ?_ _ | refine bD_ ?_ | refine bA_ ?_ _)); exact BK145.out) hb); have n2_ := Aside0.mk (bB_ (g := gb146) (o := .cells #[.bool false, .complex .f64 0 0, .int .i64 0, .int .i64 0, .int .i64 0, .slice none 0 0, .int .i64 0] 70 (0, 0)) (by (with_reducible repeat (first | refine bN_ ?_ _ | refine bD_ ?_ | refine bA_ ?_ _)); exact BK146.out) hb); have n3_ := Aside0.mk (below_step (by repeat (first | (with_reducible first | exact HB.out | apply lA_ | apply lN_ | apply l1_ | refine lS_ ?_ GE144.out | refine lS_ ?_ GE145.out | refine lS_ ?_ GE146.out) | exact HB.out)) hb); clear BK144; clear BK145; clear BK146; clear HB; have BK144 := n0_; have BK145 := n1_; have BK146 := n2_; have HB := n3_; clear n0_ n1_ n2_ n3_; (try clear hb); (try clear hb2); (try clear hk); (try clear hi); have hnb25 := NB146_145.out; have hnc25 := NB145_146.out; have hcz26_0 : w24.cell? ⟨gb146, 0, none⟩ = some (.bool false) := (bC_ BK146.out 0).trans rfl; have hcz26_1 : w24.cell? ⟨gb146, 1, none⟩ = some (.complex .f64 0 0) := (bC_ BK146.out 1).trans rfl; have hcz26_2 : w24.cell? ⟨gb146, 2, none⟩ = some (.int .i64 0) := (bC_ BK146.out 2).trans rfl; have hcz26_3 : w24.cell? ⟨gb146, 3, none⟩ = some (.int .i64 0) := (bC_ BK146.out 3).trans rfl; have hcz26_4 : w24.cell? ⟨gb146, 4, none⟩ = some (.int .i64 0) := (bC_ BK146.out 4).trans rfl; have hcz26_5 : w24.cell? ⟨gb146, 5, none⟩ = some (.slice none 0 0) := (bC_ BK146.out 5).trans rfl; have hcz26_6 : w24.cell? ⟨gb146, 6, none⟩ = some (.int .i64 0) := (bC_ BK146.out 6).trans rfl; have hfz26_0 := bZ_ BK146.out 0; have hfz26_1 := bZ_ BK146.out 1; have hfz26_2 := bZ_ BK146.out 2; have hfz26_3 := bZ_ BK146.out 3; have hfz26_4 := bZ_ BK146.out 4; have hfz26_5 := bZ_ BK146.out 5; have hfz26_6 := bZ_ BK146.out 6; have hcz27_0 : w24.cell? ⟨gb145, 0, none⟩ = some (.bool false) := (bC_ BK145.out 0).trans rfl; have hcz27_1 : w24.cell? ⟨gb145, 1, none⟩ = some (.complex .f64 0 0) := (bC_ BK145.out 1).trans rfl; have hcz27_2 : w24.cell? ⟨gb145, 2, none⟩ = some (.int .i64 0) := (bC_ BK145.out 2).trans rfl; have hcz27_3 : w24.cell? ⟨gb145, 3, none⟩ = some (.int .i64 0) := (bC_ BK145.out 3).trans rfl; have hcz27_4 : w24.cell? ⟨gb145, 4, none⟩ = some (.int .i64 0) := (bC_ BK145.out 4).trans rfl; have hcz27_5 : w24.cell? ⟨gb145, 5, none⟩ = some (.slice none 0 0) := (bC_ BK145.out 5).trans rfl; have hcz27_6 : w24.cell? ⟨gb145, 6, none⟩ = some (.int .i64 0) := (bC_ BK145.out 6).trans rfl; have hfz27_0 := bZ_ BK145.out 0; have hfz27_1 := bZ_ BK145.out 1; have hfz27_2 := bZ_ BK145.out 2; have hfz27_3 := bZ_ BK145.out 3; have hfz27_4 := bZ_ BK145.out 4; have hfz27_5 := bZ_ BK145.out 5; have hfz27_6 := bZ_ BK145.out 6))
   refine bodyPost_ret (results_cell_row rfl _ _ gb145 70 #[.bool false, .complex .f64 t149.re t149.im, .int .i64 0, .int .i64 0, .int .i64 0, .slice none 0 0, .int .i64 t150] (0, 0) _ rfl (by (with_reducible repeat (first | refine bN_ ?_ _ | refine bD_ ?_ | refine bA_ ?_ _)); refine bP_ (cs := #[.bool false, .complex .f64 t149.re t149.im, .int .i64 0, .int .i64 0, .int .i64 0, .slice none 0 0, .int .i64 0]) ?_ 6 _ rfl; (with_reducible repeat (first | refine bN_ ?_ _ | refine bD_ ?_ | refine bA_ ?_ _)); refine bP_ (cs := #[.bool false, .complex .f64 t149.re t149.im, .int .i64 0, .int .i64 0, .int .i64 0, .slice none 0 0, .int .i64 0]) ?_ 5 _ rfl; (with_reducible repeat (first | refine bN_ ?_ _ | refine bD_ ?_ | refine bA_ ?_ _)); refine bP_ (cs := #[.bool false, .complex .f64 t149.re t149.im, .int .i64 0, .int .i64 0, .int .i64 0, .slice none 0 0, .int .i64 0]) ?_ 4 _ rfl; (with_reducible repeat (first | refine bN_ ?_ _ | refine bD_ ?_ | refine bA_ ?_ _)); refine bP_ (cs := #[.bool false, .complex .f64 t149.re t149.im, .int .i64 0, .int .i64 0, .int .i64 0, .slice none 0 0, .int .i64 0]) ?_ 3 _ rfl; (with_reducible repeat (first | refine bN_ ?_ _ | refine bD_ ?_ | refine bA_ ?_ _)); refine bP_ (cs := #[.bool false, .complex .f64 t149.re t149.im, .int .i64 0, .int .i64 0, .int .i64 0, .slice none 0 0, .int .i64 0]) ?_ 2 _ rfl; (with_reducible repeat (first | refine bN_ ?_ _ | refine bD_ ?_ | refine bA_ ?_ _)); refine bP_ (cs := #[.bool false, .complex .f64 0 0, .int .i64 0, .int .i64 0, .int .i64 0, .slice none 0 0, .int .i64 0]) ?_ 1 _ rfl; (with_reducible repeat (first | refine bN_ ?_ _ | refine bD_ ?_ | refine bA_ ?_ _)); refine bP_ (cs := #[.bool false, .complex .f64 0 0, .int .i64 0, .int .i64 0, .int .i64 0, .slice none 0 0, .int .i64 0]) ?_ 0 _ rfl; (with_reducible repeat (first | refine bN_ ?_ _ | refine bD_ ?_ | refine bA_ ?_ _)); refine bF_ ?_ NB145_146.out _; (with_reducible repeat (first | refine bN_ ?_ _ | refine bD_ ?_ | refine bA_ ?_ _)); refine bF_ ?_ NB145_146.out _; (with_reducible repeat (first | refine bN_ ?_ _ | refine bD_ ?_ | refine bA_ ?_ _)); exact BK145.out) Try.underlying70 rfl (by kernel_rfl)) rfl ?_
   exact ⟨_, by first | rfl | (simp [errW_none, errW_some] <;> rfl) | (simp [*, errW_none, errW_some] <;> rfl), by first | exact Kd.R_nil _ _ _ _ _ | exact Kd.N_nil _ _ _ _ _ | exact Kd.V_nil _ _ _ _ _ | exact Kd.Q_nil _ _ _ _ _ | exact Kd.S_nil _ _ _ _ _, by repeat (first | (with_reducible first | exact HB.out | apply lA_ | apply lN_ | apply l1_ | refine lS_ ?_ GE144.out | refine lS_ ?_ GE145.out | refine lS_ ?_ GE146.out) | exact HB.out)⟩
  ·
   rw [if_neg c16] at H
   have c16b0 : (a0_0 == 2) = false := beq_eq_false_iff_ne.mpr c16
   have c16b1 : (a0_0 != 2) = true := bne_iff_ne.mpr c16
   by_cases c28 : a0_0 = 3
   ·
    rw [if_pos c28] at H
    have c28b0 : (a0_0 == 3) = true := beq_iff_eq.mpr c28
    have c28b1 : (a0_0 != 3) = false := bne_eq_false_iff_eq.mpr c28
    clear c28
    replace H := Option.bind_eq_some_iff.mp H
    obtain ⟨⟨t151, t152⟩, A290, H⟩ := H
    replace H : (some (false, cx 0 0, 0, 0, 0, t151, t152)) = some (r1, r2, r3, r4, r5, r6, r7) := H
    have A29 := Aside0.mk A290
    clear A290
    simp only [Option.some.injEq, Prod.mk.injEq] at H
    obtain ⟨rfl, rfl, rfl, rfl, rfl, rfl, rfl⟩ := H
    go_enter Try.func40, Try.ntmps40
    go_wp2_with (first | ((with_reducible refine gate_dst (N := 1) rfl ?_); refine box_event ?hg (N := 1) ?hd (cs := #[.int .i64 a0_0, .float .f64 a0_1, .float .f64 a0_2, .int .i64 a0_3, .int .i64 a0_4, .int .i64 a0_5, .int .i64 a0_6, .int .u8 a0_7, .int .i64 a0_8, .int .i64 a0_9, .slice A0_10 l0_10.length c0_10, .slice A0_11 l0_11.length c0_11]) (t := 73) ?hr ?_; (case hd => rfl); (case hg => rfl); (case hr => first | (go_simp; done) | (go_simp; rfl)); intro gb144 hg w30 hbox hb; have n0_ := Aside0.mk (below_step (by repeat (first | (with_reducible first | exact HB.out | apply lA_ | apply lN_ | apply l1_) | exact HB.out)) hb); have n1_ := Aside0.mk (hbox); have n2_ := Aside0.mk ((by rw [hg]; exact (below_size (by repeat (first | (with_reducible first | exact HB.out | apply lA_ | apply lN_ | apply l1_) | exact HB.out))) : w.heap.size ≤ gb144)); have n3_ := Aside0.mk ((by rw [hg]; exact (below_size (by repeat (first | (with_reducible first | exact HB.out | apply lA_ | apply lN_ | apply l1_) | exact HB.out))) : w.heap.size ≤ gb144)); clear HB; have HB := n0_; have BK144 := n1_; have GW144 := n2_; have GE144 := n3_; clear n0_ n1_ n2_ n3_; clear hb hbox hg) | ((with_reducible refine gate_dst (N := 2) rfl ?_); refine box_event ?hg (N := 2) ?hd (cs := #[.bool false, .complex .f64 0 0, .int .i64 0, .int .i64 0, .int .i64 0, .slice none 0 0, .int .i64 0]) (t := 70) ?hr ?_; (case hd => rfl); (case hg => rfl); (case hr => first | (go_simp; done) | (go_simp; rfl)); intro gb145 hg w31 hbox hb; have n0_ := Aside0.mk (bB_ (g := gb144) (o := .cells #[.int .i64 a0_0, .float .f64 a0_1, .float .f64 a0_2, .int .i64 a0_3, .int .i64 a0_4, .int .i64 a0_5, .int .i64 a0_6, .int .u8 a0_7, .int .i64 a0_8, .int .i64 a0_9, .slice A0_10 l0_10.length c0_10, .slice A0_11 l0_11.length c0_11] 73 (0, 0)) (by (with_reducible repeat (first | refine bN_ ?_ _ | refine bD_ ?_ | refine bA_ ?_ _)); exact BK144.out) hb); have n1_ := Aside0.mk (below_step (by repeat (first | (with_reducible first | exact HB.out | apply lA_ | apply lN_ | apply l1_ | refine lS_ ?_ GE144.out) | exact HB.out)) hb); have n2_ := Aside0.mk (hbox); have n3_ := Aside0.mk ((by rw [hg]; exact (below_size (by repeat (first | (with_reducible first | exact HB.out | apply lA_ | apply lN_ | apply l1_ | refine lS_ ?_ GE144.out) | exact HB.out))) : w.heap.size ≤ gb145)); have n4_ := Aside0.mk ((by rw [hg]; exact (below_size (by repeat (first | (with_reducible first | exact HB.out | apply lA_ | apply lN_ | apply l1_ | refine lS_ ?_ GE144.out) | exact HB.out))) : w.heap.size ≤ gb145)); have n5_ := Aside0.mk ((by rw [hg]; exact Nat.ne_of_lt (blk_lt (g := gb144) (o := .cells #[.int .i64 a0_0, .float .f64 a0_1, .float .f64 a0_2, .int .i64 a0_3, .int .i64 a0_4, .int .i64 a0_5, .int .i64 a0_6, .int .u8 a0_7, .int .i64 a0_8, .int .i64 a0_9, .slice A0_10 l0_10.length c0_10, .slice A0_11 l0_11.length c0_11] 73 (0, 0)) (by (with_reducible repeat (first | refine bN_ ?_ _ | refine bD_ ?_ | refine bA_ ?_ _)); exact BK144.out)) : gb144 ≠ gb145)); have n6_ := Aside0.mk ((by rw [hg]; exact Nat.ne_of_gt (blk_lt (g := gb144) (o := .cells #[.int .i64 a0_0, .float .f64 a0_1, .float .f64 a0_2, .int .i64 a0_3, .int .i64 a0_4, .int .i64 a0_5, .int .i64 a0_6, .int .u8 a0_7, .int .i64 a0_8, .int .i64 a0_9, .slice A0_10 l0_10.length c0_10, .slice A0_11 l0_11.length c0_11] 73 (0, 0)) (by (with_reducible repeat (first | refine bN_ ?_ _ | refine bD_ ?_ | refine bA_ ?_ _)); exact BK144.out)) : gb145 ≠ gb144)); clear BK144; clear HB; have BK144 := n0_; have HB := n1_; have BK145 := n2_; have GW145 := n3_; have GE145 := n4_; have NB144_145 := n5_; have NB145_144 := n6_; clear n0_ n1_ n2_ n3_ n4_ n5_ n6_; clear hb hbox hg) | ((with_reducible refine gate_dst (N := 3) rfl ?_); refine box_event ?hg (N := 3) ?hd (cs := #[.bool false, .complex .f64 0 0, .int .i64 0, .int .i64 0, .int .i64 0, .slice none 0 0, .int .i64 0]) (t := 70) ?hr ?_; (case hd => rfl); (case hg => rfl); (case hr => first | (go_simp; done) | (go_simp; rfl)); intro gb146 hg w32 hbox hb; have n0_ := Aside0.mk (bB_ (g := gb144) (o := .cells #[.int .i64 a0_0, .float .f64 a0_1, .float .f64 a0_2, .int .i64 a0_3, .int .i64 a0_4, .int .i64 a0_5, .int .i64 a0_6, .int .u8 a0_7, .int .i64 a0_8, .int .i64 a0_9, .slice A0_10 l0_10.length c0_10, .slice A0_11 l0_11.length c0_11] 73 (0, 0)) (by (with_reducible repeat (first | refine bN_ ?_ _ | refine bD_ ?_ | refine bA_ ?_ _)); exact BK144.out) hb); have n1_ := Aside0.mk (bB_ (g := gb145) (o := .cells #[.bool false, .complex .f64 0 0, .int .i64 0, .int .i64 0, .int .i64 0, .slice none 0 0, .int .i64 0] 70 (0, 0)) (by (with_reducible repeat (first | refine bN_ ?_ _ | refine bD_ ?_ | refine bA_ ?_ _)); exact BK145.out) hb); have n2_ := Aside0.mk (below_step (by repeat (first | (with_reducible first | exact HB.out | apply lA_ | apply lN_ | apply l1_ | refine lS_ ?_ GE144.out | refine lS_ ?_ GE145.out) | exact HB.out)) hb); have n3_ := Aside0.mk (hbox); have n4_ := Aside0.mk ((by rw [hg]; exact (below_size (by repeat (first | (with_reducible first | exact HB.out | apply lA_ | apply lN_ | apply l1_ | refine lS_ ?_ GE144.out | refine lS_ ?_ GE145.out) | exact HB.out))) : w.heap.size ≤ gb146)); have n5_ := Aside0.mk ((by rw [hg]; exact (below_size (by repeat (first | (with_reducible first | exact HB.out | apply lA_ | apply lN_ | apply l1_ | refine lS_ ?_ GE144.out | refine lS_ ?_ GE145.out) | exact HB.out))) : w.heap.size ≤ gb146)); have n6_ := Aside0.mk ((by rw [hg]; exact Nat.ne_of_lt (blk_lt (g := gb144) (o := .cells #[.int .i64 a0_0, .float .f64 a0_1, .float .f64 a0_2, .int .i64 a0_3, .int .i64 a0_4, .int .i64 a0_5, .int .i64 a0_6, .int .u8 a0_7, .int .i64 a0_8, .int .i64 a0_9, .slice A0_10 l0_10.length c0_10, .slice A0_11 l0_11.length c0_11] 73 (0, 0)) (by (with_reducible repeat (first | refine bN_ ?_ _ | refine bD_ ?_ | refine bA_ ?_ _)); exact BK144.out)) : gb144 ≠ gb146)); have n7_ := Aside0.mk ((by rw [hg]; exact Nat.ne_of_gt (blk_lt (g := gb144) (o := .cells #[.int .i64 a0_0, .float .f64 a0_1, .float .f64 a0_2, .int .i64 a0_3, .int .i64 a0_4, .int .i64 a0_5, .int .i64 a0_6, .int .u8 a0_7, .int .i64 a0_8, .int .i64 a0_9, .slice A0_10 l0_10.length c0_10, .slice A0_11 l0_11.length c0_11] 73 (0, 0)) (by (with_reducible repeat (first | refine bN_ ?_ _ | refine bD_ ?_ | refine bA_ ?_ _)); exact BK144.out)) : gb146 ≠ gb144)); have n8_ := Aside0.mk ((by rw [hg]; exact Nat.ne_of_lt (blk_lt (g := gb145) (o := .cells #[.bool false, .complex .f64 0 0, .int .i64 0, .int .i64 0, .int .i64 0, .slice none 0 0, .int .i64 0] 70 (0, 0)) (by (with_reducible repeat (first | refine bN_ ?_ _ | refine bD_ ?_ | refine bA_ ?_ _)); exact BK145.out)) : gb145 ≠ gb146)); have n9_ := Aside0.mk ((by rw [hg]; exact Nat.ne_of_gt (blk_lt (g := gb145) (o := .cells #[.bool false, .complex .f64 0 0, .int .i64 0, .int .i64 0, .int .i64 0, .slice none 0 0, .int .i64 0] 70 (0, 0)) (by (with_reducible repeat (first | refine bN_ ?_ _ | refine bD_ ?_ | refine bA_ ?_ _)); exact BK145.out)) : gb146 ≠ gb145)); clear BK144; clear BK145; clear HB; have BK144 := n0_; have BK145 := n1_; have HB := n2_; have BK146 := n3_; have GW146 := n4_; have GE146 := n5_; have NB144_146 := n6_; have NB146_144 := n7_; have NB145_146 := n8_; have NB146_145 := n9_; clear n0_ n1_ n2_ n3_ n4_ n5_ n6_ n7_ n8_ n9_; clear hb hbox hg; have hnb33 := NB144_145.out; have hnc33 := NB145_144.out; have hnb34 := NB144_146.out; have hnc34 := NB146_144.out; have hcz35_0 : w32.cell? ⟨gb144, 0, none⟩ = some (.int .i64 a0_0) := (bC_ BK144.out 0).trans rfl; have hcz35_1 : w32.cell? ⟨gb144, 1, none⟩ = some (.float .f64 a0_1) := (bC_ BK144.out 1).trans rfl; have hcz35_2 : w32.cell? ⟨gb144, 2, none⟩ = some (.float .f64 a0_2) := (bC_ BK144.out 2).trans rfl; have hcz35_3 : w32.cell? ⟨gb144, 3, none⟩ = some (.int .i64 a0_3) := (bC_ BK144.out 3).trans rfl; have hcz35_4 : w32.cell? ⟨gb144, 4, none⟩ = some (.int .i64 a0_4) := (bC_ BK144.out 4).trans rfl; have hcz35_5 : w32.cell? ⟨gb144, 5, none⟩ = some (.int .i64 a0_5) := (bC_ BK144.out 5).trans rfl; have hcz35_6 : w32.cell? ⟨gb144, 6, none⟩ = some (.int .i64 a0_6) := (bC_ BK144.out 6).trans rfl; have hcz35_7 : w32.cell? ⟨gb144, 7, none⟩ = some (.int .u8 a0_7) := (bC_ BK144.out 7).trans rfl; have hcz35_8 : w32.cell? ⟨gb144, 8, none⟩ = some (.int .i64 a0_8) := (bC_ BK144.out 8).trans rfl; have hcz35_9 : w32.cell? ⟨gb144, 9, none⟩ = some (.int .i64 a0_9) := (bC_ BK144.out 9).trans rfl; have hcz35_10 : w32.cell? ⟨gb144, 10, none⟩ = some (.slice A0_10 l0_10.length c0_10) := (bC_ BK144.out 10).trans rfl; have hcz35_11 : w32.cell? ⟨gb144, 11, none⟩ = some (.slice A0_11 l0_11.length c0_11) := (bC_ BK144.out 11).trans rfl; have hfz35_0 := bZ_ BK144.out 0; have hfz35_1 := bZ_ BK144.out 1; have hfz35_2 := bZ_ BK144.out 2; have hfz35_3 := bZ_ BK144.out 3; have hfz35_4 := bZ_ BK144.out 4; have hfz35_5 := bZ_ BK144.out 5; have hfz35_6 := bZ_ BK144.out 6; have hfz35_7 := bZ_ BK144.out 7; have hfz35_8 := bZ_ BK144.out 8; have hfz35_9 := bZ_ BK144.out 9; have hfz35_10 := bZ_ BK144.out 10; have hfz35_11 := bZ_ BK144.out 11) | ((with_reducible refine gate_callee (f := 21) rfl ?_); refine goesL_ (some 36) rfl rfl Try.func21 (by kernel_rfl) rfl #[.slice A0_10 l0_10.length c0_10, .int .i64 a0_8, .int .i64 a0_9] rfl (by (try simp only [List.map_toArray, List.map_cons, List.map_nil]); first | done | rfl | (simp only [List.length_drop, List.length_take]; rfl)) ?_; (with_reducible refine (meter_Series.calls k _ _ l0_10 a0_8 a0_9 t151 t152 _ ?side1 ?side2 A29.out).mono ?_); (case side1 => repeat (first | exact (Kd.C_below HR0_10.out HB.out) | (with_reducible refine Kd.C_alloc ?_ _) | (with_reducible refine Kd.C_drewN ?_ _) | (with_reducible refine Kd.C_drew ?_))); (case side2 => exact HC0_10.out); rintro e w36 ⟨v153, rfl, ho0, hb⟩; refine ⟨_, rfl, ?_⟩; have n0_ := Aside0.mk (Kd.R_lower ho0 (below_size (by repeat (first | (with_reducible first | exact HB.out | apply lA_ | apply lN_ | apply l1_ | refine lS_ ?_ GE144.out | refine lS_ ?_ GE145.out | refine lS_ ?_ GE146.out) | exact HB.out)))); have n1_ := Aside0.mk (bB_ (g := gb144) (o := .cells #[.int .i64 a0_0, .float .f64 a0_1, .float .f64 a0_2, .int .i64 a0_3, .int .i64 a0_4, .int .i64 a0_5, .int .i64 a0_6, .int .u8 a0_7, .int .i64 a0_8, .int .i64 a0_9, .slice A0_10 l0_10.length c0_10, .slice A0_11 l0_11.length c0_11] 73 (0, 0)) (by (with_reducible repeat (first | refine bN_ ?_ _ | refine bD_ ?_ | refine bA_ ?_ _)); exact BK144.out) hb); have n2_ := Aside0.mk (bB_ (g := gb145) (o := .cells #[.bool false, .complex .f64 0 0, .int .i64 0, .int .i64 0, .int .i64 0, .slice none 0 0, .int .i64 0] 70 (0, 0)) (by (with_reducible repeat (first | refine bN_ ?_ _ | refine bD_ ?_ | refine bA_ ?_ _)); exact BK145.out) hb); have n3_ := Aside0.mk (bB_ (g := gb146) (o := .cells #[.bool false, .complex .f64 0 0, .int .i64 0, .int .i64 0, .int .i64 0, .slice none 0 0, .int .i64 0] 70 (0, 0)) (by (with_reducible repeat (first | refine bN_ ?_ _ | refine bD_ ?_ | refine bA_ ?_ _)); exact BK146.out) hb); have n4_ := Aside0.mk (below_step (by repeat (first | (with_reducible first | exact HB.out | apply lA_ | apply lN_ | apply l1_ | refine lS_ ?_ GE144.out | refine lS_ ?_ GE145.out | refine lS_ ?_ GE146.out) | exact HB.out)) hb); clear BK144; clear BK145; clear BK146; clear HB; have HO154 := n0_; have BK144 := n1_; have BK145 := n2_; have BK146 := n3_; have HB := n4_; clear n0_ n1_ n2_ n3_ n4_; (try clear hb); (try clear hb2); (try clear hk); (try clear hi); (try clear ho0); obtain ⟨Ao37, co37, eo37⟩ := Kd.R_slice HO154.out; subst eo37; have hnb38 := NB146_145.out; have hnc38 := NB145_146.out; have hcz39_0 : w36.cell? ⟨gb146, 0, none⟩ = some (.bool false) := (bC_ BK146.out 0).trans rfl; have hcz39_1 : w36.cell? ⟨gb146, 1, none⟩ = some (.complex .f64 0 0) := (bC_ BK146.out 1).trans rfl; have hcz39_2 : w36.cell? ⟨gb146, 2, none⟩ = some (.int .i64 0) := (bC_ BK146.out 2).trans rfl; have hcz39_3 : w36.cell? ⟨gb146, 3, none⟩ = some (.int .i64 0) := (bC_ BK146.out 3).trans rfl; have hcz39_4 : w36.cell? ⟨gb146, 4, none⟩ = some (.int .i64 0) := (bC_ BK146.out 4).trans rfl; have hcz39_5 : w36.cell? ⟨gb146, 5, none⟩ = some (.slice none 0 0) := (bC_ BK146.out 5).trans rfl; have hcz39_6 : w36.cell? ⟨gb146, 6, none⟩ = some (.int .i64 0) := (bC_ BK146.out 6).trans rfl; have hfz39_0 := bZ_ BK146.out 0; have hfz39_1 := bZ_ BK146.out 1; have hfz39_2 := bZ_ BK146.out 2; have hfz39_3 := bZ_ BK146.out 3; have hfz39_4 := bZ_ BK146.out 4; have hfz39_5 := bZ_ BK146.out 5; have hfz39_6 := bZ_ BK146.out 6; have hcz40_0 : w36.cell? ⟨gb145, 0, none⟩ = some (.bool false) := (bC_ BK145.out 0).trans rfl; have hcz40_1 : w36.cell? ⟨gb145, 1, none⟩ = some (.complex .f64 0 0) := (bC_ BK145.out 1).trans rfl; have hcz40_2 : w36.cell? ⟨gb145, 2, none⟩ = some (.int .i64 0) := (bC_ BK145.out 2).trans rfl; have hcz40_3 : w36.cell? ⟨gb145, 3, none⟩ = some (.int .i64 0) := (bC_ BK145.out 3).trans rfl; have hcz40_4 : w36.cell? ⟨gb145, 4, none⟩ = some (.int .i64 0) := (bC_ BK145.out 4).trans rfl; have hcz40_5 : w36.cell? ⟨gb145, 5, none⟩ = some (.slice none 0 0) := (bC_ BK145.out 5).trans rfl; have hcz40_6 : w36.cell? ⟨gb145, 6, none⟩ = some (.int .i64 0) := (bC_ BK145.out 6).trans rfl; have hfz40_0 := bZ_ BK145.out 0; have hfz40_1 := bZ_ BK145.out 1; have hfz40_2 := bZ_ BK145.out 2; have hfz40_3 := bZ_ BK145.out 3; have hfz40_4 := bZ_ BK145.out 4; have hfz40_5 := bZ_ BK145.out 5; have hfz40_6 := bZ_ BK145.out 6))
    refine bodyPost_ret (results_cell_row rfl _ _ gb145 70 #[.bool false, .complex .f64 0 0, .int .i64 0, .int .i64 0, .int .i64 0, .slice Ao37 t151.length co37, .int .i64 t152] (0, 0) _ rfl (by (with_reducible repeat (first | refine bN_ ?_ _ | refine bD_ ?_ | refine bA_ ?_ _)); refine bP_ (cs := #[.bool false, .complex .f64 0 0, .int .i64 0, .int .i64 0, .int .i64 0, .slice Ao37 t151.length co37, .int .i64 0]) ?_ 6 _ rfl; (with_reducible repeat (first | refine bN_ ?_ _ | refine bD_ ?_ | refine bA_ ?_ _)); refine bP_ (cs := #[.bool false, .complex .f64 0 0, .int .i64 0, .int .i64 0, .int .i64 0, .slice none 0 0, .int .i64 0]) ?_ 5 _ rfl; (with_reducible repeat (first | refine bN_ ?_ _ | refine bD_ ?_ | refine bA_ ?_ _)); refine bP_ (cs := #[.bool false, .complex .f64 0 0, .int .i64 0, .int .i64 0, .int .i64 0, .slice none 0 0, .int .i64 0]) ?_ 4 _ rfl; (with_reducible repeat (first | refine bN_ ?_ _ | refine bD_ ?_ | refine bA_ ?_ _)); refine bP_ (cs := #[.bool false, .complex .f64 0 0, .int .i64 0, .int .i64 0, .int .i64 0, .slice none 0 0, .int .i64 0]) ?_ 3 _ rfl; (with_reducible repeat (first | refine bN_ ?_ _ | refine bD_ ?_ | refine bA_ ?_ _)); refine bP_ (cs := #[.bool false, .complex .f64 0 0, .int .i64 0, .int .i64 0, .int .i64 0, .slice none 0 0, .int .i64 0]) ?_ 2 _ rfl; (with_reducible repeat (first | refine bN_ ?_ _ | refine bD_ ?_ | refine bA_ ?_ _)); refine bP_ (cs := #[.bool false, .complex .f64 0 0, .int .i64 0, .int .i64 0, .int .i64 0, .slice none 0 0, .int .i64 0]) ?_ 1 _ rfl; (with_reducible repeat (first | refine bN_ ?_ _ | refine bD_ ?_ | refine bA_ ?_ _)); refine bP_ (cs := #[.bool false, .complex .f64 0 0, .int .i64 0, .int .i64 0, .int .i64 0, .slice none 0 0, .int .i64 0]) ?_ 0 _ rfl; (with_reducible repeat (first | refine bN_ ?_ _ | refine bD_ ?_ | refine bA_ ?_ _)); refine bF_ ?_ NB145_146.out _; (with_reducible repeat (first | refine bN_ ?_ _ | refine bD_ ?_ | refine bA_ ?_ _)); refine bF_ ?_ NB145_146.out _; (with_reducible repeat (first | refine bN_ ?_ _ | refine bD_ ?_ | refine bA_ ?_ _)); exact BK145.out) Try.underlying70 rfl (by kernel_rfl)) rfl ?_
    exact ⟨_, by first | rfl | (simp [errW_none, errW_some] <;> rfl) | (simp [*, errW_none, errW_some] <;> rfl), by (with_reducible repeat (first | apply Kd.R_alloc | apply Kd.R_drewN | apply Kd.R_drew)); exact Kd.R_mono (Kd.R_far (p := ⟨gb145, 6, none⟩) (Kd.R_far (p := ⟨gb145, 5, none⟩) (Kd.R_far (p := ⟨gb145, 4, none⟩) (Kd.R_far (p := ⟨gb145, 3, none⟩) (Kd.R_far (p := ⟨gb145, 2, none⟩) (Kd.R_far (p := ⟨gb145, 1, none⟩) (Kd.R_far (p := ⟨gb145, 0, none⟩) (Kd.R_far (p := ⟨gb146, 6, none⟩) (Kd.R_far (p := ⟨gb146, 5, none⟩) (Kd.R_types (Kd.R_types HO154.out BK146.out (by decide)) BK145.out (by decide)) (fun _ hk => hk.1.2) (.slice Ao37 t151.length co37)) (fun _ hk => hk.1.2) (.int .i64 t152)) (fun _ hk => hk.2) (.bool false)) (fun _ hk => hk.2) (.complex .f64 0 0)) (fun _ hk => hk.2) (.int .i64 0)) (fun _ hk => hk.2) (.int .i64 0)) (fun _ hk => hk.2) (.int .i64 0)) (fun _ hk => hk.2) (.slice Ao37 t151.length co37)) (fun _ hk => hk.2) (.int .i64 t152)) (fun _ hk => trivial), by repeat (first | (with_reducible first | exact HB.out | apply lA_ | apply lN_ | apply l1_ | refine lS_ ?_ GE144.out | refine lS_ ?_ GE145.out | refine lS_ ?_ GE146.out) | exact HB.out)⟩
   ·
    rw [if_neg c28] at H
    have c28b0 : (a0_0 == 3) = false := beq_eq_false_iff_ne.mpr c28
    have c28b1 : (a0_0 != 3) = true := bne_iff_ne.mpr c28
    by_cases c41 : a0_0 = 4
    ·
     rw [if_pos c41] at H
     have c41b0 : (a0_0 == 4) = true := beq_iff_eq.mpr c41
     have c41b1 : (a0_0 != 4) = false := bne_eq_false_iff_eq.mpr c41
     clear c41
     replace H := Option.bind_eq_some_iff.mp H
     obtain ⟨t155, A420, H⟩ := H
     replace H : ((meter_Split.f t155).bind fun bt156 => (some (false, cx 0 0, bt156.1, bt156.2.1, bt156.2.2.1, ([] : List Cx), bt156.2.2.2))) = some (r1, r2, r3, r4, r5, r6, r7) := H
     have A42 := Aside0.mk A420
     clear A420
     replace H := Option.bind_eq_some_iff.mp H
     obtain ⟨⟨t156, t157, t158, t159⟩, A430, H⟩ := H
     replace H : (some (false, cx 0 0, t156, t157, t158, ([] : List Cx), t159)) = some (r1, r2, r3, r4, r5, r6, r7) := H
     have A43 := Aside0.mk A430
     clear A430
     simp only [Option.some.injEq, Prod.mk.injEq] at H
     obtain ⟨rfl, rfl, rfl, rfl, rfl, rfl, rfl⟩ := H
     go_enter Try.func40, Try.ntmps40
     go_wp2_with (first | ((with_reducible refine gate_dst (N := 1) rfl ?_); refine box_event ?hg (N := 1) ?hd (cs := #[.int .i64 a0_0, .float .f64 a0_1, .float .f64 a0_2, .int .i64 a0_3, .int .i64 a0_4, .int .i64 a0_5, .int .i64 a0_6, .int .u8 a0_7, .int .i64 a0_8, .int .i64 a0_9, .slice A0_10 l0_10.length c0_10, .slice A0_11 l0_11.length c0_11]) (t := 73) ?hr ?_; (case hd => rfl); (case hg => rfl); (case hr => first | (go_simp; done) | (go_simp; rfl)); intro gb144 hg w44 hbox hb; have n0_ := Aside0.mk (below_step (by repeat (first | (with_reducible first | exact HB.out | apply lA_ | apply lN_ | apply l1_) | exact HB.out)) hb); have n1_ := Aside0.mk (hbox); have n2_ := Aside0.mk ((by rw [hg]; exact (below_size (by repeat (first | (with_reducible first | exact HB.out | apply lA_ | apply lN_ | apply l1_) | exact HB.out))) : w.heap.size ≤ gb144)); have n3_ := Aside0.mk ((by rw [hg]; exact (below_size (by repeat (first | (with_reducible first | exact HB.out | apply lA_ | apply lN_ | apply l1_) | exact HB.out))) : w.heap.size ≤ gb144)); clear HB; have HB := n0_; have BK144 := n1_; have GW144 := n2_; have GE144 := n3_; clear n0_ n1_ n2_ n3_; clear hb hbox hg) | ((with_reducible refine gate_dst (N := 2) rfl ?_); refine box_event ?hg (N := 2) ?hd (cs := #[.bool false, .complex .f64 0 0, .int .i64 0, .int .i64 0, .int .i64 0, .slice none 0 0, .int .i64 0]) (t := 70) ?hr ?_; (case hd => rfl); (case hg => rfl); (case hr => first | (go_simp; done) | (go_simp; rfl)); intro gb145 hg w45 hbox hb; have n0_ := Aside0.mk (bB_ (g := gb144) (o := .cells #[.int .i64 a0_0, .float .f64 a0_1, .float .f64 a0_2, .int .i64 a0_3, .int .i64 a0_4, .int .i64 a0_5, .int .i64 a0_6, .int .u8 a0_7, .int .i64 a0_8, .int .i64 a0_9, .slice A0_10 l0_10.length c0_10, .slice A0_11 l0_11.length c0_11] 73 (0, 0)) (by (with_reducible repeat (first | refine bN_ ?_ _ | refine bD_ ?_ | refine bA_ ?_ _)); exact BK144.out) hb); have n1_ := Aside0.mk (below_step (by repeat (first | (with_reducible first | exact HB.out | apply lA_ | apply lN_ | apply l1_ | refine lS_ ?_ GE144.out) | exact HB.out)) hb); have n2_ := Aside0.mk (hbox); have n3_ := Aside0.mk ((by rw [hg]; exact (below_size (by repeat (first | (with_reducible first | exact HB.out | apply lA_ | apply lN_ | apply l1_ | refine lS_ ?_ GE144.out) | exact HB.out))) : w.heap.size ≤ gb145)); have n4_ := Aside0.mk ((by rw [hg]; exact (below_size (by repeat (first | (with_reducible first | exact HB.out | apply lA_ | apply lN_ | apply l1_ | refine lS_ ?_ GE144.out) | exact HB.out))) : w.heap.size ≤ gb145)); have n5_ := Aside0.mk ((by rw [hg]; exact Nat.ne_of_lt (blk_lt (g := gb144) (o := .cells #[.int .i64 a0_0, .float .f64 a0_1, .float .f64 a0_2, .int .i64 a0_3, .int .i64 a0_4, .int .i64 a0_5, .int .i64 a0_6, .int .u8 a0_7, .int .i64 a0_8, .int .i64 a0_9, .slice A0_10 l0_10.length c0_10, .slice A0_11 l0_11.length c0_11] 73 (0, 0)) (by (with_reducible repeat (first | refine bN_ ?_ _ | refine bD_ ?_ | refine bA_ ?_ _)); exact BK144.out)) : gb144 ≠ gb145)); have n6_ := Aside0.mk ((by rw [hg]; exact Nat.ne_of_gt (blk_lt (g := gb144) (o := .cells #[.int .i64 a0_0, .float .f64 a0_1, .float .f64 a0_2, .int .i64 a0_3, .int .i64 a0_4, .int .i64 a0_5, .int .i64 a0_6, .int .u8 a0_7, .int .i64 a0_8, .int .i64 a0_9, .slice A0_10 l0_10.length c0_10, .slice A0_11 l0_11.length c0_11] 73 (0, 0)) (by (with_reducible repeat (first | refine bN_ ?_ _ | refine bD_ ?_ | refine bA_ ?_ _)); exact BK144.out)) : gb145 ≠ gb144)); clear BK144; clear HB; have BK144 := n0_; have HB := n1_; have BK145 := n2_; have GW145 := n3_; have GE145 := n4_; have NB144_145 := n5_; have NB145_144 := n6_; clear n0_ n1_ n2_ n3_ n4_ n5_ n6_; clear hb hbox hg) | ((with_reducible refine gate_dst (N := 3) rfl ?_); refine box_event ?hg (N := 3) ?hd (cs := #[.bool false, .complex .f64 0 0, .int .i64 0, .int .i64 0, .int .i64 0, .slice none 0 0, .int .i64 0]) (t := 70) ?hr ?_; (case hd => rfl); (case hg => rfl); (case hr => first | (go_simp; done) | (go_simp; rfl)); intro gb146 hg w46 hbox hb; have n0_ := Aside0.mk (bB_ (g := gb144) (o := .cells #[.int .i64 a0_0, .float .f64 a0_1, .float .f64 a0_2, .int .i64 a0_3, .int .i64 a0_4, .int .i64 a0_5, .int .i64 a0_6, .int .u8 a0_7, .int .i64 a0_8, .int .i64 a0_9, .slice A0_10 l0_10.length c0_10, .slice A0_11 l0_11.length c0_11] 73 (0, 0)) (by (with_reducible repeat (first | refine bN_ ?_ _ | refine bD_ ?_ | refine bA_ ?_ _)); exact BK144.out) hb); have n1_ := Aside0.mk (bB_ (g := gb145) (o := .cells #[.bool false, .complex .f64 0 0, .int .i64 0, .int .i64 0, .int .i64 0, .slice none 0 0, .int .i64 0] 70 (0, 0)) (by (with_reducible repeat (first | refine bN_ ?_ _ | refine bD_ ?_ | refine bA_ ?_ _)); exact BK145.out) hb); have n2_ := Aside0.mk (below_step (by repeat (first | (with_reducible first | exact HB.out | apply lA_ | apply lN_ | apply l1_ | refine lS_ ?_ GE144.out | refine lS_ ?_ GE145.out) | exact HB.out)) hb); have n3_ := Aside0.mk (hbox); have n4_ := Aside0.mk ((by rw [hg]; exact (below_size (by repeat (first | (with_reducible first | exact HB.out | apply lA_ | apply lN_ | apply l1_ | refine lS_ ?_ GE144.out | refine lS_ ?_ GE145.out) | exact HB.out))) : w.heap.size ≤ gb146)); have n5_ := Aside0.mk ((by rw [hg]; exact (below_size (by repeat (first | (with_reducible first | exact HB.out | apply lA_ | apply lN_ | apply l1_ | refine lS_ ?_ GE144.out | refine lS_ ?_ GE145.out) | exact HB.out))) : w.heap.size ≤ gb146)); have n6_ := Aside0.mk ((by rw [hg]; exact Nat.ne_of_lt (blk_lt (g := gb144) (o := .cells #[.int .i64 a0_0, .float .f64 a0_1, .float .f64 a0_2, .int .i64 a0_3, .int .i64 a0_4, .int .i64 a0_5, .int .i64 a0_6, .int .u8 a0_7, .int .i64 a0_8, .int .i64 a0_9, .slice A0_10 l0_10.length c0_10, .slice A0_11 l0_11.length c0_11] 73 (0, 0)) (by (with_reducible repeat (first | refine bN_ ?_ _ | refine bD_ ?_ | refine bA_ ?_ _)); exact BK144.out)) : gb144 ≠ gb146)); have n7_ := Aside0.mk ((by rw [hg]; exact Nat.ne_of_gt (blk_lt (g := gb144) (o := .cells #[.int .i64 a0_0, .float .f64 a0_1, .float .f64 a0_2, .int .i64 a0_3, .int .i64 a0_4, .int .i64 a0_5, .int .i64 a0_6, .int .u8 a0_7, .int .i64 a0_8, .int .i64 a0_9, .slice A0_10 l0_10.length c0_10, .slice A0_11 l0_11.length c0_11] 73 (0, 0)) (by (with_reducible repeat (first | refine bN_ ?_ _ | refine bD_ ?_ | refine bA_ ?_ _)); exact BK144.out)) : gb146 ≠ gb144)); have n8_ := Aside0.mk ((by rw [hg]; exact Nat.ne_of_lt (blk_lt (g := gb145) (o := .cells #[.bool false, .complex .f64 0 0, .int .i64 0, .int .i64 0, .int .i64 0, .slice none 0 0, .int .i64 0] 70 (0, 0)) (by (with_reducible repeat (first | refine bN_ ?_ _ | refine bD_ ?_ | refine bA_ ?_ _)); exact BK145.out)) : gb145 ≠ gb146)); have n9_ := Aside0.mk ((by rw [hg]; exact Nat.ne_of_gt (blk_lt (g := gb145) (o := .cells #[.bool false, .complex .f64 0 0, .int .i64 0, .int .i64 0, .int .i64 0, .slice none 0 0, .int .i64 0] 70 (0, 0)) (by (with_reducible repeat (first | refine bN_ ?_ _ | refine bD_ ?_ | refine bA_ ?_ _)); exact BK145.out)) : gb146 ≠ gb145)); clear BK144; clear BK145; clear HB; have BK144 := n0_; have BK145 := n1_; have HB := n2_; have BK146 := n3_; have GW146 := n4_; have GE146 := n5_; have NB144_146 := n6_; have NB146_144 := n7_; have NB145_146 := n8_; have NB146_145 := n9_; clear n0_ n1_ n2_ n3_ n4_ n5_ n6_ n7_ n8_ n9_; clear hb hbox hg; have hnb47 := NB144_145.out; have hnc47 := NB145_144.out; have hnb48 := NB144_146.out; have hnc48 := NB146_144.out; have hcz49_0 : w46.cell? ⟨gb144, 0, none⟩ = some (.int .i64 a0_0) := (bC_ BK144.out 0).trans rfl; have hcz49_1 : w46.cell? ⟨gb144, 1, none⟩ = some (.float .f64 a0_1) := (bC_ BK144.out 1).trans rfl; have hcz49_2 : w46.cell? ⟨gb144, 2, none⟩ = some (.float .f64 a0_2) := (bC_ BK144.out 2).trans rfl; have hcz49_3 : w46.cell? ⟨gb144, 3, none⟩ = some (.int .i64 a0_3) := (bC_ BK144.out 3).trans rfl; have hcz49_4 : w46.cell? ⟨gb144, 4, none⟩ = some (.int .i64 a0_4) := (bC_ BK144.out 4).trans rfl; have hcz49_5 : w46.cell? ⟨gb144, 5, none⟩ = some (.int .i64 a0_5) := (bC_ BK144.out 5).trans rfl; have hcz49_6 : w46.cell? ⟨gb144, 6, none⟩ = some (.int .i64 a0_6) := (bC_ BK144.out 6).trans rfl; have hcz49_7 : w46.cell? ⟨gb144, 7, none⟩ = some (.int .u8 a0_7) := (bC_ BK144.out 7).trans rfl; have hcz49_8 : w46.cell? ⟨gb144, 8, none⟩ = some (.int .i64 a0_8) := (bC_ BK144.out 8).trans rfl; have hcz49_9 : w46.cell? ⟨gb144, 9, none⟩ = some (.int .i64 a0_9) := (bC_ BK144.out 9).trans rfl; have hcz49_10 : w46.cell? ⟨gb144, 10, none⟩ = some (.slice A0_10 l0_10.length c0_10) := (bC_ BK144.out 10).trans rfl; have hcz49_11 : w46.cell? ⟨gb144, 11, none⟩ = some (.slice A0_11 l0_11.length c0_11) := (bC_ BK144.out 11).trans rfl; have hfz49_0 := bZ_ BK144.out 0; have hfz49_1 := bZ_ BK144.out 1; have hfz49_2 := bZ_ BK144.out 2; have hfz49_3 := bZ_ BK144.out 3; have hfz49_4 := bZ_ BK144.out 4; have hfz49_5 := bZ_ BK144.out 5; have hfz49_6 := bZ_ BK144.out 6; have hfz49_7 := bZ_ BK144.out 7; have hfz49_8 := bZ_ BK144.out 8; have hfz49_9 := bZ_ BK144.out 9; have hfz49_10 := bZ_ BK144.out 10; have hfz49_11 := bZ_ BK144.out 11) | ((with_reducible refine gate_callee (f := 30) rfl ?_); refine goesL_ (some 46) rfl rfl Try.func30 (by kernel_rfl) rfl #[.agg #[.float .f64 a0_1, .float .f64 a0_2]] rfl (by (try simp only [List.map_toArray, List.map_cons, List.map_nil]); first | done | rfl | (simp only [List.length_drop, List.length_take]; rfl)) ?_; (with_reducible refine (pylonlaw12_Z_c.calls a0_1 a0_2 t155 _ A42.out).mono ?_); rintro e w50 ⟨rfl, hb⟩; refine ⟨_, rfl, ?_⟩; have n0_ := Aside0.mk (bB_ (g := gb144) (o := .cells #[.int .i64 a0_0, .float .f64 a0_1, .float .f64 a0_2, .int .i64 a0_3, .int .i64 a0_4, .int .i64 a0_5, .int .i64 a0_6, .int .u8 a0_7, .int .i64 a0_8, .int .i64 a0_9, .slice A0_10 l0_10.length c0_10, .slice A0_11 l0_11.length c0_11] 73 (0, 0)) (by (with_reducible repeat (first | refine bN_ ?_ _ | refine bD_ ?_ | refine bA_ ?_ _)); exact BK144.out) hb); have n1_ := Aside0.mk (bB_ (g := gb145) (o := .cells #[.bool false, .complex .f64 0 0, .int .i64 0, .int .i64 0, .int .i64 0, .slice none 0 0, .int .i64 0] 70 (0, 0)) (by (with_reducible repeat (first | refine bN_ ?_ _ | refine bD_ ?_ | refine bA_ ?_ _)); exact BK145.out) hb); have n2_ := Aside0.mk (bB_ (g := gb146) (o := .cells #[.bool false, .complex .f64 0 0, .int .i64 0, .int .i64 0, .int .i64 0, .slice none 0 0, .int .i64 0] 70 (0, 0)) (by (with_reducible repeat (first | refine bN_ ?_ _ | refine bD_ ?_ | refine bA_ ?_ _)); exact BK146.out) hb); have n3_ := Aside0.mk (below_step (by repeat (first | (with_reducible first | exact HB.out | apply lA_ | apply lN_ | apply l1_ | refine lS_ ?_ GE144.out | refine lS_ ?_ GE145.out | refine lS_ ?_ GE146.out) | exact HB.out)) hb); clear BK144; clear BK145; clear BK146; clear HB; have BK144 := n0_; have BK145 := n1_; have BK146 := n2_; have HB := n3_; clear n0_ n1_ n2_ n3_; (try clear hb); (try clear hb2); (try clear hk); (try clear hi)) | ((with_reducible refine gate_callee (f := 31) rfl ?_); refine goesL_ (some 47) rfl rfl Try.func31 (by kernel_rfl) rfl #[.complex .f64 t155.re t155.im] rfl (by (try simp only [List.map_toArray, List.map_cons, List.map_nil]); first | done | rfl | (simp only [List.length_drop, List.length_take]; rfl)) ?_; (with_reducible refine (meter_Split.calls t155 t156 t157 t158 t159 _ A43.out).mono ?_); rintro e w51 ⟨rfl, hb⟩; refine ⟨_, rfl, ?_⟩; have n0_ := Aside0.mk (bB_ (g := gb144) (o := .cells #[.int .i64 a0_0, .float .f64 a0_1, .float .f64 a0_2, .int .i64 a0_3, .int .i64 a0_4, .int .i64 a0_5, .int .i64 a0_6, .int .u8 a0_7, .int .i64 a0_8, .int .i64 a0_9, .slice A0_10 l0_10.length c0_10, .slice A0_11 l0_11.length c0_11] 73 (0, 0)) (by (with_reducible repeat (first | refine bN_ ?_ _ | refine bD_ ?_ | refine bA_ ?_ _)); exact BK144.out) hb); have n1_ := Aside0.mk (bB_ (g := gb145) (o := .cells #[.bool false, .complex .f64 0 0, .int .i64 0, .int .i64 0, .int .i64 0, .slice none 0 0, .int .i64 0] 70 (0, 0)) (by (with_reducible repeat (first | refine bN_ ?_ _ | refine bD_ ?_ | refine bA_ ?_ _)); exact BK145.out) hb); have n2_ := Aside0.mk (bB_ (g := gb146) (o := .cells #[.bool false, .complex .f64 0 0, .int .i64 0, .int .i64 0, .int .i64 0, .slice none 0 0, .int .i64 0] 70 (0, 0)) (by (with_reducible repeat (first | refine bN_ ?_ _ | refine bD_ ?_ | refine bA_ ?_ _)); exact BK146.out) hb); have n3_ := Aside0.mk (below_step (by repeat (first | (with_reducible first | exact HB.out | apply lA_ | apply lN_ | apply l1_ | refine lS_ ?_ GE144.out | refine lS_ ?_ GE145.out | refine lS_ ?_ GE146.out) | exact HB.out)) hb); clear BK144; clear BK145; clear BK146; clear HB; have BK144 := n0_; have BK145 := n1_; have BK146 := n2_; have HB := n3_; clear n0_ n1_ n2_ n3_; (try clear hb); (try clear hb2); (try clear hk); (try clear hi); have hnb52 := NB146_145.out; have hnc52 := NB145_146.out; have hcz53_0 : w51.cell? ⟨gb146, 0, none⟩ = some (.bool false) := (bC_ BK146.out 0).trans rfl; have hcz53_1 : w51.cell? ⟨gb146, 1, none⟩ = some (.complex .f64 0 0) := (bC_ BK146.out 1).trans rfl; have hcz53_2 : w51.cell? ⟨gb146, 2, none⟩ = some (.int .i64 0) := (bC_ BK146.out 2).trans rfl; have hcz53_3 : w51.cell? ⟨gb146, 3, none⟩ = some (.int .i64 0) := (bC_ BK146.out 3).trans rfl; have hcz53_4 : w51.cell? ⟨gb146, 4, none⟩ = some (.int .i64 0) := (bC_ BK146.out 4).trans rfl; have hcz53_5 : w51.cell? ⟨gb146, 5, none⟩ = some (.slice none 0 0) := (bC_ BK146.out 5).trans rfl; have hcz53_6 : w51.cell? ⟨gb146, 6, none⟩ = some (.int .i64 0) := (bC_ BK146.out 6).trans rfl; have hfz53_0 := bZ_ BK146.out 0; have hfz53_1 := bZ_ BK146.out 1; have hfz53_2 := bZ_ BK146.out 2; have hfz53_3 := bZ_ BK146.out 3; have hfz53_4 := bZ_ BK146.out 4; have hfz53_5 := bZ_ BK146.out 5; have hfz53_6 := bZ_ BK146.out 6; have hcz54_0 : w51.cell? ⟨gb145, 0, none⟩ = some (.bool false) := (bC_ BK145.out 0).trans rfl; have hcz54_1 : w51.cell? ⟨gb145, 1, none⟩ = some (.complex .f64 0 0) := (bC_ BK145.out 1).trans rfl; have hcz54_2 : w51.cell? ⟨gb145, 2, none⟩ = some (.int .i64 0) := (bC_ BK145.out 2).trans rfl; have hcz54_3 : w51.cell? ⟨gb145, 3, none⟩ = some (.int .i64 0) := (bC_ BK145.out 3).trans rfl; have hcz54_4 : w51.cell? ⟨gb145, 4, none⟩ = some (.int .i64 0) := (bC_ BK145.out 4).trans rfl; have hcz54_5 : w51.cell? ⟨gb145, 5, none⟩ = some (.slice none 0 0) := (bC_ BK145.out 5).trans rfl; have hcz54_6 : w51.cell? ⟨gb145, 6, none⟩ = some (.int .i64 0) := (bC_ BK145.out 6).trans rfl; have hfz54_0 := bZ_ BK145.out 0; have hfz54_1 := bZ_ BK145.out 1; have hfz54_2 := bZ_ BK145.out 2; have hfz54_3 := bZ_ BK145.out 3; have hfz54_4 := bZ_ BK145.out 4; have hfz54_5 := bZ_ BK145.out 5; have hfz54_6 := bZ_ BK145.out 6))
     refine bodyPost_ret (results_cell_row rfl _ _ gb145 70 #[.bool false, .complex .f64 0 0, .int .i64 t156, .int .i64 t157, .int .i64 t158, .slice none 0 0, .int .i64 t159] (0, 0) _ rfl (by (with_reducible repeat (first | refine bN_ ?_ _ | refine bD_ ?_ | refine bA_ ?_ _)); refine bP_ (cs := #[.bool false, .complex .f64 0 0, .int .i64 t156, .int .i64 t157, .int .i64 t158, .slice none 0 0, .int .i64 0]) ?_ 6 _ rfl; (with_reducible repeat (first | refine bN_ ?_ _ | refine bD_ ?_ | refine bA_ ?_ _)); refine bP_ (cs := #[.bool false, .complex .f64 0 0, .int .i64 t156, .int .i64 t157, .int .i64 t158, .slice none 0 0, .int .i64 0]) ?_ 5 _ rfl; (with_reducible repeat (first | refine bN_ ?_ _ | refine bD_ ?_ | refine bA_ ?_ _)); refine bP_ (cs := #[.bool false, .complex .f64 0 0, .int .i64 t156, .int .i64 t157, .int .i64 0, .slice none 0 0, .int .i64 0]) ?_ 4 _ rfl; (with_reducible repeat (first | refine bN_ ?_ _ | refine bD_ ?_ | refine bA_ ?_ _)); refine bP_ (cs := #[.bool false, .complex .f64 0 0, .int .i64 t156, .int .i64 0, .int .i64 0, .slice none 0 0, .int .i64 0]) ?_ 3 _ rfl; (with_reducible repeat (first | refine bN_ ?_ _ | refine bD_ ?_ | refine bA_ ?_ _)); refine bP_ (cs := #[.bool false, .complex .f64 0 0, .int .i64 0, .int .i64 0, .int .i64 0, .slice none 0 0, .int .i64 0]) ?_ 2 _ rfl; (with_reducible repeat (first | refine bN_ ?_ _ | refine bD_ ?_ | refine bA_ ?_ _)); refine bP_ (cs := #[.bool false, .complex .f64 0 0, .int .i64 0, .int .i64 0, .int .i64 0, .slice none 0 0, .int .i64 0]) ?_ 1 _ rfl; (with_reducible repeat (first | refine bN_ ?_ _ | refine bD_ ?_ | refine bA_ ?_ _)); refine bP_ (cs := #[.bool false, .complex .f64 0 0, .int .i64 0, .int .i64 0, .int .i64 0, .slice none 0 0, .int .i64 0]) ?_ 0 _ rfl; (with_reducible repeat (first | refine bN_ ?_ _ | refine bD_ ?_ | refine bA_ ?_ _)); refine bF_ ?_ NB145_146.out _; (with_reducible repeat (first | refine bN_ ?_ _ | refine bD_ ?_ | refine bA_ ?_ _)); refine bF_ ?_ NB145_146.out _; (with_reducible repeat (first | refine bN_ ?_ _ | refine bD_ ?_ | refine bA_ ?_ _)); refine bF_ ?_ NB145_146.out _; (with_reducible repeat (first | refine bN_ ?_ _ | refine bD_ ?_ | refine bA_ ?_ _)); refine bF_ ?_ NB145_146.out _; (with_reducible repeat (first | refine bN_ ?_ _ | refine bD_ ?_ | refine bA_ ?_ _)); exact BK145.out) Try.underlying70 rfl (by kernel_rfl)) rfl ?_
     exact ⟨_, by first | rfl | (simp [errW_none, errW_some] <;> rfl) | (simp [*, errW_none, errW_some] <;> rfl), by first | exact Kd.R_nil _ _ _ _ _ | exact Kd.N_nil _ _ _ _ _ | exact Kd.V_nil _ _ _ _ _ | exact Kd.Q_nil _ _ _ _ _ | exact Kd.S_nil _ _ _ _ _, by repeat (first | (with_reducible first | exact HB.out | apply lA_ | apply lN_ | apply l1_ | refine lS_ ?_ GE144.out | refine lS_ ?_ GE145.out | refine lS_ ?_ GE146.out) | exact HB.out)⟩
    ·
     rw [if_neg c41] at H
     have c41b0 : (a0_0 == 4) = false := beq_eq_false_iff_ne.mpr c41
     have c41b1 : (a0_0 != 4) = true := bne_iff_ne.mpr c41
     by_cases c55 : a0_0 = 5
     ·
      rw [if_pos c55] at H
      have c55b0 : (a0_0 == 5) = true := beq_iff_eq.mpr c55
      have c55b1 : (a0_0 != 5) = false := bne_eq_false_iff_eq.mpr c55
      clear c55
      replace H := Option.bind_eq_some_iff.mp H
      obtain ⟨t160, A560, H⟩ := H
      replace H : ((meter_Total.f k t160).bind fun bt163 => (some (false, bt163.1, 0, 0, 0, ([] : List Cx), bt163.2))) = some (r1, r2, r3, r4, r5, r6, r7) := H
      have A56 := Aside0.mk A560
      clear A560
      replace H := Option.bind_eq_some_iff.mp H
      obtain ⟨⟨t163, t164⟩, A570, H⟩ := H
      replace H : (some (false, t163, 0, 0, 0, ([] : List Cx), t164)) = some (r1, r2, r3, r4, r5, r6, r7) := H
      have A57 := Aside0.mk A570
      clear A570
      simp only [Option.some.injEq, Prod.mk.injEq] at H
      obtain ⟨rfl, rfl, rfl, rfl, rfl, rfl, rfl⟩ := H
      go_enter Try.func40, Try.ntmps40
      go_wp2_with (first | ((with_reducible refine gate_dst (N := 1) rfl ?_); refine box_event ?hg (N := 1) ?hd (cs := #[.int .i64 a0_0, .float .f64 a0_1, .float .f64 a0_2, .int .i64 a0_3, .int .i64 a0_4, .int .i64 a0_5, .int .i64 a0_6, .int .u8 a0_7, .int .i64 a0_8, .int .i64 a0_9, .slice A0_10 l0_10.length c0_10, .slice A0_11 l0_11.length c0_11]) (t := 73) ?hr ?_; (case hd => rfl); (case hg => rfl); (case hr => first | (go_simp; done) | (go_simp; rfl)); intro gb144 hg w58 hbox hb; have n0_ := Aside0.mk (below_step (by repeat (first | (with_reducible first | exact HB.out | apply lA_ | apply lN_ | apply l1_) | exact HB.out)) hb); have n1_ := Aside0.mk (hbox); have n2_ := Aside0.mk ((by rw [hg]; exact (below_size (by repeat (first | (with_reducible first | exact HB.out | apply lA_ | apply lN_ | apply l1_) | exact HB.out))) : w.heap.size ≤ gb144)); have n3_ := Aside0.mk ((by rw [hg]; exact (below_size (by repeat (first | (with_reducible first | exact HB.out | apply lA_ | apply lN_ | apply l1_) | exact HB.out))) : w.heap.size ≤ gb144)); clear HB; have HB := n0_; have BK144 := n1_; have GW144 := n2_; have GE144 := n3_; clear n0_ n1_ n2_ n3_; clear hb hbox hg) | ((with_reducible refine gate_dst (N := 2) rfl ?_); refine box_event ?hg (N := 2) ?hd (cs := #[.bool false, .complex .f64 0 0, .int .i64 0, .int .i64 0, .int .i64 0, .slice none 0 0, .int .i64 0]) (t := 70) ?hr ?_; (case hd => rfl); (case hg => rfl); (case hr => first | (go_simp; done) | (go_simp; rfl)); intro gb145 hg w59 hbox hb; have n0_ := Aside0.mk (bB_ (g := gb144) (o := .cells #[.int .i64 a0_0, .float .f64 a0_1, .float .f64 a0_2, .int .i64 a0_3, .int .i64 a0_4, .int .i64 a0_5, .int .i64 a0_6, .int .u8 a0_7, .int .i64 a0_8, .int .i64 a0_9, .slice A0_10 l0_10.length c0_10, .slice A0_11 l0_11.length c0_11] 73 (0, 0)) (by (with_reducible repeat (first | refine bN_ ?_ _ | refine bD_ ?_ | refine bA_ ?_ _)); exact BK144.out) hb); have n1_ := Aside0.mk (below_step (by repeat (first | (with_reducible first | exact HB.out | apply lA_ | apply lN_ | apply l1_ | refine lS_ ?_ GE144.out) | exact HB.out)) hb); have n2_ := Aside0.mk (hbox); have n3_ := Aside0.mk ((by rw [hg]; exact (below_size (by repeat (first | (with_reducible first | exact HB.out | apply lA_ | apply lN_ | apply l1_ | refine lS_ ?_ GE144.out) | exact HB.out))) : w.heap.size ≤ gb145)); have n4_ := Aside0.mk ((by rw [hg]; exact (below_size (by repeat (first | (with_reducible first | exact HB.out | apply lA_ | apply lN_ | apply l1_ | refine lS_ ?_ GE144.out) | exact HB.out))) : w.heap.size ≤ gb145)); have n5_ := Aside0.mk ((by rw [hg]; exact Nat.ne_of_lt (blk_lt (g := gb144) (o := .cells #[.int .i64 a0_0, .float .f64 a0_1, .float .f64 a0_2, .int .i64 a0_3, .int .i64 a0_4, .int .i64 a0_5, .int .i64 a0_6, .int .u8 a0_7, .int .i64 a0_8, .int .i64 a0_9, .slice A0_10 l0_10.length c0_10, .slice A0_11 l0_11.length c0_11] 73 (0, 0)) (by (with_reducible repeat (first | refine bN_ ?_ _ | refine bD_ ?_ | refine bA_ ?_ _)); exact BK144.out)) : gb144 ≠ gb145)); have n6_ := Aside0.mk ((by rw [hg]; exact Nat.ne_of_gt (blk_lt (g := gb144) (o := .cells #[.int .i64 a0_0, .float .f64 a0_1, .float .f64 a0_2, .int .i64 a0_3, .int .i64 a0_4, .int .i64 a0_5, .int .i64 a0_6, .int .u8 a0_7, .int .i64 a0_8, .int .i64 a0_9, .slice A0_10 l0_10.length c0_10, .slice A0_11 l0_11.length c0_11] 73 (0, 0)) (by (with_reducible repeat (first | refine bN_ ?_ _ | refine bD_ ?_ | refine bA_ ?_ _)); exact BK144.out)) : gb145 ≠ gb144)); clear BK144; clear HB; have BK144 := n0_; have HB := n1_; have BK145 := n2_; have GW145 := n3_; have GE145 := n4_; have NB144_145 := n5_; have NB145_144 := n6_; clear n0_ n1_ n2_ n3_ n4_ n5_ n6_; clear hb hbox hg) | ((with_reducible refine gate_dst (N := 3) rfl ?_); refine box_event ?hg (N := 3) ?hd (cs := #[.bool false, .complex .f64 0 0, .int .i64 0, .int .i64 0, .int .i64 0, .slice none 0 0, .int .i64 0]) (t := 70) ?hr ?_; (case hd => rfl); (case hg => rfl); (case hr => first | (go_simp; done) | (go_simp; rfl)); intro gb146 hg w60 hbox hb; have n0_ := Aside0.mk (bB_ (g := gb144) (o := .cells #[.int .i64 a0_0, .float .f64 a0_1, .float .f64 a0_2, .int .i64 a0_3, .int .i64 a0_4, .int .i64 a0_5, .int .i64 a0_6, .int .u8 a0_7, .int .i64 a0_8, .int .i64 a0_9, .slice A0_10 l0_10.length c0_10, .slice A0_11 l0_11.length c0_11] 73 (0, 0)) (by (with_reducible repeat (first | refine bN_ ?_ _ | refine bD_ ?_ | refine bA_ ?_ _)); exact BK144.out) hb); have n1_ := Aside0.mk (bB_ (g := gb145) (o := .cells #[.bool false, .complex .f64 0 0, .int .i64 0, .int .i64 0, .int .i64 0, .slice none 0 0, .int .i64 0] 70 (0, 0)) (by (with_reducible repeat (first | refine bN_ ?_ _ | refine bD_ ?_ | refine bA_ ?_ _)); exact BK145.out) hb); have n2_ := Aside0.mk (below_step (by repeat (first | (with_reducible first | exact HB.out | apply lA_ | apply lN_ | apply l1_ | refine lS_ ?_ GE144.out | refine lS_ ?_ GE145.out) | exact HB.out)) hb); have n3_ := Aside0.mk (hbox); have n4_ := Aside0.mk ((by rw [hg]; exact (below_size (by repeat (first | (with_reducible first | exact HB.out | apply lA_ | apply lN_ | apply l1_ | refine lS_ ?_ GE144.out | refine lS_ ?_ GE145.out) | exact HB.out))) : w.heap.size ≤ gb146)); have n5_ := Aside0.mk ((by rw [hg]; exact (below_size (by repeat (first | (with_reducible first | exact HB.out | apply lA_ | apply lN_ | apply l1_ | refine lS_ ?_ GE144.out | refine lS_ ?_ GE145.out) | exact HB.out))) : w.heap.size ≤ gb146)); have n6_ := Aside0.mk ((by rw [hg]; exact Nat.ne_of_lt (blk_lt (g := gb144) (o := .cells #[.int .i64 a0_0, .float .f64 a0_1, .float .f64 a0_2, .int .i64 a0_3, .int .i64 a0_4, .int .i64 a0_5, .int .i64 a0_6, .int .u8 a0_7, .int .i64 a0_8, .int .i64 a0_9, .slice A0_10 l0_10.length c0_10, .slice A0_11 l0_11.length c0_11] 73 (0, 0)) (by (with_reducible repeat (first | refine bN_ ?_ _ | refine bD_ ?_ | refine bA_ ?_ _)); exact BK144.out)) : gb144 ≠ gb146)); have n7_ := Aside0.mk ((by rw [hg]; exact Nat.ne_of_gt (blk_lt (g := gb144) (o := .cells #[.int .i64 a0_0, .float .f64 a0_1, .float .f64 a0_2, .int .i64 a0_3, .int .i64 a0_4, .int .i64 a0_5, .int .i64 a0_6, .int .u8 a0_7, .int .i64 a0_8, .int .i64 a0_9, .slice A0_10 l0_10.length c0_10, .slice A0_11 l0_11.length c0_11] 73 (0, 0)) (by (with_reducible repeat (first | refine bN_ ?_ _ | refine bD_ ?_ | refine bA_ ?_ _)); exact BK144.out)) : gb146 ≠ gb144)); have n8_ := Aside0.mk ((by rw [hg]; exact Nat.ne_of_lt (blk_lt (g := gb145) (o := .cells #[.bool false, .complex .f64 0 0, .int .i64 0, .int .i64 0, .int .i64 0, .slice none 0 0, .int .i64 0] 70 (0, 0)) (by (with_reducible repeat (first | refine bN_ ?_ _ | refine bD_ ?_ | refine bA_ ?_ _)); exact BK145.out)) : gb145 ≠ gb146)); have n9_ := Aside0.mk ((by rw [hg]; exact Nat.ne_of_gt (blk_lt (g := gb145) (o := .cells #[.bool false, .complex .f64 0 0, .int .i64 0, .int .i64 0, .int .i64 0, .slice none 0 0, .int .i64 0] 70 (0, 0)) (by (with_reducible repeat (first | refine bN_ ?_ _ | refine bD_ ?_ | refine bA_ ?_ _)); exact BK145.out)) : gb146 ≠ gb145)); clear BK144; clear BK145; clear HB; have BK144 := n0_; have BK145 := n1_; have HB := n2_; have BK146 := n3_; have GW146 := n4_; have GE146 := n5_; have NB144_146 := n6_; have NB146_144 := n7_; have NB145_146 := n8_; have NB146_145 := n9_; clear n0_ n1_ n2_ n3_ n4_ n5_ n6_ n7_ n8_ n9_; clear hb hbox hg; have hnb61 := NB144_145.out; have hnc61 := NB145_144.out; have hnb62 := NB144_146.out; have hnc62 := NB146_144.out; have hcz63_0 : w60.cell? ⟨gb144, 0, none⟩ = some (.int .i64 a0_0) := (bC_ BK144.out 0).trans rfl; have hcz63_1 : w60.cell? ⟨gb144, 1, none⟩ = some (.float .f64 a0_1) := (bC_ BK144.out 1).trans rfl; have hcz63_2 : w60.cell? ⟨gb144, 2, none⟩ = some (.float .f64 a0_2) := (bC_ BK144.out 2).trans rfl; have hcz63_3 : w60.cell? ⟨gb144, 3, none⟩ = some (.int .i64 a0_3) := (bC_ BK144.out 3).trans rfl; have hcz63_4 : w60.cell? ⟨gb144, 4, none⟩ = some (.int .i64 a0_4) := (bC_ BK144.out 4).trans rfl; have hcz63_5 : w60.cell? ⟨gb144, 5, none⟩ = some (.int .i64 a0_5) := (bC_ BK144.out 5).trans rfl; have hcz63_6 : w60.cell? ⟨gb144, 6, none⟩ = some (.int .i64 a0_6) := (bC_ BK144.out 6).trans rfl; have hcz63_7 : w60.cell? ⟨gb144, 7, none⟩ = some (.int .u8 a0_7) := (bC_ BK144.out 7).trans rfl; have hcz63_8 : w60.cell? ⟨gb144, 8, none⟩ = some (.int .i64 a0_8) := (bC_ BK144.out 8).trans rfl; have hcz63_9 : w60.cell? ⟨gb144, 9, none⟩ = some (.int .i64 a0_9) := (bC_ BK144.out 9).trans rfl; have hcz63_10 : w60.cell? ⟨gb144, 10, none⟩ = some (.slice A0_10 l0_10.length c0_10) := (bC_ BK144.out 10).trans rfl; have hcz63_11 : w60.cell? ⟨gb144, 11, none⟩ = some (.slice A0_11 l0_11.length c0_11) := (bC_ BK144.out 11).trans rfl; have hfz63_0 := bZ_ BK144.out 0; have hfz63_1 := bZ_ BK144.out 1; have hfz63_2 := bZ_ BK144.out 2; have hfz63_3 := bZ_ BK144.out 3; have hfz63_4 := bZ_ BK144.out 4; have hfz63_5 := bZ_ BK144.out 5; have hfz63_6 := bZ_ BK144.out 6; have hfz63_7 := bZ_ BK144.out 7; have hfz63_8 := bZ_ BK144.out 8; have hfz63_9 := bZ_ BK144.out 9; have hfz63_10 := bZ_ BK144.out 10; have hfz63_11 := bZ_ BK144.out 11) | ((with_reducible refine gate_callee (f := 37) rfl ?_); refine goesL_ (some 61) rfl rfl Try.func37 (by kernel_rfl) rfl #[.slice A0_11 l0_11.length c0_11] rfl (by (try simp only [List.map_toArray, List.map_cons, List.map_nil]); first | done | rfl | (simp only [List.length_drop, List.length_take]; rfl)) ?_; (with_reducible refine (pylonlaw12_numbers.calls k _ _ l0_11 t160 _ ?side1 ?side2 A56.out).mono ?_); (case side1 => repeat (first | exact (Kd.C_below HR0_11.out HB.out) | (with_reducible refine Kd.C_alloc ?_ _) | (with_reducible refine Kd.C_drewN ?_ _) | (with_reducible refine Kd.C_drew ?_))); (case side2 => exact HC0_11.out); rintro e w64 ⟨v161, rfl, ho0, hb⟩; refine ⟨_, rfl, ?_⟩; have n0_ := Aside0.mk (Kd.R_lower ho0 (below_size (by repeat (first | (with_reducible first | exact HB.out | apply lA_ | apply lN_ | apply l1_ | refine lS_ ?_ GE144.out | refine lS_ ?_ GE145.out | refine lS_ ?_ GE146.out) | exact HB.out)))); have n1_ := Aside0.mk (bB_ (g := gb144) (o := .cells #[.int .i64 a0_0, .float .f64 a0_1, .float .f64 a0_2, .int .i64 a0_3, .int .i64 a0_4, .int .i64 a0_5, .int .i64 a0_6, .int .u8 a0_7, .int .i64 a0_8, .int .i64 a0_9, .slice A0_10 l0_10.length c0_10, .slice A0_11 l0_11.length c0_11] 73 (0, 0)) (by (with_reducible repeat (first | refine bN_ ?_ _ | refine bD_ ?_ | refine bA_ ?_ _)); exact BK144.out) hb); have n2_ := Aside0.mk (bB_ (g := gb145) (o := .cells #[.bool false, .complex .f64 0 0, .int .i64 0, .int .i64 0, .int .i64 0, .slice none 0 0, .int .i64 0] 70 (0, 0)) (by (with_reducible repeat (first | refine bN_ ?_ _ | refine bD_ ?_ | refine bA_ ?_ _)); exact BK145.out) hb); have n3_ := Aside0.mk (bB_ (g := gb146) (o := .cells #[.bool false, .complex .f64 0 0, .int .i64 0, .int .i64 0, .int .i64 0, .slice none 0 0, .int .i64 0] 70 (0, 0)) (by (with_reducible repeat (first | refine bN_ ?_ _ | refine bD_ ?_ | refine bA_ ?_ _)); exact BK146.out) hb); have n4_ := Aside0.mk (below_step (by repeat (first | (with_reducible first | exact HB.out | apply lA_ | apply lN_ | apply l1_ | refine lS_ ?_ GE144.out | refine lS_ ?_ GE145.out | refine lS_ ?_ GE146.out) | exact HB.out)) hb); clear BK144; clear BK145; clear BK146; clear HB; have HO162 := n0_; have BK144 := n1_; have BK145 := n2_; have BK146 := n3_; have HB := n4_; clear n0_ n1_ n2_ n3_ n4_; (try clear hb); (try clear hb2); (try clear hk); (try clear hi); (try clear ho0); obtain ⟨Ao65, co65, eo65⟩ := Kd.R_slice HO162.out; subst eo65) | ((with_reducible refine gate_callee (f := 38) rfl ?_); refine goesL_ (some 62) rfl rfl Try.func38 (by kernel_rfl) rfl #[.slice Ao65 t160.length co65] rfl (by (try simp only [List.map_toArray, List.map_cons, List.map_nil]); first | done | rfl | (simp only [List.length_drop, List.length_take]; rfl)) ?_; (with_reducible refine (meter_Total.calls k _ _ t160 t163 t164 _ ?side1 ?side2 A57.out).mono ?_); (case side1 => repeat (first | exact (Kd.R_reads' HO162.out).2.2 | (with_reducible refine Kd.C_alloc ?_ _) | (with_reducible refine Kd.C_drewN ?_ _) | (with_reducible refine Kd.C_drew ?_))); (case side2 => exact (Kd.R_reads' HO162.out).2.1); rintro e w66 ⟨rfl, hb⟩; refine ⟨_, rfl, ?_⟩; have n0_ := Aside0.mk (Kd.R_below (by (with_reducible repeat (first | apply Kd.R_alloc | apply Kd.R_drewN | apply Kd.R_drew)); exact HO162.out) hb); have n1_ := Aside0.mk (bB_ (g := gb144) (o := .cells #[.int .i64 a0_0, .float .f64 a0_1, .float .f64 a0_2, .int .i64 a0_3, .int .i64 a0_4, .int .i64 a0_5, .int .i64 a0_6, .int .u8 a0_7, .int .i64 a0_8, .int .i64 a0_9, .slice A0_10 l0_10.length c0_10, .slice A0_11 l0_11.length c0_11] 73 (0, 0)) (by (with_reducible repeat (first | refine bN_ ?_ _ | refine bD_ ?_ | refine bA_ ?_ _)); exact BK144.out) hb); have n2_ := Aside0.mk (bB_ (g := gb145) (o := .cells #[.bool false, .complex .f64 0 0, .int .i64 0, .int .i64 0, .int .i64 0, .slice none 0 0, .int .i64 0] 70 (0, 0)) (by (with_reducible repeat (first | refine bN_ ?_ _ | refine bD_ ?_ | refine bA_ ?_ _)); exact BK145.out) hb); have n3_ := Aside0.mk (bB_ (g := gb146) (o := .cells #[.bool false, .complex .f64 0 0, .int .i64 0, .int .i64 0, .int .i64 0, .slice none 0 0, .int .i64 0] 70 (0, 0)) (by (with_reducible repeat (first | refine bN_ ?_ _ | refine bD_ ?_ | refine bA_ ?_ _)); exact BK146.out) hb); have n4_ := Aside0.mk (below_step (by repeat (first | (with_reducible first | exact HB.out | apply lA_ | apply lN_ | apply l1_ | refine lS_ ?_ GE144.out | refine lS_ ?_ GE145.out | refine lS_ ?_ GE146.out) | exact HB.out)) hb); clear HO162; clear BK144; clear BK145; clear BK146; clear HB; have HO162 := n0_; have BK144 := n1_; have BK145 := n2_; have BK146 := n3_; have HB := n4_; clear n0_ n1_ n2_ n3_ n4_; (try clear hb); (try clear hb2); (try clear hk); (try clear hi); have hnb67 := NB146_145.out; have hnc67 := NB145_146.out; have hcz68_0 : w66.cell? ⟨gb146, 0, none⟩ = some (.bool false) := (bC_ BK146.out 0).trans rfl; have hcz68_1 : w66.cell? ⟨gb146, 1, none⟩ = some (.complex .f64 0 0) := (bC_ BK146.out 1).trans rfl; have hcz68_2 : w66.cell? ⟨gb146, 2, none⟩ = some (.int .i64 0) := (bC_ BK146.out 2).trans rfl; have hcz68_3 : w66.cell? ⟨gb146, 3, none⟩ = some (.int .i64 0) := (bC_ BK146.out 3).trans rfl; have hcz68_4 : w66.cell? ⟨gb146, 4, none⟩ = some (.int .i64 0) := (bC_ BK146.out 4).trans rfl; have hcz68_5 : w66.cell? ⟨gb146, 5, none⟩ = some (.slice none 0 0) := (bC_ BK146.out 5).trans rfl; have hcz68_6 : w66.cell? ⟨gb146, 6, none⟩ = some (.int .i64 0) := (bC_ BK146.out 6).trans rfl; have hfz68_0 := bZ_ BK146.out 0; have hfz68_1 := bZ_ BK146.out 1; have hfz68_2 := bZ_ BK146.out 2; have hfz68_3 := bZ_ BK146.out 3; have hfz68_4 := bZ_ BK146.out 4; have hfz68_5 := bZ_ BK146.out 5; have hfz68_6 := bZ_ BK146.out 6; have hcz69_0 : w66.cell? ⟨gb145, 0, none⟩ = some (.bool false) := (bC_ BK145.out 0).trans rfl; have hcz69_1 : w66.cell? ⟨gb145, 1, none⟩ = some (.complex .f64 0 0) := (bC_ BK145.out 1).trans rfl; have hcz69_2 : w66.cell? ⟨gb145, 2, none⟩ = some (.int .i64 0) := (bC_ BK145.out 2).trans rfl; have hcz69_3 : w66.cell? ⟨gb145, 3, none⟩ = some (.int .i64 0) := (bC_ BK145.out 3).trans rfl; have hcz69_4 : w66.cell? ⟨gb145, 4, none⟩ = some (.int .i64 0) := (bC_ BK145.out 4).trans rfl; have hcz69_5 : w66.cell? ⟨gb145, 5, none⟩ = some (.slice none 0 0) := (bC_ BK145.out 5).trans rfl; have hcz69_6 : w66.cell? ⟨gb145, 6, none⟩ = some (.int .i64 0) := (bC_ BK145.out 6).trans rfl; have hfz69_0 := bZ_ BK145.out 0; have hfz69_1 := bZ_ BK145.out 1; have hfz69_2 := bZ_ BK145.out 2; have hfz69_3 := bZ_ BK145.out 3; have hfz69_4 := bZ_ BK145.out 4; have hfz69_5 := bZ_ BK145.out 5; have hfz69_6 := bZ_ BK145.out 6))
      refine bodyPost_ret (results_cell_row rfl _ _ gb145 70 #[.bool false, .complex .f64 t163.re t163.im, .int .i64 0, .int .i64 0, .int .i64 0, .slice none 0 0, .int .i64 t164] (0, 0) _ rfl (by (with_reducible repeat (first | refine bN_ ?_ _ | refine bD_ ?_ | refine bA_ ?_ _)); refine bP_ (cs := #[.bool false, .complex .f64 t163.re t163.im, .int .i64 0, .int .i64 0, .int .i64 0, .slice none 0 0, .int .i64 0]) ?_ 6 _ rfl; (with_reducible repeat (first | refine bN_ ?_ _ | refine bD_ ?_ | refine bA_ ?_ _)); refine bP_ (cs := #[.bool false, .complex .f64 t163.re t163.im, .int .i64 0, .int .i64 0, .int .i64 0, .slice none 0 0, .int .i64 0]) ?_ 5 _ rfl; (with_reducible repeat (first | refine bN_ ?_ _ | refine bD_ ?_ | refine bA_ ?_ _)); refine bP_ (cs := #[.bool false, .complex .f64 t163.re t163.im, .int .i64 0, .int .i64 0, .int .i64 0, .slice none 0 0, .int .i64 0]) ?_ 4 _ rfl; (with_reducible repeat (first | refine bN_ ?_ _ | refine bD_ ?_ | refine bA_ ?_ _)); refine bP_ (cs := #[.bool false, .complex .f64 t163.re t163.im, .int .i64 0, .int .i64 0, .int .i64 0, .slice none 0 0, .int .i64 0]) ?_ 3 _ rfl; (with_reducible repeat (first | refine bN_ ?_ _ | refine bD_ ?_ | refine bA_ ?_ _)); refine bP_ (cs := #[.bool false, .complex .f64 t163.re t163.im, .int .i64 0, .int .i64 0, .int .i64 0, .slice none 0 0, .int .i64 0]) ?_ 2 _ rfl; (with_reducible repeat (first | refine bN_ ?_ _ | refine bD_ ?_ | refine bA_ ?_ _)); refine bP_ (cs := #[.bool false, .complex .f64 0 0, .int .i64 0, .int .i64 0, .int .i64 0, .slice none 0 0, .int .i64 0]) ?_ 1 _ rfl; (with_reducible repeat (first | refine bN_ ?_ _ | refine bD_ ?_ | refine bA_ ?_ _)); refine bP_ (cs := #[.bool false, .complex .f64 0 0, .int .i64 0, .int .i64 0, .int .i64 0, .slice none 0 0, .int .i64 0]) ?_ 0 _ rfl; (with_reducible repeat (first | refine bN_ ?_ _ | refine bD_ ?_ | refine bA_ ?_ _)); refine bF_ ?_ NB145_146.out _; (with_reducible repeat (first | refine bN_ ?_ _ | refine bD_ ?_ | refine bA_ ?_ _)); refine bF_ ?_ NB145_146.out _; (with_reducible repeat (first | refine bN_ ?_ _ | refine bD_ ?_ | refine bA_ ?_ _)); exact BK145.out) Try.underlying70 rfl (by kernel_rfl)) rfl ?_
      exact ⟨_, by first | rfl | (simp [errW_none, errW_some] <;> rfl) | (simp [*, errW_none, errW_some] <;> rfl), by first | exact Kd.R_nil _ _ _ _ _ | exact Kd.N_nil _ _ _ _ _ | exact Kd.V_nil _ _ _ _ _ | exact Kd.Q_nil _ _ _ _ _ | exact Kd.S_nil _ _ _ _ _, by repeat (first | (with_reducible first | exact HB.out | apply lA_ | apply lN_ | apply l1_ | refine lS_ ?_ GE144.out | refine lS_ ?_ GE145.out | refine lS_ ?_ GE146.out) | exact HB.out)⟩
     ·
      rw [if_neg c55] at H
      have c55b0 : (a0_0 == 5) = false := beq_eq_false_iff_ne.mpr c55
      have c55b1 : (a0_0 != 5) = true := bne_iff_ne.mpr c55
      by_cases c70 : a0_0 = 6
      ·
       rw [if_pos c70] at H
       have c70b0 : (a0_0 == 6) = true := beq_iff_eq.mpr c70
       have c70b1 : (a0_0 != 6) = false := bne_eq_false_iff_eq.mpr c70
       clear c70
       replace H := Option.bind_eq_some_iff.mp H
       obtain ⟨t165, A710, H⟩ := H
       replace H : ((meter_Energy.f k t165).bind fun bt168 => (some (false, cx 0 0, bt168.1, bt168.2.1, 0, ([] : List Cx), bt168.2.2))) = some (r1, r2, r3, r4, r5, r6, r7) := H
       have A71 := Aside0.mk A710
       clear A710
       replace H := Option.bind_eq_some_iff.mp H
       obtain ⟨⟨t168, t169, t170⟩, A720, H⟩ := H
       replace H : (some (false, cx 0 0, t168, t169, 0, ([] : List Cx), t170)) = some (r1, r2, r3, r4, r5, r6, r7) := H
       have A72 := Aside0.mk A720
       clear A720
       simp only [Option.some.injEq, Prod.mk.injEq] at H
       obtain ⟨rfl, rfl, rfl, rfl, rfl, rfl, rfl⟩ := H
       go_enter Try.func40, Try.ntmps40
       go_wp2_with (first | ((with_reducible refine gate_dst (N := 1) rfl ?_); refine box_event ?hg (N := 1) ?hd (cs := #[.int .i64 a0_0, .float .f64 a0_1, .float .f64 a0_2, .int .i64 a0_3, .int .i64 a0_4, .int .i64 a0_5, .int .i64 a0_6, .int .u8 a0_7, .int .i64 a0_8, .int .i64 a0_9, .slice A0_10 l0_10.length c0_10, .slice A0_11 l0_11.length c0_11]) (t := 73) ?hr ?_; (case hd => rfl); (case hg => rfl); (case hr => first | (go_simp; done) | (go_simp; rfl)); intro gb144 hg w73 hbox hb; have n0_ := Aside0.mk (below_step (by repeat (first | (with_reducible first | exact HB.out | apply lA_ | apply lN_ | apply l1_) | exact HB.out)) hb); have n1_ := Aside0.mk (hbox); have n2_ := Aside0.mk ((by rw [hg]; exact (below_size (by repeat (first | (with_reducible first | exact HB.out | apply lA_ | apply lN_ | apply l1_) | exact HB.out))) : w.heap.size ≤ gb144)); have n3_ := Aside0.mk ((by rw [hg]; exact (below_size (by repeat (first | (with_reducible first | exact HB.out | apply lA_ | apply lN_ | apply l1_) | exact HB.out))) : w.heap.size ≤ gb144)); clear HB; have HB := n0_; have BK144 := n1_; have GW144 := n2_; have GE144 := n3_; clear n0_ n1_ n2_ n3_; clear hb hbox hg) | ((with_reducible refine gate_dst (N := 2) rfl ?_); refine box_event ?hg (N := 2) ?hd (cs := #[.bool false, .complex .f64 0 0, .int .i64 0, .int .i64 0, .int .i64 0, .slice none 0 0, .int .i64 0]) (t := 70) ?hr ?_; (case hd => rfl); (case hg => rfl); (case hr => first | (go_simp; done) | (go_simp; rfl)); intro gb145 hg w74 hbox hb; have n0_ := Aside0.mk (bB_ (g := gb144) (o := .cells #[.int .i64 a0_0, .float .f64 a0_1, .float .f64 a0_2, .int .i64 a0_3, .int .i64 a0_4, .int .i64 a0_5, .int .i64 a0_6, .int .u8 a0_7, .int .i64 a0_8, .int .i64 a0_9, .slice A0_10 l0_10.length c0_10, .slice A0_11 l0_11.length c0_11] 73 (0, 0)) (by (with_reducible repeat (first | refine bN_ ?_ _ | refine bD_ ?_ | refine bA_ ?_ _)); exact BK144.out) hb); have n1_ := Aside0.mk (below_step (by repeat (first | (with_reducible first | exact HB.out | apply lA_ | apply lN_ | apply l1_ | refine lS_ ?_ GE144.out) | exact HB.out)) hb); have n2_ := Aside0.mk (hbox); have n3_ := Aside0.mk ((by rw [hg]; exact (below_size (by repeat (first | (with_reducible first | exact HB.out | apply lA_ | apply lN_ | apply l1_ | refine lS_ ?_ GE144.out) | exact HB.out))) : w.heap.size ≤ gb145)); have n4_ := Aside0.mk ((by rw [hg]; exact (below_size (by repeat (first | (with_reducible first | exact HB.out | apply lA_ | apply lN_ | apply l1_ | refine lS_ ?_ GE144.out) | exact HB.out))) : w.heap.size ≤ gb145)); have n5_ := Aside0.mk ((by rw [hg]; exact Nat.ne_of_lt (blk_lt (g := gb144) (o := .cells #[.int .i64 a0_0, .float .f64 a0_1, .float .f64 a0_2, .int .i64 a0_3, .int .i64 a0_4, .int .i64 a0_5, .int .i64 a0_6, .int .u8 a0_7, .int .i64 a0_8, .int .i64 a0_9, .slice A0_10 l0_10.length c0_10, .slice A0_11 l0_11.length c0_11] 73 (0, 0)) (by (with_reducible repeat (first | refine bN_ ?_ _ | refine bD_ ?_ | refine bA_ ?_ _)); exact BK144.out)) : gb144 ≠ gb145)); have n6_ := Aside0.mk ((by rw [hg]; exact Nat.ne_of_gt (blk_lt (g := gb144) (o := .cells #[.int .i64 a0_0, .float .f64 a0_1, .float .f64 a0_2, .int .i64 a0_3, .int .i64 a0_4, .int .i64 a0_5, .int .i64 a0_6, .int .u8 a0_7, .int .i64 a0_8, .int .i64 a0_9, .slice A0_10 l0_10.length c0_10, .slice A0_11 l0_11.length c0_11] 73 (0, 0)) (by (with_reducible repeat (first | refine bN_ ?_ _ | refine bD_ ?_ | refine bA_ ?_ _)); exact BK144.out)) : gb145 ≠ gb144)); clear BK144; clear HB; have BK144 := n0_; have HB := n1_; have BK145 := n2_; have GW145 := n3_; have GE145 := n4_; have NB144_145 := n5_; have NB145_144 := n6_; clear n0_ n1_ n2_ n3_ n4_ n5_ n6_; clear hb hbox hg) | ((with_reducible refine gate_dst (N := 3) rfl ?_); refine box_event ?hg (N := 3) ?hd (cs := #[.bool false, .complex .f64 0 0, .int .i64 0, .int .i64 0, .int .i64 0, .slice none 0 0, .int .i64 0]) (t := 70) ?hr ?_; (case hd => rfl); (case hg => rfl); (case hr => first | (go_simp; done) | (go_simp; rfl)); intro gb146 hg w75 hbox hb; have n0_ := Aside0.mk (bB_ (g := gb144) (o := .cells #[.int .i64 a0_0, .float .f64 a0_1, .float .f64 a0_2, .int .i64 a0_3, .int .i64 a0_4, .int .i64 a0_5, .int .i64 a0_6, .int .u8 a0_7, .int .i64 a0_8, .int .i64 a0_9, .slice A0_10 l0_10.length c0_10, .slice A0_11 l0_11.length c0_11] 73 (0, 0)) (by (with_reducible repeat (first | refine bN_ ?_ _ | refine bD_ ?_ | refine bA_ ?_ _)); exact BK144.out) hb); have n1_ := Aside0.mk (bB_ (g := gb145) (o := .cells #[.bool false, .complex .f64 0 0, .int .i64 0, .int .i64 0, .int .i64 0, .slice none 0 0, .int .i64 0] 70 (0, 0)) (by (with_reducible repeat (first | refine bN_ ?_ _ | refine bD_ ?_ | refine bA_ ?_ _)); exact BK145.out) hb); have n2_ := Aside0.mk (below_step (by repeat (first | (with_reducible first | exact HB.out | apply lA_ | apply lN_ | apply l1_ | refine lS_ ?_ GE144.out | refine lS_ ?_ GE145.out) | exact HB.out)) hb); have n3_ := Aside0.mk (hbox); have n4_ := Aside0.mk ((by rw [hg]; exact (below_size (by repeat (first | (with_reducible first | exact HB.out | apply lA_ | apply lN_ | apply l1_ | refine lS_ ?_ GE144.out | refine lS_ ?_ GE145.out) | exact HB.out))) : w.heap.size ≤ gb146)); have n5_ := Aside0.mk ((by rw [hg]; exact (below_size (by repeat (first | (with_reducible first | exact HB.out | apply lA_ | apply lN_ | apply l1_ | refine lS_ ?_ GE144.out | refine lS_ ?_ GE145.out) | exact HB.out))) : w.heap.size ≤ gb146)); have n6_ := Aside0.mk ((by rw [hg]; exact Nat.ne_of_lt (blk_lt (g := gb144) (o := .cells #[.int .i64 a0_0, .float .f64 a0_1, .float .f64 a0_2, .int .i64 a0_3, .int .i64 a0_4, .int .i64 a0_5, .int .i64 a0_6, .int .u8 a0_7, .int .i64 a0_8, .int .i64 a0_9, .slice A0_10 l0_10.length c0_10, .slice A0_11 l0_11.length c0_11] 73 (0, 0)) (by (with_reducible repeat (first | refine bN_ ?_ _ | refine bD_ ?_ | refine bA_ ?_ _)); exact BK144.out)) : gb144 ≠ gb146)); have n7_ := Aside0.mk ((by rw [hg]; exact Nat.ne_of_gt (blk_lt (g := gb144) (o := .cells #[.int .i64 a0_0, .float .f64 a0_1, .float .f64 a0_2, .int .i64 a0_3, .int .i64 a0_4, .int .i64 a0_5, .int .i64 a0_6, .int .u8 a0_7, .int .i64 a0_8, .int .i64 a0_9, .slice A0_10 l0_10.length c0_10, .slice A0_11 l0_11.length c0_11] 73 (0, 0)) (by (with_reducible repeat (first | refine bN_ ?_ _ | refine bD_ ?_ | refine bA_ ?_ _)); exact BK144.out)) : gb146 ≠ gb144)); have n8_ := Aside0.mk ((by rw [hg]; exact Nat.ne_of_lt (blk_lt (g := gb145) (o := .cells #[.bool false, .complex .f64 0 0, .int .i64 0, .int .i64 0, .int .i64 0, .slice none 0 0, .int .i64 0] 70 (0, 0)) (by (with_reducible repeat (first | refine bN_ ?_ _ | refine bD_ ?_ | refine bA_ ?_ _)); exact BK145.out)) : gb145 ≠ gb146)); have n9_ := Aside0.mk ((by rw [hg]; exact Nat.ne_of_gt (blk_lt (g := gb145) (o := .cells #[.bool false, .complex .f64 0 0, .int .i64 0, .int .i64 0, .int .i64 0, .slice none 0 0, .int .i64 0] 70 (0, 0)) (by (with_reducible repeat (first | refine bN_ ?_ _ | refine bD_ ?_ | refine bA_ ?_ _)); exact BK145.out)) : gb146 ≠ gb145)); clear BK144; clear BK145; clear HB; have BK144 := n0_; have BK145 := n1_; have HB := n2_; have BK146 := n3_; have GW146 := n4_; have GE146 := n5_; have NB144_146 := n6_; have NB146_144 := n7_; have NB145_146 := n8_; have NB146_145 := n9_; clear n0_ n1_ n2_ n3_ n4_ n5_ n6_ n7_ n8_ n9_; clear hb hbox hg; have hnb76 := NB144_145.out; have hnc76 := NB145_144.out; have hnb77 := NB144_146.out; have hnc77 := NB146_144.out; have hcz78_0 : w75.cell? ⟨gb144, 0, none⟩ = some (.int .i64 a0_0) := (bC_ BK144.out 0).trans rfl; have hcz78_1 : w75.cell? ⟨gb144, 1, none⟩ = some (.float .f64 a0_1) := (bC_ BK144.out 1).trans rfl; have hcz78_2 : w75.cell? ⟨gb144, 2, none⟩ = some (.float .f64 a0_2) := (bC_ BK144.out 2).trans rfl; have hcz78_3 : w75.cell? ⟨gb144, 3, none⟩ = some (.int .i64 a0_3) := (bC_ BK144.out 3).trans rfl; have hcz78_4 : w75.cell? ⟨gb144, 4, none⟩ = some (.int .i64 a0_4) := (bC_ BK144.out 4).trans rfl; have hcz78_5 : w75.cell? ⟨gb144, 5, none⟩ = some (.int .i64 a0_5) := (bC_ BK144.out 5).trans rfl; have hcz78_6 : w75.cell? ⟨gb144, 6, none⟩ = some (.int .i64 a0_6) := (bC_ BK144.out 6).trans rfl; have hcz78_7 : w75.cell? ⟨gb144, 7, none⟩ = some (.int .u8 a0_7) := (bC_ BK144.out 7).trans rfl; have hcz78_8 : w75.cell? ⟨gb144, 8, none⟩ = some (.int .i64 a0_8) := (bC_ BK144.out 8).trans rfl; have hcz78_9 : w75.cell? ⟨gb144, 9, none⟩ = some (.int .i64 a0_9) := (bC_ BK144.out 9).trans rfl; have hcz78_10 : w75.cell? ⟨gb144, 10, none⟩ = some (.slice A0_10 l0_10.length c0_10) := (bC_ BK144.out 10).trans rfl; have hcz78_11 : w75.cell? ⟨gb144, 11, none⟩ = some (.slice A0_11 l0_11.length c0_11) := (bC_ BK144.out 11).trans rfl; have hfz78_0 := bZ_ BK144.out 0; have hfz78_1 := bZ_ BK144.out 1; have hfz78_2 := bZ_ BK144.out 2; have hfz78_3 := bZ_ BK144.out 3; have hfz78_4 := bZ_ BK144.out 4; have hfz78_5 := bZ_ BK144.out 5; have hfz78_6 := bZ_ BK144.out 6; have hfz78_7 := bZ_ BK144.out 7; have hfz78_8 := bZ_ BK144.out 8; have hfz78_9 := bZ_ BK144.out 9; have hfz78_10 := bZ_ BK144.out 10; have hfz78_11 := bZ_ BK144.out 11) | ((with_reducible refine gate_callee (f := 37) rfl ?_); refine goesL_ (some 72) rfl rfl Try.func37 (by kernel_rfl) rfl #[.slice A0_11 l0_11.length c0_11] rfl (by (try simp only [List.map_toArray, List.map_cons, List.map_nil]); first | done | rfl | (simp only [List.length_drop, List.length_take]; rfl)) ?_; (with_reducible refine (pylonlaw12_numbers.calls k _ _ l0_11 t165 _ ?side1 ?side2 A71.out).mono ?_); (case side1 => repeat (first | exact (Kd.C_below HR0_11.out HB.out) | (with_reducible refine Kd.C_alloc ?_ _) | (with_reducible refine Kd.C_drewN ?_ _) | (with_reducible refine Kd.C_drew ?_))); (case side2 => exact HC0_11.out); rintro e w79 ⟨v166, rfl, ho0, hb⟩; refine ⟨_, rfl, ?_⟩; have n0_ := Aside0.mk (Kd.R_lower ho0 (below_size (by repeat (first | (with_reducible first | exact HB.out | apply lA_ | apply lN_ | apply l1_ | refine lS_ ?_ GE144.out | refine lS_ ?_ GE145.out | refine lS_ ?_ GE146.out) | exact HB.out)))); have n1_ := Aside0.mk (bB_ (g := gb144) (o := .cells #[.int .i64 a0_0, .float .f64 a0_1, .float .f64 a0_2, .int .i64 a0_3, .int .i64 a0_4, .int .i64 a0_5, .int .i64 a0_6, .int .u8 a0_7, .int .i64 a0_8, .int .i64 a0_9, .slice A0_10 l0_10.length c0_10, .slice A0_11 l0_11.length c0_11] 73 (0, 0)) (by (with_reducible repeat (first | refine bN_ ?_ _ | refine bD_ ?_ | refine bA_ ?_ _)); exact BK144.out) hb); have n2_ := Aside0.mk (bB_ (g := gb145) (o := .cells #[.bool false, .complex .f64 0 0, .int .i64 0, .int .i64 0, .int .i64 0, .slice none 0 0, .int .i64 0] 70 (0, 0)) (by (with_reducible repeat (first | refine bN_ ?_ _ | refine bD_ ?_ | refine bA_ ?_ _)); exact BK145.out) hb); have n3_ := Aside0.mk (bB_ (g := gb146) (o := .cells #[.bool false, .complex .f64 0 0, .int .i64 0, .int .i64 0, .int .i64 0, .slice none 0 0, .int .i64 0] 70 (0, 0)) (by (with_reducible repeat (first | refine bN_ ?_ _ | refine bD_ ?_ | refine bA_ ?_ _)); exact BK146.out) hb); have n4_ := Aside0.mk (below_step (by repeat (first | (with_reducible first | exact HB.out | apply lA_ | apply lN_ | apply l1_ | refine lS_ ?_ GE144.out | refine lS_ ?_ GE145.out | refine lS_ ?_ GE146.out) | exact HB.out)) hb); clear BK144; clear BK145; clear BK146; clear HB; have HO167 := n0_; have BK144 := n1_; have BK145 := n2_; have BK146 := n3_; have HB := n4_; clear n0_ n1_ n2_ n3_ n4_; (try clear hb); (try clear hb2); (try clear hk); (try clear hi); (try clear ho0); obtain ⟨Ao80, co80, eo80⟩ := Kd.R_slice HO167.out; subst eo80) | ((with_reducible refine gate_callee (f := 39) rfl ?_); refine goesL_ (some 73) rfl rfl Try.func39 (by kernel_rfl) rfl #[.slice Ao80 t165.length co80] rfl (by (try simp only [List.map_toArray, List.map_cons, List.map_nil]); first | done | rfl | (simp only [List.length_drop, List.length_take]; rfl)) ?_; (with_reducible refine (meter_Energy.calls k _ _ t165 t168 t169 t170 _ ?side1 ?side2 A72.out).mono ?_); (case side1 => repeat (first | exact (Kd.R_reads' HO167.out).2.2 | (with_reducible refine Kd.C_alloc ?_ _) | (with_reducible refine Kd.C_drewN ?_ _) | (with_reducible refine Kd.C_drew ?_))); (case side2 => exact (Kd.R_reads' HO167.out).2.1); rintro e w81 ⟨rfl, hb⟩; refine ⟨_, rfl, ?_⟩; have n0_ := Aside0.mk (Kd.R_below (by (with_reducible repeat (first | apply Kd.R_alloc | apply Kd.R_drewN | apply Kd.R_drew)); exact HO167.out) hb); have n1_ := Aside0.mk (bB_ (g := gb144) (o := .cells #[.int .i64 a0_0, .float .f64 a0_1, .float .f64 a0_2, .int .i64 a0_3, .int .i64 a0_4, .int .i64 a0_5, .int .i64 a0_6, .int .u8 a0_7, .int .i64 a0_8, .int .i64 a0_9, .slice A0_10 l0_10.length c0_10, .slice A0_11 l0_11.length c0_11] 73 (0, 0)) (by (with_reducible repeat (first | refine bN_ ?_ _ | refine bD_ ?_ | refine bA_ ?_ _)); exact BK144.out) hb); have n2_ := Aside0.mk (bB_ (g := gb145) (o := .cells #[.bool false, .complex .f64 0 0, .int .i64 0, .int .i64 0, .int .i64 0, .slice none 0 0, .int .i64 0] 70 (0, 0)) (by (with_reducible repeat (first | refine bN_ ?_ _ | refine bD_ ?_ | refine bA_ ?_ _)); exact BK145.out) hb); have n3_ := Aside0.mk (bB_ (g := gb146) (o := .cells #[.bool false, .complex .f64 0 0, .int .i64 0, .int .i64 0, .int .i64 0, .slice none 0 0, .int .i64 0] 70 (0, 0)) (by (with_reducible repeat (first | refine bN_ ?_ _ | refine bD_ ?_ | refine bA_ ?_ _)); exact BK146.out) hb); have n4_ := Aside0.mk (below_step (by repeat (first | (with_reducible first | exact HB.out | apply lA_ | apply lN_ | apply l1_ | refine lS_ ?_ GE144.out | refine lS_ ?_ GE145.out | refine lS_ ?_ GE146.out) | exact HB.out)) hb); clear HO167; clear BK144; clear BK145; clear BK146; clear HB; have HO167 := n0_; have BK144 := n1_; have BK145 := n2_; have BK146 := n3_; have HB := n4_; clear n0_ n1_ n2_ n3_ n4_; (try clear hb); (try clear hb2); (try clear hk); (try clear hi); have hnb82 := NB146_145.out; have hnc82 := NB145_146.out; have hcz83_0 : w81.cell? ⟨gb146, 0, none⟩ = some (.bool false) := (bC_ BK146.out 0).trans rfl; have hcz83_1 : w81.cell? ⟨gb146, 1, none⟩ = some (.complex .f64 0 0) := (bC_ BK146.out 1).trans rfl; have hcz83_2 : w81.cell? ⟨gb146, 2, none⟩ = some (.int .i64 0) := (bC_ BK146.out 2).trans rfl; have hcz83_3 : w81.cell? ⟨gb146, 3, none⟩ = some (.int .i64 0) := (bC_ BK146.out 3).trans rfl; have hcz83_4 : w81.cell? ⟨gb146, 4, none⟩ = some (.int .i64 0) := (bC_ BK146.out 4).trans rfl; have hcz83_5 : w81.cell? ⟨gb146, 5, none⟩ = some (.slice none 0 0) := (bC_ BK146.out 5).trans rfl; have hcz83_6 : w81.cell? ⟨gb146, 6, none⟩ = some (.int .i64 0) := (bC_ BK146.out 6).trans rfl; have hfz83_0 := bZ_ BK146.out 0; have hfz83_1 := bZ_ BK146.out 1; have hfz83_2 := bZ_ BK146.out 2; have hfz83_3 := bZ_ BK146.out 3; have hfz83_4 := bZ_ BK146.out 4; have hfz83_5 := bZ_ BK146.out 5; have hfz83_6 := bZ_ BK146.out 6; have hcz84_0 : w81.cell? ⟨gb145, 0, none⟩ = some (.bool false) := (bC_ BK145.out 0).trans rfl; have hcz84_1 : w81.cell? ⟨gb145, 1, none⟩ = some (.complex .f64 0 0) := (bC_ BK145.out 1).trans rfl; have hcz84_2 : w81.cell? ⟨gb145, 2, none⟩ = some (.int .i64 0) := (bC_ BK145.out 2).trans rfl; have hcz84_3 : w81.cell? ⟨gb145, 3, none⟩ = some (.int .i64 0) := (bC_ BK145.out 3).trans rfl; have hcz84_4 : w81.cell? ⟨gb145, 4, none⟩ = some (.int .i64 0) := (bC_ BK145.out 4).trans rfl; have hcz84_5 : w81.cell? ⟨gb145, 5, none⟩ = some (.slice none 0 0) := (bC_ BK145.out 5).trans rfl; have hcz84_6 : w81.cell? ⟨gb145, 6, none⟩ = some (.int .i64 0) := (bC_ BK145.out 6).trans rfl; have hfz84_0 := bZ_ BK145.out 0; have hfz84_1 := bZ_ BK145.out 1; have hfz84_2 := bZ_ BK145.out 2; have hfz84_3 := bZ_ BK145.out 3; have hfz84_4 := bZ_ BK145.out 4; have hfz84_5 := bZ_ BK145.out 5; have hfz84_6 := bZ_ BK145.out 6))
       refine bodyPost_ret (results_cell_row rfl _ _ gb145 70 #[.bool false, .complex .f64 0 0, .int .i64 t168, .int .i64 t169, .int .i64 0, .slice none 0 0, .int .i64 t170] (0, 0) _ rfl (by (with_reducible repeat (first | refine bN_ ?_ _ | refine bD_ ?_ | refine bA_ ?_ _)); refine bP_ (cs := #[.bool false, .complex .f64 0 0, .int .i64 t168, .int .i64 t169, .int .i64 0, .slice none 0 0, .int .i64 0]) ?_ 6 _ rfl; (with_reducible repeat (first | refine bN_ ?_ _ | refine bD_ ?_ | refine bA_ ?_ _)); refine bP_ (cs := #[.bool false, .complex .f64 0 0, .int .i64 t168, .int .i64 t169, .int .i64 0, .slice none 0 0, .int .i64 0]) ?_ 5 _ rfl; (with_reducible repeat (first | refine bN_ ?_ _ | refine bD_ ?_ | refine bA_ ?_ _)); refine bP_ (cs := #[.bool false, .complex .f64 0 0, .int .i64 t168, .int .i64 t169, .int .i64 0, .slice none 0 0, .int .i64 0]) ?_ 4 _ rfl; (with_reducible repeat (first | refine bN_ ?_ _ | refine bD_ ?_ | refine bA_ ?_ _)); refine bP_ (cs := #[.bool false, .complex .f64 0 0, .int .i64 t168, .int .i64 0, .int .i64 0, .slice none 0 0, .int .i64 0]) ?_ 3 _ rfl; (with_reducible repeat (first | refine bN_ ?_ _ | refine bD_ ?_ | refine bA_ ?_ _)); refine bP_ (cs := #[.bool false, .complex .f64 0 0, .int .i64 0, .int .i64 0, .int .i64 0, .slice none 0 0, .int .i64 0]) ?_ 2 _ rfl; (with_reducible repeat (first | refine bN_ ?_ _ | refine bD_ ?_ | refine bA_ ?_ _)); refine bP_ (cs := #[.bool false, .complex .f64 0 0, .int .i64 0, .int .i64 0, .int .i64 0, .slice none 0 0, .int .i64 0]) ?_ 1 _ rfl; (with_reducible repeat (first | refine bN_ ?_ _ | refine bD_ ?_ | refine bA_ ?_ _)); refine bP_ (cs := #[.bool false, .complex .f64 0 0, .int .i64 0, .int .i64 0, .int .i64 0, .slice none 0 0, .int .i64 0]) ?_ 0 _ rfl; (with_reducible repeat (first | refine bN_ ?_ _ | refine bD_ ?_ | refine bA_ ?_ _)); refine bF_ ?_ NB145_146.out _; (with_reducible repeat (first | refine bN_ ?_ _ | refine bD_ ?_ | refine bA_ ?_ _)); refine bF_ ?_ NB145_146.out _; (with_reducible repeat (first | refine bN_ ?_ _ | refine bD_ ?_ | refine bA_ ?_ _)); refine bF_ ?_ NB145_146.out _; (with_reducible repeat (first | refine bN_ ?_ _ | refine bD_ ?_ | refine bA_ ?_ _)); exact BK145.out) Try.underlying70 rfl (by kernel_rfl)) rfl ?_
       exact ⟨_, by first | rfl | (simp [errW_none, errW_some] <;> rfl) | (simp [*, errW_none, errW_some] <;> rfl), by first | exact Kd.R_nil _ _ _ _ _ | exact Kd.N_nil _ _ _ _ _ | exact Kd.V_nil _ _ _ _ _ | exact Kd.Q_nil _ _ _ _ _ | exact Kd.S_nil _ _ _ _ _, by repeat (first | (with_reducible first | exact HB.out | apply lA_ | apply lN_ | apply l1_ | refine lS_ ?_ GE144.out | refine lS_ ?_ GE145.out | refine lS_ ?_ GE146.out) | exact HB.out)⟩
      ·
       rw [if_neg c70] at H
       have c70b0 : (a0_0 == 6) = false := beq_eq_false_iff_ne.mpr c70
       have c70b1 : (a0_0 != 6) = true := bne_iff_ne.mpr c70
       simp only [Option.some.injEq, Prod.mk.injEq] at H
       obtain ⟨rfl, rfl, rfl, rfl, rfl, rfl, rfl⟩ := H
       go_enter Try.func40, Try.ntmps40
       go_wp2_with (first | ((with_reducible refine gate_dst (N := 1) rfl ?_); refine box_event ?hg (N := 1) ?hd (cs := #[.int .i64 a0_0, .float .f64 a0_1, .float .f64 a0_2, .int .i64 a0_3, .int .i64 a0_4, .int .i64 a0_5, .int .i64 a0_6, .int .u8 a0_7, .int .i64 a0_8, .int .i64 a0_9, .slice A0_10 l0_10.length c0_10, .slice A0_11 l0_11.length c0_11]) (t := 73) ?hr ?_; (case hd => rfl); (case hg => rfl); (case hr => first | (go_simp; done) | (go_simp; rfl)); intro gb144 hg w85 hbox hb; have n0_ := Aside0.mk (below_step (by repeat (first | (with_reducible first | exact HB.out | apply lA_ | apply lN_ | apply l1_) | exact HB.out)) hb); have n1_ := Aside0.mk (hbox); have n2_ := Aside0.mk ((by rw [hg]; exact (below_size (by repeat (first | (with_reducible first | exact HB.out | apply lA_ | apply lN_ | apply l1_) | exact HB.out))) : w.heap.size ≤ gb144)); have n3_ := Aside0.mk ((by rw [hg]; exact (below_size (by repeat (first | (with_reducible first | exact HB.out | apply lA_ | apply lN_ | apply l1_) | exact HB.out))) : w.heap.size ≤ gb144)); clear HB; have HB := n0_; have BK144 := n1_; have GW144 := n2_; have GE144 := n3_; clear n0_ n1_ n2_ n3_; clear hb hbox hg) | ((with_reducible refine gate_dst (N := 2) rfl ?_); refine box_event ?hg (N := 2) ?hd (cs := #[.bool false, .complex .f64 0 0, .int .i64 0, .int .i64 0, .int .i64 0, .slice none 0 0, .int .i64 0]) (t := 70) ?hr ?_; (case hd => rfl); (case hg => rfl); (case hr => first | (go_simp; done) | (go_simp; rfl)); intro gb145 hg w86 hbox hb; have n0_ := Aside0.mk (bB_ (g := gb144) (o := .cells #[.int .i64 a0_0, .float .f64 a0_1, .float .f64 a0_2, .int .i64 a0_3, .int .i64 a0_4, .int .i64 a0_5, .int .i64 a0_6, .int .u8 a0_7, .int .i64 a0_8, .int .i64 a0_9, .slice A0_10 l0_10.length c0_10, .slice A0_11 l0_11.length c0_11] 73 (0, 0)) (by (with_reducible repeat (first | refine bN_ ?_ _ | refine bD_ ?_ | refine bA_ ?_ _)); exact BK144.out) hb); have n1_ := Aside0.mk (below_step (by repeat (first | (with_reducible first | exact HB.out | apply lA_ | apply lN_ | apply l1_ | refine lS_ ?_ GE144.out) | exact HB.out)) hb); have n2_ := Aside0.mk (hbox); have n3_ := Aside0.mk ((by rw [hg]; exact (below_size (by repeat (first | (with_reducible first | exact HB.out | apply lA_ | apply lN_ | apply l1_ | refine lS_ ?_ GE144.out) | exact HB.out))) : w.heap.size ≤ gb145)); have n4_ := Aside0.mk ((by rw [hg]; exact (below_size (by repeat (first | (with_reducible first | exact HB.out | apply lA_ | apply lN_ | apply l1_ | refine lS_ ?_ GE144.out) | exact HB.out))) : w.heap.size ≤ gb145)); have n5_ := Aside0.mk ((by rw [hg]; exact Nat.ne_of_lt (blk_lt (g := gb144) (o := .cells #[.int .i64 a0_0, .float .f64 a0_1, .float .f64 a0_2, .int .i64 a0_3, .int .i64 a0_4, .int .i64 a0_5, .int .i64 a0_6, .int .u8 a0_7, .int .i64 a0_8, .int .i64 a0_9, .slice A0_10 l0_10.length c0_10, .slice A0_11 l0_11.length c0_11] 73 (0, 0)) (by (with_reducible repeat (first | refine bN_ ?_ _ | refine bD_ ?_ | refine bA_ ?_ _)); exact BK144.out)) : gb144 ≠ gb145)); have n6_ := Aside0.mk ((by rw [hg]; exact Nat.ne_of_gt (blk_lt (g := gb144) (o := .cells #[.int .i64 a0_0, .float .f64 a0_1, .float .f64 a0_2, .int .i64 a0_3, .int .i64 a0_4, .int .i64 a0_5, .int .i64 a0_6, .int .u8 a0_7, .int .i64 a0_8, .int .i64 a0_9, .slice A0_10 l0_10.length c0_10, .slice A0_11 l0_11.length c0_11] 73 (0, 0)) (by (with_reducible repeat (first | refine bN_ ?_ _ | refine bD_ ?_ | refine bA_ ?_ _)); exact BK144.out)) : gb145 ≠ gb144)); clear BK144; clear HB; have BK144 := n0_; have HB := n1_; have BK145 := n2_; have GW145 := n3_; have GE145 := n4_; have NB144_145 := n5_; have NB145_144 := n6_; clear n0_ n1_ n2_ n3_ n4_ n5_ n6_; clear hb hbox hg) | ((with_reducible refine gate_dst (N := 3) rfl ?_); refine box_event ?hg (N := 3) ?hd (cs := #[.bool false, .complex .f64 0 0, .int .i64 0, .int .i64 0, .int .i64 0, .slice none 0 0, .int .i64 0]) (t := 70) ?hr ?_; (case hd => rfl); (case hg => rfl); (case hr => first | (go_simp; done) | (go_simp; rfl)); intro gb146 hg w87 hbox hb; have n0_ := Aside0.mk (bB_ (g := gb144) (o := .cells #[.int .i64 a0_0, .float .f64 a0_1, .float .f64 a0_2, .int .i64 a0_3, .int .i64 a0_4, .int .i64 a0_5, .int .i64 a0_6, .int .u8 a0_7, .int .i64 a0_8, .int .i64 a0_9, .slice A0_10 l0_10.length c0_10, .slice A0_11 l0_11.length c0_11] 73 (0, 0)) (by (with_reducible repeat (first | refine bN_ ?_ _ | refine bD_ ?_ | refine bA_ ?_ _)); exact BK144.out) hb); have n1_ := Aside0.mk (bB_ (g := gb145) (o := .cells #[.bool false, .complex .f64 0 0, .int .i64 0, .int .i64 0, .int .i64 0, .slice none 0 0, .int .i64 0] 70 (0, 0)) (by (with_reducible repeat (first | refine bN_ ?_ _ | refine bD_ ?_ | refine bA_ ?_ _)); exact BK145.out) hb); have n2_ := Aside0.mk (below_step (by repeat (first | (with_reducible first | exact HB.out | apply lA_ | apply lN_ | apply l1_ | refine lS_ ?_ GE144.out | refine lS_ ?_ GE145.out) | exact HB.out)) hb); have n3_ := Aside0.mk (hbox); have n4_ := Aside0.mk ((by rw [hg]; exact (below_size (by repeat (first | (with_reducible first | exact HB.out | apply lA_ | apply lN_ | apply l1_ | refine lS_ ?_ GE144.out | refine lS_ ?_ GE145.out) | exact HB.out))) : w.heap.size ≤ gb146)); have n5_ := Aside0.mk ((by rw [hg]; exact (below_size (by repeat (first | (with_reducible first | exact HB.out | apply lA_ | apply lN_ | apply l1_ | refine lS_ ?_ GE144.out | refine lS_ ?_ GE145.out) | exact HB.out))) : w.heap.size ≤ gb146)); have n6_ := Aside0.mk ((by rw [hg]; exact Nat.ne_of_lt (blk_lt (g := gb144) (o := .cells #[.int .i64 a0_0, .float .f64 a0_1, .float .f64 a0_2, .int .i64 a0_3, .int .i64 a0_4, .int .i64 a0_5, .int .i64 a0_6, .int .u8 a0_7, .int .i64 a0_8, .int .i64 a0_9, .slice A0_10 l0_10.length c0_10, .slice A0_11 l0_11.length c0_11] 73 (0, 0)) (by (with_reducible repeat (first | refine bN_ ?_ _ | refine bD_ ?_ | refine bA_ ?_ _)); exact BK144.out)) : gb144 ≠ gb146)); have n7_ := Aside0.mk ((by rw [hg]; exact Nat.ne_of_gt (blk_lt (g := gb144) (o := .cells #[.int .i64 a0_0, .float .f64 a0_1, .float .f64 a0_2, .int .i64 a0_3, .int .i64 a0_4, .int .i64 a0_5, .int .i64 a0_6, .int .u8 a0_7, .int .i64 a0_8, .int .i64 a0_9, .slice A0_10 l0_10.length c0_10, .slice A0_11 l0_11.length c0_11] 73 (0, 0)) (by (with_reducible repeat (first | refine bN_ ?_ _ | refine bD_ ?_ | refine bA_ ?_ _)); exact BK144.out)) : gb146 ≠ gb144)); have n8_ := Aside0.mk ((by rw [hg]; exact Nat.ne_of_lt (blk_lt (g := gb145) (o := .cells #[.bool false, .complex .f64 0 0, .int .i64 0, .int .i64 0, .int .i64 0, .slice none 0 0, .int .i64 0] 70 (0, 0)) (by (with_reducible repeat (first | refine bN_ ?_ _ | refine bD_ ?_ | refine bA_ ?_ _)); exact BK145.out)) : gb145 ≠ gb146)); have n9_ := Aside0.mk ((by rw [hg]; exact Nat.ne_of_gt (blk_lt (g := gb145) (o := .cells #[.bool false, .complex .f64 0 0, .int .i64 0, .int .i64 0, .int .i64 0, .slice none 0 0, .int .i64 0] 70 (0, 0)) (by (with_reducible repeat (first | refine bN_ ?_ _ | refine bD_ ?_ | refine bA_ ?_ _)); exact BK145.out)) : gb146 ≠ gb145)); clear BK144; clear BK145; clear HB; have BK144 := n0_; have BK145 := n1_; have HB := n2_; have BK146 := n3_; have GW146 := n4_; have GE146 := n5_; have NB144_146 := n6_; have NB146_144 := n7_; have NB145_146 := n8_; have NB146_145 := n9_; clear n0_ n1_ n2_ n3_ n4_ n5_ n6_ n7_ n8_ n9_; clear hb hbox hg; have hnb88 := NB144_145.out; have hnc88 := NB145_144.out; have hnb89 := NB144_146.out; have hnc89 := NB146_144.out; have hcz90_0 : w87.cell? ⟨gb144, 0, none⟩ = some (.int .i64 a0_0) := (bC_ BK144.out 0).trans rfl; have hcz90_1 : w87.cell? ⟨gb144, 1, none⟩ = some (.float .f64 a0_1) := (bC_ BK144.out 1).trans rfl; have hcz90_2 : w87.cell? ⟨gb144, 2, none⟩ = some (.float .f64 a0_2) := (bC_ BK144.out 2).trans rfl; have hcz90_3 : w87.cell? ⟨gb144, 3, none⟩ = some (.int .i64 a0_3) := (bC_ BK144.out 3).trans rfl; have hcz90_4 : w87.cell? ⟨gb144, 4, none⟩ = some (.int .i64 a0_4) := (bC_ BK144.out 4).trans rfl; have hcz90_5 : w87.cell? ⟨gb144, 5, none⟩ = some (.int .i64 a0_5) := (bC_ BK144.out 5).trans rfl; have hcz90_6 : w87.cell? ⟨gb144, 6, none⟩ = some (.int .i64 a0_6) := (bC_ BK144.out 6).trans rfl; have hcz90_7 : w87.cell? ⟨gb144, 7, none⟩ = some (.int .u8 a0_7) := (bC_ BK144.out 7).trans rfl; have hcz90_8 : w87.cell? ⟨gb144, 8, none⟩ = some (.int .i64 a0_8) := (bC_ BK144.out 8).trans rfl; have hcz90_9 : w87.cell? ⟨gb144, 9, none⟩ = some (.int .i64 a0_9) := (bC_ BK144.out 9).trans rfl; have hcz90_10 : w87.cell? ⟨gb144, 10, none⟩ = some (.slice A0_10 l0_10.length c0_10) := (bC_ BK144.out 10).trans rfl; have hcz90_11 : w87.cell? ⟨gb144, 11, none⟩ = some (.slice A0_11 l0_11.length c0_11) := (bC_ BK144.out 11).trans rfl; have hfz90_0 := bZ_ BK144.out 0; have hfz90_1 := bZ_ BK144.out 1; have hfz90_2 := bZ_ BK144.out 2; have hfz90_3 := bZ_ BK144.out 3; have hfz90_4 := bZ_ BK144.out 4; have hfz90_5 := bZ_ BK144.out 5; have hfz90_6 := bZ_ BK144.out 6; have hfz90_7 := bZ_ BK144.out 7; have hfz90_8 := bZ_ BK144.out 8; have hfz90_9 := bZ_ BK144.out 9; have hfz90_10 := bZ_ BK144.out 10; have hfz90_11 := bZ_ BK144.out 11; have hnb91 := NB146_145.out; have hnc91 := NB145_146.out; have hcz92_0 : w87.cell? ⟨gb146, 0, none⟩ = some (.bool false) := (bC_ BK146.out 0).trans rfl; have hcz92_1 : w87.cell? ⟨gb146, 1, none⟩ = some (.complex .f64 0 0) := (bC_ BK146.out 1).trans rfl; have hcz92_2 : w87.cell? ⟨gb146, 2, none⟩ = some (.int .i64 0) := (bC_ BK146.out 2).trans rfl; have hcz92_3 : w87.cell? ⟨gb146, 3, none⟩ = some (.int .i64 0) := (bC_ BK146.out 3).trans rfl; have hcz92_4 : w87.cell? ⟨gb146, 4, none⟩ = some (.int .i64 0) := (bC_ BK146.out 4).trans rfl; have hcz92_5 : w87.cell? ⟨gb146, 5, none⟩ = some (.slice none 0 0) := (bC_ BK146.out 5).trans rfl; have hcz92_6 : w87.cell? ⟨gb146, 6, none⟩ = some (.int .i64 0) := (bC_ BK146.out 6).trans rfl; have hfz92_0 := bZ_ BK146.out 0; have hfz92_1 := bZ_ BK146.out 1; have hfz92_2 := bZ_ BK146.out 2; have hfz92_3 := bZ_ BK146.out 3; have hfz92_4 := bZ_ BK146.out 4; have hfz92_5 := bZ_ BK146.out 5; have hfz92_6 := bZ_ BK146.out 6; have hcz93_0 : w87.cell? ⟨gb145, 0, none⟩ = some (.bool false) := (bC_ BK145.out 0).trans rfl; have hcz93_1 : w87.cell? ⟨gb145, 1, none⟩ = some (.complex .f64 0 0) := (bC_ BK145.out 1).trans rfl; have hcz93_2 : w87.cell? ⟨gb145, 2, none⟩ = some (.int .i64 0) := (bC_ BK145.out 2).trans rfl; have hcz93_3 : w87.cell? ⟨gb145, 3, none⟩ = some (.int .i64 0) := (bC_ BK145.out 3).trans rfl; have hcz93_4 : w87.cell? ⟨gb145, 4, none⟩ = some (.int .i64 0) := (bC_ BK145.out 4).trans rfl; have hcz93_5 : w87.cell? ⟨gb145, 5, none⟩ = some (.slice none 0 0) := (bC_ BK145.out 5).trans rfl; have hcz93_6 : w87.cell? ⟨gb145, 6, none⟩ = some (.int .i64 0) := (bC_ BK145.out 6).trans rfl; have hfz93_0 := bZ_ BK145.out 0; have hfz93_1 := bZ_ BK145.out 1; have hfz93_2 := bZ_ BK145.out 2; have hfz93_3 := bZ_ BK145.out 3; have hfz93_4 := bZ_ BK145.out 4; have hfz93_5 := bZ_ BK145.out 5; have hfz93_6 := bZ_ BK145.out 6))
       refine bodyPost_ret (results_cell_row rfl _ _ gb145 70 #[.bool false, .complex .f64 0 0, .int .i64 0, .int .i64 0, .int .i64 0, .slice none 0 0, .int .i64 0] (0, 0) _ rfl (by (with_reducible repeat (first | refine bN_ ?_ _ | refine bD_ ?_ | refine bA_ ?_ _)); refine bP_ (cs := #[.bool false, .complex .f64 0 0, .int .i64 0, .int .i64 0, .int .i64 0, .slice none 0 0, .int .i64 0]) ?_ 6 _ rfl; (with_reducible repeat (first | refine bN_ ?_ _ | refine bD_ ?_ | refine bA_ ?_ _)); refine bP_ (cs := #[.bool false, .complex .f64 0 0, .int .i64 0, .int .i64 0, .int .i64 0, .slice none 0 0, .int .i64 0]) ?_ 5 _ rfl; (with_reducible repeat (first | refine bN_ ?_ _ | refine bD_ ?_ | refine bA_ ?_ _)); refine bP_ (cs := #[.bool false, .complex .f64 0 0, .int .i64 0, .int .i64 0, .int .i64 0, .slice none 0 0, .int .i64 0]) ?_ 4 _ rfl; (with_reducible repeat (first | refine bN_ ?_ _ | refine bD_ ?_ | refine bA_ ?_ _)); refine bP_ (cs := #[.bool false, .complex .f64 0 0, .int .i64 0, .int .i64 0, .int .i64 0, .slice none 0 0, .int .i64 0]) ?_ 3 _ rfl; (with_reducible repeat (first | refine bN_ ?_ _ | refine bD_ ?_ | refine bA_ ?_ _)); refine bP_ (cs := #[.bool false, .complex .f64 0 0, .int .i64 0, .int .i64 0, .int .i64 0, .slice none 0 0, .int .i64 0]) ?_ 2 _ rfl; (with_reducible repeat (first | refine bN_ ?_ _ | refine bD_ ?_ | refine bA_ ?_ _)); refine bP_ (cs := #[.bool false, .complex .f64 0 0, .int .i64 0, .int .i64 0, .int .i64 0, .slice none 0 0, .int .i64 0]) ?_ 1 _ rfl; (with_reducible repeat (first | refine bN_ ?_ _ | refine bD_ ?_ | refine bA_ ?_ _)); refine bP_ (cs := #[.bool false, .complex .f64 0 0, .int .i64 0, .int .i64 0, .int .i64 0, .slice none 0 0, .int .i64 0]) ?_ 0 _ rfl; (with_reducible repeat (first | refine bN_ ?_ _ | refine bD_ ?_ | refine bA_ ?_ _)); exact BK145.out) Try.underlying70 rfl (by kernel_rfl)) rfl ?_
       exact ⟨_, by first | rfl | (simp [errW_none, errW_some] <;> rfl) | (simp [*, errW_none, errW_some] <;> rfl), by first | exact Kd.R_nil _ _ _ _ _ | exact Kd.N_nil _ _ _ _ _ | exact Kd.V_nil _ _ _ _ _ | exact Kd.Q_nil _ _ _ _ _ | exact Kd.S_nil _ _ _ _ _, by repeat (first | (with_reducible first | exact HB.out | apply lA_ | apply lN_ | apply l1_ | refine lS_ ?_ GE144.out | refine lS_ ?_ GE145.out | refine lS_ ?_ GE146.out) | exact HB.out)⟩

/-! ### pylonref02_Made: function 80 -/
def pylonref02_Made.f (a0_0 : Int) (a0_1 : Int) : Option (Cx) := some (cx (floatOfInt .f64 a0_0) (floatOfInt .f64 a0_1))
set_option maxHeartbeats 8000000 in
set_option maxRecDepth 100000 in
theorem pylonref02_Made.calls (a0_0 : Int) (a0_1 : Int) (r : Cx) (w : World) (h : pylonref02_Made.f a0_0 a0_1 = some r) :
  Calls Try.prog 80 #[.agg #[.int .i64 a0_0, .int .i64 a0_1]] w fun e w' => e = .returned (.complex .f64 r.re r.im) ∧ Below w.heap.size w w' := by
 have hu111 := Try.underlying111
 have HB := Aside0.mk (Below.refl w.heap.size w)
 have H : (some (cx (floatOfInt .f64 a0_0) (floatOfInt .f64 a0_1))) = some r := h
 clear h
 obtain rfl := Option.some.inj H
 go_enter Try.func80, Try.ntmps80
 go_wp2_with (first | ((with_reducible refine gate_dst (N := 1) rfl ?_); refine box_event ?hg (N := 1) ?hd (cs := #[.int .i64 a0_0, .int .i64 a0_1]) (t := 111) ?hr ?_; (case hd => rfl); (case hg => rfl); (case hr => first | (go_simp; done) | (go_simp; rfl)); intro gb171 hg w2 hbox hb; have n0_ := Aside0.mk (below_step (by repeat (first | (with_reducible first | exact HB.out | apply lA_ | apply lN_ | apply l1_) | exact HB.out)) hb); have n1_ := Aside0.mk (hbox); have n2_ := Aside0.mk ((by rw [hg]; exact (below_size (by repeat (first | (with_reducible first | exact HB.out | apply lA_ | apply lN_ | apply l1_) | exact HB.out))) : w.heap.size ≤ gb171)); have n3_ := Aside0.mk ((by rw [hg]; exact (below_size (by repeat (first | (with_reducible first | exact HB.out | apply lA_ | apply lN_ | apply l1_) | exact HB.out))) : w.heap.size ≤ gb171)); clear HB; have HB := n0_; have BK171 := n1_; have GW171 := n2_; have GE171 := n3_; clear n0_ n1_ n2_ n3_; clear hb hbox hg; have hcz3_0 : w2.cell? ⟨gb171, 0, none⟩ = some (.int .i64 a0_0) := (bC_ BK171.out 0).trans rfl; have hcz3_1 : w2.cell? ⟨gb171, 1, none⟩ = some (.int .i64 a0_1) := (bC_ BK171.out 1).trans rfl; have hfz3_0 := bZ_ BK171.out 0; have hfz3_1 := bZ_ BK171.out 1))
 go_ret
 exact ⟨by first | rfl | (simp [errW_none, errW_some] <;> rfl) | (simp [*, errW_none, errW_some] <;> rfl), by repeat (first | (with_reducible first | exact HB.out | apply lA_ | apply lN_ | apply l1_ | refine lS_ ?_ GE171.out) | exact HB.out)⟩

/-! ### pylonref12_turned: function 85 -/
def pylonref12_turned.l0 : Nat → Int → Int → Int → Int → Option (Int × Int)
 | 0, _, _, _, _ => none
 | k + 1, x5, x6, x173000, x173001 => if x6 < x5 then (pylonref12_turned.l0 k x5 (wrap64 (x6 + 1)) (wrap64 (-x173001)) x173000) else (some (x173000, x173001))
def pylonref12_turned.f (k : Nat) (a0_0 : Int) (a0_1 : Int) (a1 : Int) : Option (Int × Int) := pylonref12_turned.l0 k a1 0 a0_0 a0_1
theorem pylonref12_turned.mono_l : ∀ k, (∀ y0 y1 y2 y3, LeO (pylonref12_turned.l0 k y0 y1 y2 y3) (pylonref12_turned.l0 (k + 1) y0 y1 y2 y3))
 | 0 => fun _ _ _ _ r h => by simp [pylonref12_turned.l0] at h
 | k + 1 => by
  have ih0 := pylonref12_turned.mono_l k
  ·
   intro y0 y1 y2 y3
   unfold pylonref12_turned.l0
   repeat' first
   | (with_reducible exact ih0 _ _ _ _)
   | (with_reducible exact LeO.refl _)
   | (with_reducible exact LeO.none _)
   | (with_reducible refine LeO.ite ?_ ?_)
   | (with_reducible refine LeO.bind ?_ (fun _ => ?_))
   | exact ih0 _ _ _ _
   | exact LeO.none _
   | refine LeO.ite ?_ ?_
   | refine LeO.bind ?_ (fun _ => ?_)
theorem pylonref12_turned.mono : ∀ a0 a1 a2 k, LeO (pylonref12_turned.f k a0 a1 a2) (pylonref12_turned.f (k + 1) a0 a1 a2) := by
 intro a0 a1 a2 k
 have ih0 := pylonref12_turned.mono_l k
 unfold pylonref12_turned.f
 repeat' first
   | (with_reducible exact ih0 _ _ _ _)
   | (with_reducible exact LeO.refl _)
   | (with_reducible exact LeO.none _)
   | (with_reducible refine LeO.ite ?_ ?_)
   | (with_reducible refine LeO.bind ?_ (fun _ => ?_))
   | exact ih0 _ _ _ _
   | exact LeO.none _
   | refine LeO.ite ?_ ?_
   | refine LeO.bind ?_ (fun _ => ?_)
set_option maxHeartbeats 8000000 in
set_option maxRecDepth 100000 in
theorem pylonref12_turned.calls (k : Nat) (a0_0 : Int) (a0_1 : Int) (a1 : Int) (r1 : Int) (r2 : Int) (w : World) (h : pylonref12_turned.f k a0_0 a0_1 a1 = some (r1, r2)) :
  Calls Try.prog 85 #[.agg #[.int .i64 a0_0, .int .i64 a0_1], .int .i64 a1] w fun e w' => e = .returned (.agg #[.int .i64 r1, .int .i64 r2]) ∧ Below w.heap.size w w' := by
 have hu111 := Try.underlying111
 have HB := Aside0.mk (Below.refl w.heap.size w)
 have H : (pylonref12_turned.l0 k a1 0 a0_0 a0_1) = some (r1, r2) := h
 clear h
 have H' := Aside0.mk H
 clear H
 go_enter Try.func85, Try.ntmps85
 go_wp2_with (first | ((with_reducible refine gate_dst (N := 2) rfl ?_); refine box_event ?hg (N := 2) ?hd (cs := #[.int .i64 a0_0, .int .i64 a0_1]) (t := 111) ?hr ?_; (case hd => rfl); (case hg => rfl); (case hr => first | (go_simp; done) | (go_simp; rfl)); intro gb172 hg w3 hbox hb; have n0_ := Aside0.mk (below_step (by repeat (first | (with_reducible first | exact HB.out | apply lA_ | apply lN_ | apply l1_) | exact HB.out)) hb); have n1_ := Aside0.mk (hbox); have n2_ := Aside0.mk ((by rw [hg]; exact (below_size (by repeat (first | (with_reducible first | exact HB.out | apply lA_ | apply lN_ | apply l1_) | exact HB.out))) : w.heap.size ≤ gb172)); have n3_ := Aside0.mk ((by rw [hg]; exact (below_size (by repeat (first | (with_reducible first | exact HB.out | apply lA_ | apply lN_ | apply l1_) | exact HB.out))) : w.heap.size ≤ gb172)); clear HB; have HB := n0_; have BK172 := n1_; have GW172 := n2_; have GE172 := n3_; clear n0_ n1_ n2_ n3_; clear hb hbox hg) | ((with_reducible refine gate_dst (N := 4) rfl ?_); refine box_event ?hg (N := 4) ?hd (cs := #[.int .i64 0, .int .i64 0]) (t := 111) ?hr ?_; (case hd => rfl); (case hg => rfl); (case hr => first | (go_simp; done) | (go_simp; rfl)); intro gb173 hg w4 hbox hb; have n0_ := Aside0.mk (bB_ (g := gb172) (o := .cells #[.int .i64 a0_0, .int .i64 a0_1] 111 (0, 0)) (by (with_reducible repeat (first | refine bN_ ?_ _ | refine bD_ ?_ | refine bA_ ?_ _)); exact BK172.out) hb); have n1_ := Aside0.mk (below_step (by repeat (first | (with_reducible first | exact HB.out | apply lA_ | apply lN_ | apply l1_ | refine lS_ ?_ GE172.out) | exact HB.out)) hb); have n2_ := Aside0.mk (hbox); have n3_ := Aside0.mk ((by rw [hg]; exact (below_size (by repeat (first | (with_reducible first | exact HB.out | apply lA_ | apply lN_ | apply l1_ | refine lS_ ?_ GE172.out) | exact HB.out))) : w.heap.size ≤ gb173)); have n4_ := Aside0.mk ((by rw [hg]; exact (below_size (by repeat (first | (with_reducible first | exact HB.out | apply lA_ | apply lN_ | apply l1_ | refine lS_ ?_ GE172.out) | exact HB.out))) : w.heap.size ≤ gb173)); have n5_ := Aside0.mk ((by rw [hg]; exact Nat.ne_of_lt (blk_lt (g := gb172) (o := .cells #[.int .i64 a0_0, .int .i64 a0_1] 111 (0, 0)) (by (with_reducible repeat (first | refine bN_ ?_ _ | refine bD_ ?_ | refine bA_ ?_ _)); exact BK172.out)) : gb172 ≠ gb173)); have n6_ := Aside0.mk ((by rw [hg]; exact Nat.ne_of_gt (blk_lt (g := gb172) (o := .cells #[.int .i64 a0_0, .int .i64 a0_1] 111 (0, 0)) (by (with_reducible repeat (first | refine bN_ ?_ _ | refine bD_ ?_ | refine bA_ ?_ _)); exact BK172.out)) : gb173 ≠ gb172)); clear BK172; clear HB; have BK172 := n0_; have HB := n1_; have BK173 := n2_; have GW173 := n3_; have GE173 := n4_; have NB172_173 := n5_; have NB173_172 := n6_; clear n0_ n1_ n2_ n3_ n4_ n5_ n6_; clear hb hbox hg))
 go_loopg [6] k (fun kq v6 w' => ∃ (x6_1 : Int) (x173000_1 : Int) (x173001_1 : Int), v6 = .int .i64 x6_1 ∧ Aside0 (pylonref12_turned.l0 kq a1 x6_1 x173000_1 x173001_1 = some (r1, r2)) ∧ Aside0 (kq ≤ k) ∧ Aside0 (w'.heap[gb172]? = some (.cells #[.int .i64 x173000_1, .int .i64 x173001_1] 111 (0, 0))) ∧ Aside0 (w'.heap[gb173]? = some (.cells #[.int .i64 0, .int .i64 0] 111 (0, 0))) ∧ Aside0 (Below w.heap.size w w'))
 case atStart => exact ⟨(0), (a0_0), (a0_1), (by first | rfl | (simp; done) | (simp [*]; done)), H', ⟨Nat.le_refl _⟩, ⟨by (with_reducible repeat (first | refine bN_ ?_ _ | refine bD_ ?_ | refine bA_ ?_ _)); exact BK172.out⟩, ⟨by (with_reducible repeat (first | refine bN_ ?_ _ | refine bD_ ?_ | refine bA_ ?_ _)); exact BK173.out⟩, ⟨by repeat (first | (with_reducible first | exact HB.out | apply lA_ | apply lN_ | apply l1_ | refine lS_ ?_ GE172.out | refine lS_ ?_ GE173.out) | exact HB.out)⟩⟩
 case round =>
  clear H'
  try clear p2
  obtain ⟨x6_1, x173000_1, x173001_1, rfl, HA, HK1, BK172, BK173, HB⟩ := hrel
  cases gk with
  | zero => exact absurd HA.out (by simp [pylonref12_turned.l0])
  | succ k1 =>
   have H := HA.out
   clear HA
   simp only [pylonref12_turned.l0] at H
   by_cases c5 : x6_1 < a1
   ·
    rw [if_pos c5] at H
    have c5b0 : decide (x6_1 < a1) = true := decide_eq_true c5
    clear c5
    have H' := Aside0.mk H
    clear H
    have hnb6 := NB172_173.out
    have hnc6 := NB173_172.out
    have hcz7_0 : wr.cell? ⟨gb172, 0, none⟩ = some (.int .i64 x173000_1) := (bC_ BK172.out 0).trans rfl
    have hcz7_1 : wr.cell? ⟨gb172, 1, none⟩ = some (.int .i64 x173001_1) := (bC_ BK172.out 1).trans rfl
    have hfz7_0 := bZ_ BK172.out 0
    have hfz7_1 := bZ_ BK172.out 1
    go_wp2
    go_roundg k1
    case measure => have := HK1.out; omega
    case rel => exact ⟨(wrap64 (x6_1 + 1)), (wrap64 (-x173001_1)), (x173000_1), (by first | rfl | (simp; done) | (simp [*]; done)), H', ⟨by have := HK1.out; omega⟩, ⟨by (with_reducible repeat (first | refine bN_ ?_ _ | refine bD_ ?_ | refine bA_ ?_ _)); refine bP_ (cs := #[.int .i64 (wrap64 (-x173001_1)), .int .i64 x173001_1]) ?_ 1 _ rfl; (with_reducible repeat (first | refine bN_ ?_ _ | refine bD_ ?_ | refine bA_ ?_ _)); refine bP_ (cs := #[.int .i64 x173000_1, .int .i64 x173001_1]) ?_ 0 _ rfl; (with_reducible repeat (first | refine bN_ ?_ _ | refine bD_ ?_ | refine bA_ ?_ _)); exact BK172.out⟩, ⟨by (with_reducible repeat (first | refine bN_ ?_ _ | refine bD_ ?_ | refine bA_ ?_ _)); refine bF_ ?_ NB173_172.out _; (with_reducible repeat (first | refine bN_ ?_ _ | refine bD_ ?_ | refine bA_ ?_ _)); refine bF_ ?_ NB173_172.out _; (with_reducible repeat (first | refine bN_ ?_ _ | refine bD_ ?_ | refine bA_ ?_ _)); exact BK173.out⟩, ⟨by repeat (first | (with_reducible first | exact HB.out | apply lA_ | apply lN_ | apply l1_ | refine lS_ ?_ GE172.out | refine lS_ ?_ GE173.out) | exact HB.out)⟩⟩
   ·
    rw [if_neg c5] at H
    have c5b0 : decide (x6_1 < a1) = false := decide_eq_false c5
    clear c5
    simp only [Option.some.injEq, Prod.mk.injEq] at H
    obtain ⟨rfl, rfl⟩ := H
    have hnb8 := NB172_173.out
    have hnc8 := NB173_172.out
    have hcz9_0 : wr.cell? ⟨gb172, 0, none⟩ = some (.int .i64 x173000_1) := (bC_ BK172.out 0).trans rfl
    have hcz9_1 : wr.cell? ⟨gb172, 1, none⟩ = some (.int .i64 x173001_1) := (bC_ BK172.out 1).trans rfl
    have hfz9_0 := bZ_ BK172.out 0
    have hfz9_1 := bZ_ BK172.out 1
    have hcz10_0 : wr.cell? ⟨gb173, 0, none⟩ = some (.int .i64 0) := (bC_ BK173.out 0).trans rfl
    have hcz10_1 : wr.cell? ⟨gb173, 1, none⟩ = some (.int .i64 0) := (bC_ BK173.out 1).trans rfl
    have hfz10_0 := bZ_ BK173.out 0
    have hfz10_1 := bZ_ BK173.out 1
    go_wp2
    refine bodyPost_ret (results_cell_row rfl _ _ gb173 111 #[.int .i64 x173000_1, .int .i64 x173001_1] (0, 0) _ rfl (by (with_reducible repeat (first | refine bN_ ?_ _ | refine bD_ ?_ | refine bA_ ?_ _)); refine bP_ (cs := #[.int .i64 x173000_1, .int .i64 0]) ?_ 1 _ rfl; (with_reducible repeat (first | refine bN_ ?_ _ | refine bD_ ?_ | refine bA_ ?_ _)); refine bP_ (cs := #[.int .i64 0, .int .i64 0]) ?_ 0 _ rfl; (with_reducible repeat (first | refine bN_ ?_ _ | refine bD_ ?_ | refine bA_ ?_ _)); exact BK173.out) Try.underlying111 rfl (by kernel_rfl)) rfl ?_
    exact ⟨by first | rfl | (simp [errW_none, errW_some] <;> rfl) | (simp [*, errW_none, errW_some] <;> rfl), by repeat (first | (with_reducible first | exact HB.out | apply lA_ | apply lN_ | apply l1_ | refine lS_ ?_ GE172.out | refine lS_ ?_ GE173.out) | exact HB.out)⟩

end Go.Proofs.Ytapimggcnneabaa.PMA
