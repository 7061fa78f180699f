-- Written by a program of this session for this claim (wip/print2.sh). Lean checks it.
import Derived.Test.YthejabcfbbmkeaaPBx0
import Derived.Test.YthejabcfbbmkeaaPBx4
namespace Go.Proofs.Ythejabcfbbmkeaa.PB
open Go.Proofs.YthejabcfbbmkeaaW.PrintWords
attribute [local go_sem high] fx_eql fx_neq fx_lss fx_leq fx_gtr fx_geq fx_add fx_sub fx_mul fx_neg fx_toint cxx_add cxx_sub cxx_mul cxx_eql cxx_neq cxx_pick st_float st_complex
open Go.RowKit Go.Proofs.YthejabcfbbmkeaaW.PrintWords Go.Proofs.YthejabcfbbmkeaaW.PrintLast Go.Proofs.YthejabcfbbmkeaaW.PrintMore
attribute [local go_sem] max2_int min2_int max_two min_two max_three min_three max_four min_four   -- for this text's walks alone
set_option linter.unusedVariables false
set_option linter.unusedSimpArgs false

/-! ### pylonlaw17_awake: function 9 -/
def pylonlaw17_awake.f (k : Nat)  : Option (Bool) := (block_Price.f k (([(⟨100, 200⟩ : S35), (⟨0, 300⟩ : S35)] : List (S35))) 150).bind fun bt136 => (if bt136.1 = 35 then (some (bt136.2 == 0)) else (some false))
theorem pylonlaw17_awake.mono : ∀ k, LeO (pylonlaw17_awake.f k ) (pylonlaw17_awake.f (k + 1) ) := by
  intro  k
  unfold pylonlaw17_awake.f
  repeat' first
      | (with_reducible exact block_Price.mono _ _ _)
      | (with_reducible exact LeO.refl _)
      | (with_reducible exact LeO.none _)
      | (with_reducible refine LeO.ite ?_ ?_)
      | (with_reducible refine LeO.bind ?_ (fun _ => ?_))
      | exact block_Price.mono _ _ _
      | exact LeO.none _
      | refine LeO.ite ?_ ?_
      | refine LeO.bind ?_ (fun _ => ?_)
set_option maxHeartbeats 8000000 in
set_option maxRecDepth 100000 in
theorem pylonlaw17_awake.calls (k : Nat)  (r : Bool) (w : World) (h : pylonlaw17_awake.f k  = some r) :
    Calls Try.prog 9 #[] w fun e w' => e = .returned (.bool r) ∧ Below w.heap.size w w' := by
  have hu35 := Try.underlying35
  have HB := Aside0.mk (Below.refl w.heap.size w)
  have H : ((block_Price.f k (([(⟨100, 200⟩ : S35), (⟨0, 300⟩ : S35)] : List (S35))) 150).bind fun bt136 => (if bt136.1 = 35 then (some (bt136.2 == 0)) else (some false))) = some r := h
  clear h
  obtain ⟨y133, hy133⟩ : ∃ y_ : List (S35), y_ = (([(⟨100, 200⟩ : S35), (⟨0, 300⟩ : S35)] : List (S35))) := ⟨_, rfl⟩
  replace H : ((block_Price.f k y133 150).bind fun bt136 => (if bt136.1 = 35 then (some (bt136.2 == 0)) else (some false))) = some r := by first | (rw [hy133]; with_reducible exact H) | (have H2_ := (Option.bind_some _ _).symm.trans H; rw [hy133]; with_reducible exact H2_) | (have H2_ := (Option.bind_some _ _).symm.trans H; with_reducible exact H2_) | with_reducible exact H | (rw [hy133]; exact H) | exact H
  have Ny133 := Aside0.mk hy133
  clear hy133
  replace H := Option.bind_eq_some_iff.mp H
  obtain ⟨⟨t136, t137⟩, A10, H⟩ := H
  replace H : (if t136 = 35 then (some (t137 == 0)) else (some false)) = some r := H
  have A1 := Aside0.mk A10
  clear A10
  by_cases c2 : t136 = 35
  · rw [if_pos c2] at H
    have c2b0 : (t136 == 35) = true := beq_iff_eq.mpr c2
    have c2b1 : (t136 != 35) = false := bne_eq_false_iff_eq.mpr c2
    clear c2
    obtain rfl := Option.some.inj H
    go_enter Try.func9, Try.ntmps9
    go_wp2_with (first | ((with_reducible refine gate_dst (N := 6) rfl ?_); refine Kd.R_lit k35 _ 35 ?hg (N := 6) ?hd (xs := ([(⟨100, 200⟩ : S35), (⟨0, 300⟩ : S35)] : List (S35))) (inner := [.int .i64 100, .int .i64 200, .int .i64 0, .int .i64 300]) (ok := fun _ => True) (okp := fun _ => True) ?hr ?hp (fun _ hk => hk) trivial (Below.refl _ _) (Nat.le_refl _) (by simp) ?_; (case hd => rfl); (case hg => rfl); (case hr => first | (go_simp; done) | (go_simp; rfl)); (case hp => exact (Reps.c2 (show Kd.M k35 _ _ _ (⟨100, 200⟩ : S35) [.int .i64 100, .int .i64 200] from (k35_mkM _ _ _ (⟨100, 200⟩ : S35) )) (Reps.c2 (show Kd.M k35 _ _ _ (⟨0, 300⟩ : S35) [.int .i64 0, .int .i64 300] from (k35_mkM _ _ _ (⟨0, 300⟩ : S35) )) (Reps.none _ _)))); intro v134 w3 ho4 hb hg_ hnew_; clear hg_ hnew_; (first | rw [← Ny133.out] at ho4 | (simp only [Int.reduceToNat] at ho4; rw [← Ny133.out] at ho4)); have n0_ := Aside0.mk (Kd.R_lower ho4 (below_size (by repeat (first | (with_reducible first | exact HB.out | apply below_alloc | apply pw_below_drewN | apply below_drew1) | exact HB.out)))); have n1_ := Aside0.mk (below_step (by repeat (first | (with_reducible first | exact HB.out | apply below_alloc | apply pw_below_drewN | apply below_drew1) | exact HB.out)) hb); clear HB; have HO135 := n0_; have HB := n1_; clear n0_ n1_; clear hb ho4; obtain ⟨Ao5, co5, eo5⟩ := Kd.R_slice HO135.out; subst eo5) | ((with_reducible refine gate_callee (f := 13) rfl ?_); refine goesL_ (some 7) rfl rfl Try.func13 (by kernel_rfl) rfl #[.slice Ao5 y133.length co5, .int .i64 150] rfl (by (try simp only [List.map_toArray, List.map_cons, List.map_nil]); first | done | rfl | (simp only [List.length_drop, List.length_take]; rfl)) ?_; (with_reducible refine (block_Price.calls k _ _ y133 150 t136 t137 _ ?side1 ?side2 A1.out).mono ?_); (case side1 => repeat (first | exact (Kd.R_reads' HO135.out).2.2 | (with_reducible refine Kd.C_alloc ?_ _) | (with_reducible refine Kd.C_drewN ?_ _) | (with_reducible refine Kd.C_drew ?_))); (case side2 => exact (Kd.R_reads' HO135.out).2.1); rintro e w6 ⟨rfl, hb⟩; refine ⟨_, rfl, ?_⟩; have n0_ := Aside0.mk (Kd.R_below (by (with_reducible repeat (first | apply Kd.R_alloc | apply Kd.R_drewN | apply Kd.R_drew)); exact HO135.out) hb); have n1_ := Aside0.mk (below_step (by repeat (first | (with_reducible first | exact HB.out | apply below_alloc | apply pw_below_drewN | apply below_drew1) | exact HB.out)) hb); clear HO135; clear HB; have HO135 := n0_; have HB := n1_; clear n0_ n1_; (try clear hb); (try clear hb2); (try clear hk); (try clear hi)))
    go_ret
    exact ⟨by first | rfl | (simp [errW_none, errW_some] <;> rfl) | (simp [*, errW_none, errW_some] <;> rfl), by repeat (first | (with_reducible first | exact HB.out | apply below_alloc | apply pw_below_drewN | apply below_drew1) | exact HB.out)⟩
  · rw [if_neg c2] at H
    have c2b0 : (t136 == 35) = false := beq_eq_false_iff_ne.mpr c2
    have c2b1 : (t136 != 35) = true := bne_iff_ne.mpr c2
    obtain rfl := Option.some.inj H
    go_enter Try.func9, Try.ntmps9
    go_wp2_with (first | ((with_reducible refine gate_dst (N := 6) rfl ?_); refine Kd.R_lit k35 _ 35 ?hg (N := 6) ?hd (xs := ([(⟨100, 200⟩ : S35), (⟨0, 300⟩ : S35)] : List (S35))) (inner := [.int .i64 100, .int .i64 200, .int .i64 0, .int .i64 300]) (ok := fun _ => True) (okp := fun _ => True) ?hr ?hp (fun _ hk => hk) trivial (Below.refl _ _) (Nat.le_refl _) (by simp) ?_; (case hd => rfl); (case hg => rfl); (case hr => first | (go_simp; done) | (go_simp; rfl)); (case hp => exact (Reps.c2 (show Kd.M k35 _ _ _ (⟨100, 200⟩ : S35) [.int .i64 100, .int .i64 200] from (k35_mkM _ _ _ (⟨100, 200⟩ : S35) )) (Reps.c2 (show Kd.M k35 _ _ _ (⟨0, 300⟩ : S35) [.int .i64 0, .int .i64 300] from (k35_mkM _ _ _ (⟨0, 300⟩ : S35) )) (Reps.none _ _)))); intro v134 w7 ho8 hb hg_ hnew_; clear hg_ hnew_; (first | rw [← Ny133.out] at ho8 | (simp only [Int.reduceToNat] at ho8; rw [← Ny133.out] at ho8)); have n0_ := Aside0.mk (Kd.R_lower ho8 (below_size (by repeat (first | (with_reducible first | exact HB.out | apply below_alloc | apply pw_below_drewN | apply below_drew1) | exact HB.out)))); have n1_ := Aside0.mk (below_step (by repeat (first | (with_reducible first | exact HB.out | apply below_alloc | apply pw_below_drewN | apply below_drew1) | exact HB.out)) hb); clear HB; have HO135 := n0_; have HB := n1_; clear n0_ n1_; clear hb ho8; obtain ⟨Ao9, co9, eo9⟩ := Kd.R_slice HO135.out; subst eo9) | ((with_reducible refine gate_callee (f := 13) rfl ?_); refine goesL_ (some 7) rfl rfl Try.func13 (by kernel_rfl) rfl #[.slice Ao9 y133.length co9, .int .i64 150] rfl (by (try simp only [List.map_toArray, List.map_cons, List.map_nil]); first | done | rfl | (simp only [List.length_drop, List.length_take]; rfl)) ?_; (with_reducible refine (block_Price.calls k _ _ y133 150 t136 t137 _ ?side1 ?side2 A1.out).mono ?_); (case side1 => repeat (first | exact (Kd.R_reads' HO135.out).2.2 | (with_reducible refine Kd.C_alloc ?_ _) | (with_reducible refine Kd.C_drewN ?_ _) | (with_reducible refine Kd.C_drew ?_))); (case side2 => exact (Kd.R_reads' HO135.out).2.1); rintro e w10 ⟨rfl, hb⟩; refine ⟨_, rfl, ?_⟩; have n0_ := Aside0.mk (Kd.R_below (by (with_reducible repeat (first | apply Kd.R_alloc | apply Kd.R_drewN | apply Kd.R_drew)); exact HO135.out) hb); have n1_ := Aside0.mk (below_step (by repeat (first | (with_reducible first | exact HB.out | apply below_alloc | apply pw_below_drewN | apply below_drew1) | exact HB.out)) hb); clear HO135; clear HB; have HO135 := n0_; have HB := n1_; clear n0_ n1_; (try clear hb); (try clear hb2); (try clear hk); (try clear hi)))
    go_ret
    exact ⟨by first | rfl | (simp [errW_none, errW_some] <;> rfl) | (simp [*, errW_none, errW_some] <;> rfl), by repeat (first | (with_reducible first | exact HB.out | apply below_alloc | apply pw_below_drewN | apply below_drew1) | exact HB.out)⟩

/-! ### pylonref17_Good: function 15 -/
mutual
def pylonref17_Good.j0 : Nat → List (S35) → Bool → Option (Bool)
  | 0, _, _ => none
  | k + 1, x0, x13 => if x13 = true then (some false) else (pylonref17_Good.l0 k x0 0 (x0.length : Int) 0)
def pylonref17_Good.l0 : Nat → List (S35) → Int → Int → Int → Option (Bool)
  | 0, _, _, _, _ => none
  | k + 1, x0, x3, x15, x16 => if x16 < x15 then (if 0 ≤ x16 then (if x16 < (x0.length : Int) then (if ((rd_T35 x0 x16).f1) < (-10000000) then (pylonref17_Good.j2 k x0 x3 x16 x15 x16 true ((rd_T35 x0 x16).f0) ((rd_T35 x0 x16).f1)) else (pylonref17_Good.j2 k x0 x3 x16 x15 x16 (decide (((rd_T35 x0 x16).f1) > 10000000)) ((rd_T35 x0 x16).f0) ((rd_T35 x0 x16).f1))) else (none)) else (none)) else (some false)
def pylonref17_Good.j2 : Nat → List (S35) → Int → Int → Int → Int → Bool → Int → Int → Option (Bool)
  | 0, _, _, _, _, _, _, _, _ => none
  | k + 1, x0, x3, x4, x15, x16, x30, x140000, x140001 => if x30 = true then (some false) else (if x4 = (wrap64 ((x0.length : Int) - 1)) then (some (x140000 == 0)) else (if x140000 ≤ x3 then (some false) else (if x140000 > 500000000000000 then (some false) else (pylonref17_Good.l0 k x0 x140000 x15 (wrap64 (x16 + 1))))))
end
def pylonref17_Good.f (k : Nat) (l0 : List (S35)) : Option (Bool) := if (l0.length : Int) < 1 then (pylonref17_Good.j0 k l0 true) else (pylonref17_Good.j0 k l0 (decide ((l0.length : Int) > 64)))
theorem pylonref17_Good.mono_l : ∀ k, (∀ y0 y1, LeO (pylonref17_Good.j0 k y0 y1) (pylonref17_Good.j0 (k + 1) y0 y1)) ∧ (∀ y0 y1 y2 y3, LeO (pylonref17_Good.l0 k y0 y1 y2 y3) (pylonref17_Good.l0 (k + 1) y0 y1 y2 y3)) ∧ (∀ y0 y1 y2 y3 y4 y5 y6 y7, LeO (pylonref17_Good.j2 k y0 y1 y2 y3 y4 y5 y6 y7) (pylonref17_Good.j2 (k + 1) y0 y1 y2 y3 y4 y5 y6 y7))
  | 0 => ⟨fun _ _ r h => by simp [pylonref17_Good.j0] at h, fun _ _ _ _ r h => by simp [pylonref17_Good.l0] at h, fun _ _ _ _ _ _ _ _ r h => by simp [pylonref17_Good.j2] at h⟩
  | k + 1 => by
    obtain ⟨ih0, ih1, ih2⟩ := pylonref17_Good.mono_l k
    refine ⟨?_, ?_, ?_⟩
    · intro y0 y1
      unfold pylonref17_Good.j0
      repeat' first
      | (with_reducible exact ih0 _ _)
      | (with_reducible exact ih1 _ _ _ _)
      | (with_reducible exact ih2 _ _ _ _ _ _ _ _)
      | (with_reducible exact LeO.refl _)
      | (with_reducible exact LeO.none _)
      | (with_reducible refine LeO.ite ?_ ?_)
      | (with_reducible refine LeO.bind ?_ (fun _ => ?_))
      | exact ih0 _ _
      | exact ih1 _ _ _ _
      | exact ih2 _ _ _ _ _ _ _ _
      | exact LeO.none _
      | refine LeO.ite ?_ ?_
      | refine LeO.bind ?_ (fun _ => ?_)
    · intro y0 y1 y2 y3
      unfold pylonref17_Good.l0
      repeat' first
      | (with_reducible exact ih0 _ _)
      | (with_reducible exact ih1 _ _ _ _)
      | (with_reducible exact ih2 _ _ _ _ _ _ _ _)
      | (with_reducible exact LeO.refl _)
      | (with_reducible exact LeO.none _)
      | (with_reducible refine LeO.ite ?_ ?_)
      | (with_reducible refine LeO.bind ?_ (fun _ => ?_))
      | exact ih0 _ _
      | exact ih1 _ _ _ _
      | exact ih2 _ _ _ _ _ _ _ _
      | exact LeO.none _
      | refine LeO.ite ?_ ?_
      | refine LeO.bind ?_ (fun _ => ?_)
    · intro y0 y1 y2 y3 y4 y5 y6 y7
      unfold pylonref17_Good.j2
      repeat' first
      | (with_reducible exact ih0 _ _)
      | (with_reducible exact ih1 _ _ _ _)
      | (with_reducible exact ih2 _ _ _ _ _ _ _ _)
      | (with_reducible exact LeO.refl _)
      | (with_reducible exact LeO.none _)
      | (with_reducible refine LeO.ite ?_ ?_)
      | (with_reducible refine LeO.bind ?_ (fun _ => ?_))
      | exact ih0 _ _
      | exact ih1 _ _ _ _
      | exact ih2 _ _ _ _ _ _ _ _
      | exact LeO.none _
      | refine LeO.ite ?_ ?_
      | refine LeO.bind ?_ (fun _ => ?_)
theorem pylonref17_Good.mono : ∀ a0 k, LeO (pylonref17_Good.f k a0) (pylonref17_Good.f (k + 1) a0) := by
  intro a0 k
  obtain ⟨ih0, ih1, ih2⟩ := pylonref17_Good.mono_l k
  unfold pylonref17_Good.f
  repeat' first
      | (with_reducible exact ih0 _ _)
      | (with_reducible exact ih1 _ _ _ _)
      | (with_reducible exact ih2 _ _ _ _ _ _ _ _)
      | (with_reducible exact LeO.refl _)
      | (with_reducible exact LeO.none _)
      | (with_reducible refine LeO.ite ?_ ?_)
      | (with_reducible refine LeO.bind ?_ (fun _ => ?_))
      | exact ih0 _ _
      | exact ih1 _ _ _ _
      | exact ih2 _ _ _ _ _ _ _ _
      | exact LeO.none _
      | refine LeO.ite ?_ ?_
      | refine LeO.bind ?_ (fun _ => ?_)
set_option maxHeartbeats 8000000 in
set_option maxRecDepth 100000 in
theorem pylonref17_Good.calls (k : Nat) (A0 : Option Addr) (c0 : Nat) (l0 : List (S35)) (r : Bool) (w : World) (hr0 : Kd.C k35 w A0 l0.length l0) (hc0 : l0.length ≤ c0) (h : pylonref17_Good.f k l0 = some r) :
    Calls Try.prog 15 #[.slice A0 l0.length c0] w fun e w' => e = .returned (.bool r) ∧ Below w.heap.size w w' := by
  have hu35 := Try.underlying35
  have HR0 := Aside0.mk hr0
  have HC0 := Aside0.mk hc0
  clear hr0 hc0
  have HB := Aside0.mk (Below.refl w.heap.size w)
  have H : (if (l0.length : Int) < 1 then (pylonref17_Good.j0 k l0 true) else (pylonref17_Good.j0 k l0 (decide ((l0.length : Int) > 64)))) = some r := h
  clear h
  have HC2 := Aside0.mk H
  clear H
  go_enter Try.func15, Try.ntmps15
  go_upto_region 1 with (fail)
  go_cut [13] (fun v13 wc => ∃ (kq : Nat) (x13_1 : Bool), v13 = .bool x13_1 ∧ Aside0 (pylonref17_Good.j0 kq l0 x13_1 = some r) ∧ Aside0 (kq ≤ k) ∧ Aside0 (Below w.heap.size w wc))
  case first =>
    have H := HC2.out
    clear HC2
    by_cases c3 : (l0.length : Int) < 1
    · rw [if_pos c3] at H
      have c3b0 : decide ((l0.length : Int) < 1) = true := decide_eq_true c3
      have c3b1 : decide (l0.length < 1) = true := decide_eq_true (by omega)
      clear c3
      (first | rw [c3b0] | (simp only [i64_w, i32_w]; rw [c3b0]) | skip)
      have H' := Aside0.mk H
      clear H
      go_wp2
      go_meet
      case rel => exact ⟨_, (true), (by first | rfl | (simp; done) | (simp [*]; done)), H', ⟨by first | omega | exact Nat.le_refl _⟩, ⟨by repeat (first | (with_reducible first | exact HB.out | apply below_alloc | apply pw_below_drewN | apply below_drew1) | exact HB.out)⟩⟩
    · rw [if_neg c3] at H
      have c3b0 : decide ((l0.length : Int) < 1) = false := decide_eq_false c3
      have c3b1 : decide (l0.length < 1) = false := decide_eq_false (by omega)
      clear c3
      (first | rw [c3b0] | (simp only [i64_w, i32_w]; rw [c3b0]) | skip)
      have H' := Aside0.mk H
      clear H
      go_wp2
      go_meet
      case rel => exact ⟨_, (decide ((l0.length : Int) > 64)), (by first | rfl | (simp; done) | (simp [*]; done) | (by_cases hdp0_ : (l0.length : Int) > 64 <;> simp [*] <;> done)), H', ⟨by first | omega | exact Nat.le_refl _⟩, ⟨by repeat (first | (with_reducible first | exact HB.out | apply below_alloc | apply pw_below_drewN | apply below_drew1) | exact HB.out)⟩⟩
  case rest =>
    clear HC2
    try clear c1
    try clear p2
    try clear c3
    try clear c3b0
    try clear c3b1
    obtain ⟨kq, x13_1, rfl, HA, HJ1, HB⟩ := hcut
    cases kq with
    | zero => exact absurd HA.out (by simp [pylonref17_Good.j0])
    | succ kj1 =>
      have H := HA.out
      clear HA
      simp only [pylonref17_Good.j0] at H
      by_cases c4 : x13_1 = true
      · subst c4
        have H1 : (some false) = some r := by rw [if_pos rfl] at H; exact H
        clear H
        have H := H1
        clear H1
        obtain rfl := Option.some.inj H
        go_wp2
        go_ret
        exact ⟨by first | rfl | (simp [errW_none, errW_some] <;> rfl) | (simp [*, errW_none, errW_some] <;> rfl), by repeat (first | (with_reducible first | exact HB.out | apply below_alloc | apply pw_below_drewN | apply below_drew1) | exact HB.out)⟩
      · replace c4 := Bool.eq_false_iff.mpr c4
        subst c4
        have H1 : (pylonref17_Good.l0 kj1 l0 0 (l0.length : Int) 0) = some r := by rw [if_neg (show ¬ (false = true) by decide)] at H; exact H
        clear H
        have H := H1
        clear H1
        have H' := Aside0.mk H
        clear H
        go_wp2
        go_loopg [3, 16] kj1 (fun kq v3 v16 w' => ∃ (x3_2 : Int) (x16_2 : Int), v3 = .int .i64 x3_2 ∧ v16 = .int .i64 x16_2 ∧ Aside0 (pylonref17_Good.l0 kq l0 x3_2 (l0.length : Int) x16_2 = some r) ∧ Aside0 (kq ≤ kj1) ∧ Aside0 (Below w.heap.size w w'))
        case atStart => exact ⟨(0), (0), (by first | rfl | (simp; done) | (simp [*]; done)), (by first | rfl | (simp; done) | (simp [*]; done)), H', ⟨Nat.le_refl _⟩, ⟨by repeat (first | (with_reducible first | exact HB.out | apply below_alloc | apply pw_below_drewN | apply below_drew1) | exact HB.out)⟩⟩
        case round =>
          clear H'
          try clear c1
          try clear p2
          try clear c3
          try clear c3b0
          try clear c3b1
          try clear c4
          try clear p2
          obtain ⟨x3_2, x16_2, rfl, rfl, HA, HK2, HB⟩ := hrel
          cases gk with
          | zero => exact absurd HA.out (by simp [pylonref17_Good.l0])
          | succ k2 =>
            have H := HA.out
            clear HA
            simp only [pylonref17_Good.l0] at H
            by_cases c5 : x16_2 < (l0.length : Int)
            · rw [if_pos c5] at H
              have c5b0 : decide (x16_2 < (l0.length : Int)) = true := decide_eq_true c5
              clear c5
              by_cases c6 : 0 ≤ x16_2
              · rw [if_pos c6] at H
                have c6b0 : decide (0 ≤ x16_2) = true := decide_eq_true c6
                clear c6
                by_cases c7 : x16_2 < (l0.length : Int)
                · rw [if_pos c7] at H
                  have c7b0 : decide (x16_2 < (l0.length : Int)) = true := decide_eq_true c7
                  clear c7
                  have HC8 := Aside0.mk H
                  clear H
                  have p138 : 0 ≤ (x16_2 : Int) := of_decide_eq_true (by first | (with_reducible assumption) | assumption)
                  have q138 : x16_2 < (l0.length : Int) := of_decide_eq_true (by first | (with_reducible assumption) | assumption)
                  obtain ⟨ad138, e138, hx138_0, hx138_1⟩ := at_T35 HR0.out x16_2 p138 q138
                  cases e138
                  replace hx138_0 := (HB.out.cell (World.block_lt_of_cell? w _ hx138_0)).trans hx138_0
                  replace hx138_1 := (HB.out.cell (World.block_lt_of_cell? w _ hx138_1)).trans hx138_1
                  replace p138 := eq_true p138
                  replace q138 := eq_true q138
                  go_upto_region 8 with (first | ((with_reducible refine gate_dst (N := 5) rfl ?_); (try (refine gate_guard (by rfl) ?_; dsimp only)); refine box_event ?hg (N := 5) ?hd (cs := #[.int .i64 0, .int .i64 0]) (t := 35) ?hr ?_; (case hd => rfl); (case hg => rfl); (case hr => first | (go_simp; done) | (go_simp; rfl)); intro gb139 hg w9 hbox hb; have n0_ := Aside0.mk (below_step (by repeat (first | (with_reducible first | exact HB.out | apply below_alloc | apply pw_below_drewN | apply below_drew1) | exact HB.out)) hb); have n1_ := Aside0.mk (hbox); have n2_ := Aside0.mk ((by rw [hg]; exact (below_size (by repeat (first | (with_reducible first | exact HB.out | apply below_alloc | apply pw_below_drewN | apply below_drew1) | exact HB.out))) : w.heap.size ≤ gb139)); have n3_ := Aside0.mk ((by rw [hg]; exact (below_size (by repeat (first | (with_reducible first | exact HB.out | apply below_alloc | apply pw_below_drewN | apply below_drew1) | exact HB.out))) : w.heap.size ≤ gb139)); clear HB; have HB := n0_; have BK139 := n1_; have GW139 := n2_; have GE139 := n3_; clear n0_ n1_ n2_ n3_; clear hb hbox hg; have hcz10_0 : w9.cell? ⟨gb139, 0, none⟩ = some (.int .i64 0) := (blk_cell BK139.out 0).trans rfl; have hcz10_1 : w9.cell? ⟨gb139, 1, none⟩ = some (.int .i64 0) := (blk_cell BK139.out 1).trans rfl; have hfz10_0 := blk_frozen BK139.out 0; have hfz10_1 := blk_frozen BK139.out 1))
                  (try simp only [Act.put, List.setIfInBounds_toArray, List.set_cons_zero, List.set_cons_succ])
                  go_cut [30] (fun v30 wc => ∃ (kq : Nat) (x30_7 : Bool), v30 = .bool x30_7 ∧ Aside0 (pylonref17_Good.j2 kq l0 x3_2 x16_2 (l0.length : Int) x16_2 x30_7 ((rd_T35 l0 x16_2).f0) ((rd_T35 l0 x16_2).f1) = some r) ∧ Aside0 (kq ≤ k2) ∧ Aside0 (wc.heap[gb139]? = some (.cells #[.int .i64 ((rd_T35 l0 x16_2).f0), .int .i64 ((rd_T35 l0 x16_2).f1)] 35 (0, 0))) ∧ Aside0 (Below w.heap.size w wc))
                  case first =>
                    have H := HC8.out
                    clear HC8
                    by_cases c11 : ((rd_T35 l0 x16_2).f1) < (-10000000)
                    · rw [if_pos c11] at H
                      have c11b0 : decide (((rd_T35 l0 x16_2).f1) < (-10000000)) = true := decide_eq_true c11
                      clear c11
                      (first | rw [c11b0] | (simp only [i64_w, i32_w]; rw [c11b0]) | skip)
                      have H' := Aside0.mk H
                      clear H
                      have hcz12_0 : w9.cell? ⟨gb139, 0, none⟩ = some (.int .i64 0) := (blk_cell BK139.out 0).trans rfl
                      have hcz12_1 : w9.cell? ⟨gb139, 1, none⟩ = some (.int .i64 0) := (blk_cell BK139.out 1).trans rfl
                      have hfz12_0 := blk_frozen BK139.out 0
                      have hfz12_1 := blk_frozen BK139.out 1
                      go_wp2
                      go_meet
                      case rel => exact ⟨_, (true), (by first | rfl | (simp; done) | (simp [*]; done)), H', ⟨by have := HJ1.out; have := HK2.out; first | omega | exact Nat.le_refl _⟩, ⟨by (with_reducible repeat (first | refine blk_drewN ?_ _ | refine blk_drew ?_ | refine blk_alloc ?_ _)); refine blk_put (cs := #[.int .i64 ((rd_T35 l0 x16_2).f0), .int .i64 0]) ?_ 1 _ rfl; (with_reducible repeat (first | refine blk_drewN ?_ _ | refine blk_drew ?_ | refine blk_alloc ?_ _)); refine blk_put (cs := #[.int .i64 0, .int .i64 0]) ?_ 0 _ rfl; (with_reducible repeat (first | refine blk_drewN ?_ _ | refine blk_drew ?_ | refine blk_alloc ?_ _)); exact BK139.out⟩, ⟨by repeat (first | (with_reducible first | exact HB.out | apply below_alloc | apply pw_below_drewN | apply below_drew1 | refine below_set ?_ GE139.out) | exact HB.out)⟩⟩
                    · rw [if_neg c11] at H
                      have c11b0 : decide (((rd_T35 l0 x16_2).f1) < (-10000000)) = false := decide_eq_false c11
                      clear c11
                      (first | rw [c11b0] | (simp only [i64_w, i32_w]; rw [c11b0]) | skip)
                      have H' := Aside0.mk H
                      clear H
                      have hcz13_0 : w9.cell? ⟨gb139, 0, none⟩ = some (.int .i64 0) := (blk_cell BK139.out 0).trans rfl
                      have hcz13_1 : w9.cell? ⟨gb139, 1, none⟩ = some (.int .i64 0) := (blk_cell BK139.out 1).trans rfl
                      have hfz13_0 := blk_frozen BK139.out 0
                      have hfz13_1 := blk_frozen BK139.out 1
                      go_wp2
                      go_meet
                      case rel => exact ⟨_, (decide (((rd_T35 l0 x16_2).f1) > 10000000)), (by first | rfl | (simp; done) | (simp [*]; done) | (by_cases hdp0_ : ((rd_T35 l0 x16_2).f1) > 10000000 <;> simp [*] <;> done)), H', ⟨by have := HJ1.out; have := HK2.out; first | omega | exact Nat.le_refl _⟩, ⟨by (with_reducible repeat (first | refine blk_drewN ?_ _ | refine blk_drew ?_ | refine blk_alloc ?_ _)); refine blk_put (cs := #[.int .i64 ((rd_T35 l0 x16_2).f0), .int .i64 0]) ?_ 1 _ rfl; (with_reducible repeat (first | refine blk_drewN ?_ _ | refine blk_drew ?_ | refine blk_alloc ?_ _)); refine blk_put (cs := #[.int .i64 0, .int .i64 0]) ?_ 0 _ rfl; (with_reducible repeat (first | refine blk_drewN ?_ _ | refine blk_drew ?_ | refine blk_alloc ?_ _)); exact BK139.out⟩, ⟨by repeat (first | (with_reducible first | exact HB.out | apply below_alloc | apply pw_below_drewN | apply below_drew1 | refine below_set ?_ GE139.out) | exact HB.out)⟩⟩
                  case rest =>
                    clear HC8
                    try clear c1
                    try clear p1
                    try clear q1
                    try clear hx1
                    try clear p2
                    try clear c3
                    try clear c3b0
                    try clear c3b1
                    try clear c4
                    try clear c5
                    try clear c5b0
                    try clear c6
                    try clear c6b0
                    try clear c7
                    try clear c7b0
                    try clear c11
                    try clear c11b0
                    try clear p13
                    try clear q13
                    try clear hx13
                    try clear hcz10_0
                    try clear hcz10_1
                    try clear hcz12_0
                    try clear hcz12_1
                    try clear hcz13_0
                    try clear hcz13_1
                    try clear hfz10_0
                    try clear hfz10_1
                    try clear hfz12_0
                    try clear hfz12_1
                    try clear hfz13_0
                    try clear hfz13_1
                    try clear hx138_0
                    try clear hx138_1
                    try clear p138
                    try clear p2
                    try clear q138
                    obtain ⟨kq, x30_7, rfl, HA, HJ7, BK139, HB⟩ := hcut
                    cases kq with
                    | zero => exact absurd HA.out (by simp [pylonref17_Good.j2])
                    | succ kj7 =>
                      have H := HA.out
                      clear HA
                      simp only [pylonref17_Good.j2] at H
                      by_cases c14 : x30_7 = true
                      · subst c14
                        have H1 : (some false) = some r := by rw [if_pos rfl] at H; exact H
                        clear H
                        have H := H1
                        clear H1
                        obtain rfl := Option.some.inj H
                        go_wp2
                        go_ret
                        exact ⟨by first | rfl | (simp [errW_none, errW_some] <;> rfl) | (simp [*, errW_none, errW_some] <;> rfl), by repeat (first | (with_reducible first | exact HB.out | apply below_alloc | apply pw_below_drewN | apply below_drew1 | refine below_set ?_ GE139.out) | exact HB.out)⟩
                      · replace c14 := Bool.eq_false_iff.mpr c14
                        subst c14
                        have H1 : (if x16_2 = (wrap64 ((l0.length : Int) - 1)) then (some (((rd_T35 l0 x16_2).f0) == 0)) else (if ((rd_T35 l0 x16_2).f0) ≤ x3_2 then (some false) else (if ((rd_T35 l0 x16_2).f0) > 500000000000000 then (some false) else (pylonref17_Good.l0 kj7 l0 ((rd_T35 l0 x16_2).f0) (l0.length : Int) (wrap64 (x16_2 + 1)))))) = some r := by rw [if_neg (show ¬ (false = true) by decide)] at H; exact H
                        clear H
                        have H := H1
                        clear H1
                        by_cases c15 : x16_2 = (wrap64 ((l0.length : Int) - 1))
                        · rw [if_pos c15] at H
                          have c15b0 : (x16_2 == (wrap64 ((l0.length : Int) - 1))) = true := beq_iff_eq.mpr c15
                          have c15b1 : (x16_2 != (wrap64 ((l0.length : Int) - 1))) = false := bne_eq_false_iff_eq.mpr c15
                          clear c15
                          obtain rfl := Option.some.inj H
                          have hcz16_0 : wc.cell? ⟨gb139, 0, none⟩ = some (.int .i64 ((rd_T35 l0 x16_2).f0)) := (blk_cell BK139.out 0).trans rfl
                          have hcz16_1 : wc.cell? ⟨gb139, 1, none⟩ = some (.int .i64 ((rd_T35 l0 x16_2).f1)) := (blk_cell BK139.out 1).trans rfl
                          have hfz16_0 := blk_frozen BK139.out 0
                          have hfz16_1 := blk_frozen BK139.out 1
                          go_wp2
                          go_ret
                          exact ⟨by first | rfl | (simp [errW_none, errW_some] <;> rfl) | (simp [*, errW_none, errW_some] <;> rfl), by repeat (first | (with_reducible first | exact HB.out | apply below_alloc | apply pw_below_drewN | apply below_drew1 | refine below_set ?_ GE139.out) | exact HB.out)⟩
                        · rw [if_neg c15] at H
                          have c15b0 : (x16_2 == (wrap64 ((l0.length : Int) - 1))) = false := beq_eq_false_iff_ne.mpr c15
                          have c15b1 : (x16_2 != (wrap64 ((l0.length : Int) - 1))) = true := bne_iff_ne.mpr c15
                          by_cases c17 : ((rd_T35 l0 x16_2).f0) ≤ x3_2
                          · rw [if_pos c17] at H
                            have c17b0 : decide (((rd_T35 l0 x16_2).f0) ≤ x3_2) = true := decide_eq_true c17
                            clear c17
                            obtain rfl := Option.some.inj H
                            have hcz18_0 : wc.cell? ⟨gb139, 0, none⟩ = some (.int .i64 ((rd_T35 l0 x16_2).f0)) := (blk_cell BK139.out 0).trans rfl
                            have hcz18_1 : wc.cell? ⟨gb139, 1, none⟩ = some (.int .i64 ((rd_T35 l0 x16_2).f1)) := (blk_cell BK139.out 1).trans rfl
                            have hfz18_0 := blk_frozen BK139.out 0
                            have hfz18_1 := blk_frozen BK139.out 1
                            go_wp2
                            go_ret
                            exact ⟨by first | rfl | (simp [errW_none, errW_some] <;> rfl) | (simp [*, errW_none, errW_some] <;> rfl), by repeat (first | (with_reducible first | exact HB.out | apply below_alloc | apply pw_below_drewN | apply below_drew1 | refine below_set ?_ GE139.out) | exact HB.out)⟩
                          · rw [if_neg c17] at H
                            have c17b0 : decide (((rd_T35 l0 x16_2).f0) ≤ x3_2) = false := decide_eq_false c17
                            clear c17
                            by_cases c19 : ((rd_T35 l0 x16_2).f0) > 500000000000000
                            · rw [if_pos c19] at H
                              have c19b0 : decide (500000000000000 < ((rd_T35 l0 x16_2).f0)) = true := decide_eq_true c19
                              clear c19
                              obtain rfl := Option.some.inj H
                              have hcz20_0 : wc.cell? ⟨gb139, 0, none⟩ = some (.int .i64 ((rd_T35 l0 x16_2).f0)) := (blk_cell BK139.out 0).trans rfl
                              have hcz20_1 : wc.cell? ⟨gb139, 1, none⟩ = some (.int .i64 ((rd_T35 l0 x16_2).f1)) := (blk_cell BK139.out 1).trans rfl
                              have hfz20_0 := blk_frozen BK139.out 0
                              have hfz20_1 := blk_frozen BK139.out 1
                              go_wp2
                              go_ret
                              exact ⟨by first | rfl | (simp [errW_none, errW_some] <;> rfl) | (simp [*, errW_none, errW_some] <;> rfl), by repeat (first | (with_reducible first | exact HB.out | apply below_alloc | apply pw_below_drewN | apply below_drew1 | refine below_set ?_ GE139.out) | exact HB.out)⟩
                            · rw [if_neg c19] at H
                              have c19b0 : decide (500000000000000 < ((rd_T35 l0 x16_2).f0)) = false := decide_eq_false c19
                              clear c19
                              have H' := Aside0.mk H
                              clear H
                              have hcz21_0 : wc.cell? ⟨gb139, 0, none⟩ = some (.int .i64 ((rd_T35 l0 x16_2).f0)) := (blk_cell BK139.out 0).trans rfl
                              have hcz21_1 : wc.cell? ⟨gb139, 1, none⟩ = some (.int .i64 ((rd_T35 l0 x16_2).f1)) := (blk_cell BK139.out 1).trans rfl
                              have hfz21_0 := blk_frozen BK139.out 0
                              have hfz21_1 := blk_frozen BK139.out 1
                              go_wp2
                              go_roundg kj7
                              case measure => have := HJ1.out; have := HK2.out; have := HJ7.out; omega
                              case rel => exact ⟨(((rd_T35 l0 x16_2).f0)), (wrap64 (x16_2 + 1)), (by first | rfl | (simp; done) | (simp [*]; done)), (by first | rfl | (simp; done) | (simp [*]; done)), H', ⟨by have := HJ1.out; have := HK2.out; have := HJ7.out; omega⟩, ⟨by repeat (first | (with_reducible first | exact HB.out | apply below_alloc | apply pw_below_drewN | apply below_drew1 | refine below_set ?_ GE139.out) | exact HB.out)⟩⟩
                · rw [if_neg c7] at H
                  exact absurd H (by simp)
              · rw [if_neg c6] at H
                exact absurd H (by simp)
            · rw [if_neg c5] at H
              have c5b0 : decide (x16_2 < (l0.length : Int)) = false := decide_eq_false c5
              clear c5
              obtain rfl := Option.some.inj H
              go_wp2
              go_ret
              exact ⟨by first | rfl | (simp [errW_none, errW_some] <;> rfl) | (simp [*, errW_none, errW_some] <;> rfl), by repeat (first | (with_reducible first | exact HB.out | apply below_alloc | apply pw_below_drewN | apply below_drew1) | exact HB.out)⟩

/-! ### pylonref17_Parts: function 10 -/
mutual
def pylonref17_Parts.j0 : Nat → List (S35) → Int → Bool → Option (List Int × Int)
  | 0, _, _, _ => none
  | k + 1, x0, x1, x18 => if x18 = true then (some (([] : List Int), 5)) else (pylonref17_Parts.l0 k x0 x1 ([] : List Int) 0 (x0.length : Int) 0)
def pylonref17_Parts.l0 : Nat → List (S35) → Int → List Int → Int → Int → Int → Option (List Int × Int)
  | 0, _, _, _, _, _, _ => none
  | k + 1, x0, x1, x6, x7, x20, x21 => if x21 < x20 then (if 0 ≤ x21 then (if x21 < (x0.length : Int) then (if x21 = (wrap64 ((x0.length : Int) - 1)) then (if x6.length < 17592186044416 then (pylonref17_Parts.l0 k x0 x1 (x6 ++ [mx 0 (wrap64 ((mn x1 500000000000000) - x7))]) 500000000000000 x20 (wrap64 (x21 + 1))) else (none)) else (if x6.length < 17592186044416 then (pylonref17_Parts.l0 k x0 x1 (x6 ++ [mx 0 (wrap64 ((mn x1 ((rd_T35 x0 x21).f0)) - x7))]) ((rd_T35 x0 x21).f0) x20 (wrap64 (x21 + 1))) else (none))) else (none)) else (none)) else (some (x6, 0))
end
def pylonref17_Parts.f (k : Nat) (l0 : List (S35)) (a1 : Int) : Option (List Int × Int) := (pylonref17_Good.f k l0).bind fun t140 => (if t140 = true then (if a1 < 0 then (pylonref17_Parts.j0 k l0 a1 true) else (pylonref17_Parts.j0 k l0 a1 (decide (a1 > 500000000000000)))) else (some (([] : List Int), 2)))
theorem pylonref17_Parts.mono_l : ∀ k, (∀ y0 y1 y2, LeO (pylonref17_Parts.j0 k y0 y1 y2) (pylonref17_Parts.j0 (k + 1) y0 y1 y2)) ∧ (∀ y0 y1 y2 y3 y4 y5, LeO (pylonref17_Parts.l0 k y0 y1 y2 y3 y4 y5) (pylonref17_Parts.l0 (k + 1) y0 y1 y2 y3 y4 y5))
  | 0 => ⟨fun _ _ _ r h => by simp [pylonref17_Parts.j0] at h, fun _ _ _ _ _ _ r h => by simp [pylonref17_Parts.l0] at h⟩
  | k + 1 => by
    obtain ⟨ih0, ih1⟩ := pylonref17_Parts.mono_l k
    refine ⟨?_, ?_⟩
    · intro y0 y1 y2
      unfold pylonref17_Parts.j0
      repeat' first
      | (with_reducible exact ih0 _ _ _)
      | (with_reducible exact ih1 _ _ _ _ _ _)
      | (with_reducible exact pylonref17_Good.mono _ _)
      | (with_reducible exact LeO.refl _)
      | (with_reducible exact LeO.none _)
      | (with_reducible refine LeO.ite ?_ ?_)
      | (with_reducible refine LeO.bind ?_ (fun _ => ?_))
      | exact ih0 _ _ _
      | exact ih1 _ _ _ _ _ _
      | exact pylonref17_Good.mono _ _
      | exact LeO.none _
      | refine LeO.ite ?_ ?_
      | refine LeO.bind ?_ (fun _ => ?_)
    · intro y0 y1 y2 y3 y4 y5
      unfold pylonref17_Parts.l0
      repeat' first
      | (with_reducible exact ih0 _ _ _)
      | (with_reducible exact ih1 _ _ _ _ _ _)
      | (with_reducible exact pylonref17_Good.mono _ _)
      | (with_reducible exact LeO.refl _)
      | (with_reducible exact LeO.none _)
      | (with_reducible refine LeO.ite ?_ ?_)
      | (with_reducible refine LeO.bind ?_ (fun _ => ?_))
      | exact ih0 _ _ _
      | exact ih1 _ _ _ _ _ _
      | exact pylonref17_Good.mono _ _
      | exact LeO.none _
      | refine LeO.ite ?_ ?_
      | refine LeO.bind ?_ (fun _ => ?_)
theorem pylonref17_Parts.mono : ∀ a0 a1 k, LeO (pylonref17_Parts.f k a0 a1) (pylonref17_Parts.f (k + 1) a0 a1) := by
  intro a0 a1 k
  obtain ⟨ih0, ih1⟩ := pylonref17_Parts.mono_l k
  unfold pylonref17_Parts.f
  repeat' first
      | (with_reducible exact ih0 _ _ _)
      | (with_reducible exact ih1 _ _ _ _ _ _)
      | (with_reducible exact pylonref17_Good.mono _ _)
      | (with_reducible exact LeO.refl _)
      | (with_reducible exact LeO.none _)
      | (with_reducible refine LeO.ite ?_ ?_)
      | (with_reducible refine LeO.bind ?_ (fun _ => ?_))
      | exact ih0 _ _ _
      | exact ih1 _ _ _ _ _ _
      | exact pylonref17_Good.mono _ _
      | exact LeO.none _
      | refine LeO.ite ?_ ?_
      | refine LeO.bind ?_ (fun _ => ?_)
set_option maxHeartbeats 8000000 in
set_option maxRecDepth 100000 in
theorem pylonref17_Parts.calls (k : Nat) (A0 : Option Addr) (c0 : Nat) (l0 : List (S35)) (a1 : Int) (r1 : List Int) (r2 : Int) (w : World) (hr0 : Kd.C k35 w A0 l0.length l0) (hc0 : l0.length ≤ c0) (h : pylonref17_Parts.f k l0 a1 = some (r1, r2)) :
    Calls Try.prog 10 #[.slice A0 l0.length c0, .int .i64 a1] w fun e w' => ∃ v0_ : Value, e = .returned (.tuple #[v0_, .int .i64 r2]) ∧ Kd.R (Kd.int .i64) 2 w' w.heap.size (fun _ => True) v0_ r1 ∧ Below w.heap.size w w' := by
  have HR0 := Aside0.mk hr0
  have HC0 := Aside0.mk hc0
  clear hr0 hc0
  have HB := Aside0.mk (Below.refl w.heap.size w)
  have H : ((pylonref17_Good.f k l0).bind fun t140 => (if t140 = true then (if a1 < 0 then (pylonref17_Parts.j0 k l0 a1 true) else (pylonref17_Parts.j0 k l0 a1 (decide (a1 > 500000000000000)))) else (some (([] : List Int), 2)))) = some (r1, r2) := h
  clear h
  replace H := Option.bind_eq_some_iff.mp H
  obtain ⟨t140, A30, H⟩ := H
  replace H : (if t140 = true then (if a1 < 0 then (pylonref17_Parts.j0 k l0 a1 true) else (pylonref17_Parts.j0 k l0 a1 (decide (a1 > 500000000000000)))) else (some (([] : List Int), 2))) = some (r1, r2) := H
  have A3 := Aside0.mk A30
  clear A30
  by_cases c4 : t140 = true
  · subst c4
    have H1 : (if a1 < 0 then (pylonref17_Parts.j0 k l0 a1 true) else (pylonref17_Parts.j0 k l0 a1 (decide (a1 > 500000000000000)))) = some (r1, r2) := by rw [if_pos rfl] at H; exact H
    clear H
    have H := H1
    clear H1
    have HC5 := Aside0.mk H
    clear H
    go_enter Try.func10, Try.ntmps10
    go_upto_region 3 with (first | ((with_reducible refine gate_callee (f := 15) rfl ?_); refine goesL_ (some 11) rfl rfl Try.func15 (by kernel_rfl) rfl #[.slice A0 l0.length c0] rfl (by (try simp only [List.map_toArray, List.map_cons, List.map_nil]); first | done | rfl | (simp only [List.length_drop, List.length_take]; rfl)) ?_; (with_reducible refine (pylonref17_Good.calls k _ _ l0 true _ ?side1 ?side2 A3.out).mono ?_); (case side1 => repeat (first | exact HR0.out | (with_reducible refine Kd.C_alloc ?_ _) | (with_reducible refine Kd.C_drewN ?_ _) | (with_reducible refine Kd.C_drew ?_))); (case side2 => exact HC0.out); rintro e w6 ⟨rfl, hb⟩; refine ⟨_, rfl, ?_⟩; have n0_ := Aside0.mk (below_step (by repeat (first | (with_reducible first | exact HB.out | apply below_alloc | apply pw_below_drewN | apply below_drew1) | exact HB.out)) hb); clear HB; have HB := n0_; clear n0_; (try clear hb); (try clear hb2); (try clear hk); (try clear hi)))
    (try simp only [Act.put, List.setIfInBounds_toArray, List.set_cons_zero, List.set_cons_succ])
    go_cut [18] (fun v18 wc => ∃ (kq : Nat) (x18_4 : Bool), v18 = .bool x18_4 ∧ Aside0 (pylonref17_Parts.j0 kq l0 a1 x18_4 = some (r1, r2)) ∧ Aside0 (kq ≤ k) ∧ Aside0 (Below w.heap.size w wc))
    case first =>
      have H := HC5.out
      clear HC5
      by_cases c7 : a1 < 0
      · rw [if_pos c7] at H
        have c7b0 : decide (a1 < 0) = true := decide_eq_true c7
        clear c7
        (first | rw [c7b0] | (simp only [i64_w, i32_w]; rw [c7b0]) | skip)
        have H' := Aside0.mk H
        clear H
        go_wp2
        go_meet
        case rel => exact ⟨_, (true), (by first | rfl | (simp; done) | (simp [*]; done)), H', ⟨by first | omega | exact Nat.le_refl _⟩, ⟨by repeat (first | (with_reducible first | exact HB.out | apply below_alloc | apply pw_below_drewN | apply below_drew1) | exact HB.out)⟩⟩
      · rw [if_neg c7] at H
        have c7b0 : decide (a1 < 0) = false := decide_eq_false c7
        clear c7
        (first | rw [c7b0] | (simp only [i64_w, i32_w]; rw [c7b0]) | skip)
        have H' := Aside0.mk H
        clear H
        go_wp2
        go_meet
        case rel => exact ⟨_, (decide (a1 > 500000000000000)), (by first | rfl | (simp; done) | (simp [*]; done) | (by_cases hdp0_ : a1 > 500000000000000 <;> simp [*] <;> done)), H', ⟨by first | omega | exact Nat.le_refl _⟩, ⟨by repeat (first | (with_reducible first | exact HB.out | apply below_alloc | apply pw_below_drewN | apply below_drew1) | exact HB.out)⟩⟩
    case rest =>
      clear HC5
      try clear c1
      try clear p2
      try clear c4
      try clear c7
      try clear c7b0
      obtain ⟨kq, x18_4, rfl, HA, HJ4, HB⟩ := hcut
      cases kq with
      | zero => exact absurd HA.out (by simp [pylonref17_Parts.j0])
      | succ kj4 =>
        have H := HA.out
        clear HA
        simp only [pylonref17_Parts.j0] at H
        by_cases c8 : x18_4 = true
        · subst c8
          have H1 : (some (([] : List Int), 5)) = some (r1, r2) := by rw [if_pos rfl] at H; exact H
          clear H
          have H := H1
          clear H1
          simp only [Option.some.injEq, Prod.mk.injEq] at H
          obtain ⟨rfl, rfl⟩ := H
          go_wp2
          go_ret2
          exact ⟨_, by first | rfl | (simp [errW_none, errW_some] <;> rfl) | (simp [*, errW_none, errW_some] <;> rfl), by first | exact Kd.R_nil _ _ _ _ _ | exact Kd.N_nil _ _ _ _ _ | exact Kd.V_nil _ _ _ _ _ | exact Kd.Q_nil _ _ _ _ _ | exact Kd.S_nil _ _ _ _ _, by repeat (first | (with_reducible first | exact HB.out | apply below_alloc | apply pw_below_drewN | apply below_drew1) | exact HB.out)⟩
        · replace c8 := Bool.eq_false_iff.mpr c8
          subst c8
          have H1 : (pylonref17_Parts.l0 kj4 l0 a1 ([] : List Int) 0 (l0.length : Int) 0) = some (r1, r2) := by rw [if_neg (show ¬ (false = true) by decide)] at H; exact H
          clear H
          have H := H1
          clear H1
          have H' := Aside0.mk H
          clear H
          go_wp2
          go_loopg [6, 7, 21] kj4 (fun kq v6 v7 v21 w' => ∃ (x6_2 : List Int) (x7_2 : Int) (x21_2 : Int), v7 = .int .i64 x7_2 ∧ v21 = .int .i64 x21_2 ∧ Aside0 (pylonref17_Parts.l0 kq l0 a1 x6_2 x7_2 (l0.length : Int) x21_2 = some (r1, r2)) ∧ Aside0 (kq ≤ kj4) ∧ Aside0 (Kd.R (Kd.int .i64) 2 w' w.heap.size (fun _ => True) v6 x6_2) ∧ Aside0 (Below w.heap.size w w'))
          case atStart => exact ⟨(([] : List Int)), (0), (0), (by first | rfl | (simp; done) | (simp [*]; done)), (by first | rfl | (simp; done) | (simp [*]; done)), H', ⟨Nat.le_refl _⟩, ⟨by first | exact Kd.R_nil _ _ _ _ _ | exact Kd.N_nil _ _ _ _ _ | exact Kd.V_nil _ _ _ _ _ | exact Kd.Q_nil _ _ _ _ _ | exact Kd.S_nil _ _ _ _ _⟩, ⟨by repeat (first | (with_reducible first | exact HB.out | apply below_alloc | apply pw_below_drewN | apply below_drew1) | exact HB.out)⟩⟩
          case round =>
            clear H'
            try clear c1
            try clear p2
            try clear c4
            try clear c7
            try clear c7b0
            try clear c8
            try clear p2
            obtain ⟨x6_2, x7_2, x21_2, rfl, rfl, HA, HK2, HO_6, HB⟩ := hrel
            cases gk with
            | zero => exact absurd HA.out (by simp [pylonref17_Parts.l0])
            | succ k2 =>
              have H := HA.out
              clear HA
              simp only [pylonref17_Parts.l0] at H
              by_cases c9 : x21_2 < (l0.length : Int)
              · rw [if_pos c9] at H
                have c9b0 : decide (x21_2 < (l0.length : Int)) = true := decide_eq_true c9
                clear c9
                by_cases c10 : 0 ≤ x21_2
                · rw [if_pos c10] at H
                  have c10b0 : decide (0 ≤ x21_2) = true := decide_eq_true c10
                  clear c10
                  by_cases c11 : x21_2 < (l0.length : Int)
                  · rw [if_pos c11] at H
                    have c11b0 : decide (x21_2 < (l0.length : Int)) = true := decide_eq_true c11
                    clear c11
                    by_cases c12 : x21_2 = (wrap64 ((l0.length : Int) - 1))
                    · rw [if_pos c12] at H
                      have c12b0 : (x21_2 == (wrap64 ((l0.length : Int) - 1))) = true := beq_iff_eq.mpr c12
                      have c12b1 : (x21_2 != (wrap64 ((l0.length : Int) - 1))) = false := bne_eq_false_iff_eq.mpr c12
                      clear c12
                      obtain ⟨ji13, hji13⟩ : ∃ j_ : Int, (mn a1 500000000000000) = j_ := ⟨_, rfl⟩
                      replace H : (if x6_2.length < 17592186044416 then (pylonref17_Parts.l0 k2 l0 a1 (x6_2 ++ [mx 0 (wrap64 ((ji13) - x7_2))]) 500000000000000 (l0.length : Int) (wrap64 (x21_2 + 1))) else (none)) = some (r1, r2) := by first | (rw [hji13] at H; exact H) | (simp only [hji13] at H ⊢; exact H)
                      have hji13_ : (if 500000000000000 < a1 then 500000000000000 else a1) = ji13 := hji13
                      obtain ⟨ji14, hji14⟩ : ∃ j_ : Int, (mx 0 (wrap64 ((ji13) - x7_2))) = j_ := ⟨_, rfl⟩
                      replace H : (if x6_2.length < 17592186044416 then (pylonref17_Parts.l0 k2 l0 a1 (x6_2 ++ [ji14]) 500000000000000 (l0.length : Int) (wrap64 (x21_2 + 1))) else (none)) = some (r1, r2) := by first | (rw [hji14] at H; exact H) | (simp only [hji14] at H ⊢; exact H)
                      have hji14_ : (if 0 < (wrap64 ((ji13) - x7_2)) then (wrap64 ((ji13) - x7_2)) else 0) = ji14 := hji14
                      by_cases c15 : x6_2.length < 17592186044416
                      · rw [if_pos c15] at H
                        have LMc15 := Aside0.mk c15
                        clear c15
                        obtain ⟨y142, hy142⟩ : ∃ y_ : List Int, y_ = (x6_2 ++ [ji14]) := ⟨_, rfl⟩
                        replace H : (pylonref17_Parts.l0 k2 l0 a1 y142 500000000000000 (l0.length : Int) (wrap64 (x21_2 + 1))) = some (r1, r2) := by first | (rw [hy142]; with_reducible exact H) | (have H2_ := (Option.bind_some _ _).symm.trans H; rw [hy142]; with_reducible exact H2_) | (have H2_ := (Option.bind_some _ _).symm.trans H; with_reducible exact H2_) | with_reducible exact H | (rw [hy142]; exact H) | exact H
                        have Ny142 := Aside0.mk hy142
                        clear hy142
                        have H' := Aside0.mk H
                        clear H
                        have p141 : 0 ≤ (x21_2 : Int) := of_decide_eq_true (by first | (with_reducible assumption) | assumption)
                        have q141 : x21_2 < (l0.length : Int) := of_decide_eq_true (by first | (with_reducible assumption) | assumption)
                        obtain ⟨ad141, e141, hx141_0, hx141_1⟩ := at_T35 HR0.out x21_2 p141 q141
                        cases e141
                        replace hx141_0 := (HB.out.cell (World.block_lt_of_cell? w _ hx141_0)).trans hx141_0
                        replace hx141_1 := (HB.out.cell (World.block_lt_of_cell? w _ hx141_1)).trans hx141_1
                        replace p141 := eq_true p141
                        replace q141 := eq_true q141
                        go_wp2_with (first | ((with_reducible refine gate_builtin (b := .append) (xs := #[.tmp 34, .tmp 41]) rfl ?_); at_builtin; refine Kd.R_append (Kd.int .i64) (w0 := w) w.heap.size rfl (.tmp 34) (.tmp 41) 24 2 (.int .i64 0) 8 rfl Try.underlying24 info2 rfl (by decide) (by omega) u6 x6_2 ji14 [.int .i64 ji14] (fun _ => True) (fun _ => False) rfl rfl ?aP (fun _ hk => hk.elim) ?aF ?aO ?aB ?aS ?aL ?_; (case aP => exact rfl); (case aB => exact (by repeat (first | (with_reducible first | exact HB.out | apply below_alloc | apply pw_below_drewN | apply below_drew1) | exact HB.out))); (case aF => exact (fun _ _ => trivial)); (case aO => exact (by (with_reducible repeat (first | apply Kd.R_alloc | apply Kd.R_drewN | apply Kd.R_drew)); exact HO_6.out)); (case aS => exact (below_size (by repeat (first | (with_reducible first | exact HB.out | apply below_alloc | apply pw_below_drewN | apply below_drew1) | exact HB.out)))); (case aL => have := LMc15.out; omega); intro v143 w16 ho hb hg hat; rw [← Ny142.out] at ho; have n0_ := Aside0.mk (hb); have n1_ := Aside0.mk (ho); clear HB; clear HO_6; have HB := n0_; have HO144 := n1_; clear n0_ n1_; clear ho hb hg hat))
                        go_roundg k2
                        case measure => have := HJ4.out; have := HK2.out; omega
                        case rel => exact ⟨(y142), (500000000000000), (wrap64 (x21_2 + 1)), (by first | rfl | (simp; done) | (simp [*]; done)), (by first | rfl | (simp; done) | (simp [*]; done)), H', ⟨by have := HJ4.out; have := HK2.out; omega⟩, ⟨by (with_reducible repeat (first | apply Kd.R_alloc | apply Kd.R_drewN | apply Kd.R_drew)); exact HO144.out⟩, ⟨by repeat (first | (with_reducible first | exact HB.out | apply below_alloc | apply pw_below_drewN | apply below_drew1) | exact HB.out)⟩⟩
                      · rw [if_neg c15] at H
                        exact absurd H (by simp)
                    · rw [if_neg c12] at H
                      have c12b0 : (x21_2 == (wrap64 ((l0.length : Int) - 1))) = false := beq_eq_false_iff_ne.mpr c12
                      have c12b1 : (x21_2 != (wrap64 ((l0.length : Int) - 1))) = true := bne_iff_ne.mpr c12
                      obtain ⟨ji17, hji17⟩ : ∃ j_ : Int, (mn a1 ((rd_T35 l0 x21_2).f0)) = j_ := ⟨_, rfl⟩
                      replace H : (if x6_2.length < 17592186044416 then (pylonref17_Parts.l0 k2 l0 a1 (x6_2 ++ [mx 0 (wrap64 ((ji17) - x7_2))]) ((rd_T35 l0 x21_2).f0) (l0.length : Int) (wrap64 (x21_2 + 1))) else (none)) = some (r1, r2) := by first | (rw [hji17] at H; exact H) | (simp only [hji17] at H ⊢; exact H)
                      have hji17_ : (if ((rd_T35 l0 x21_2).f0) < a1 then ((rd_T35 l0 x21_2).f0) else a1) = ji17 := hji17
                      obtain ⟨ji18, hji18⟩ : ∃ j_ : Int, (mx 0 (wrap64 ((ji17) - x7_2))) = j_ := ⟨_, rfl⟩
                      replace H : (if x6_2.length < 17592186044416 then (pylonref17_Parts.l0 k2 l0 a1 (x6_2 ++ [ji18]) ((rd_T35 l0 x21_2).f0) (l0.length : Int) (wrap64 (x21_2 + 1))) else (none)) = some (r1, r2) := by first | (rw [hji18] at H; exact H) | (simp only [hji18] at H ⊢; exact H)
                      have hji18_ : (if 0 < (wrap64 ((ji17) - x7_2)) then (wrap64 ((ji17) - x7_2)) else 0) = ji18 := hji18
                      by_cases c19 : x6_2.length < 17592186044416
                      · rw [if_pos c19] at H
                        have LMc19 := Aside0.mk c19
                        clear c19
                        obtain ⟨y145, hy145⟩ : ∃ y_ : List Int, y_ = (x6_2 ++ [ji18]) := ⟨_, rfl⟩
                        replace H : (pylonref17_Parts.l0 k2 l0 a1 y145 ((rd_T35 l0 x21_2).f0) (l0.length : Int) (wrap64 (x21_2 + 1))) = some (r1, r2) := by first | (rw [hy145]; with_reducible exact H) | (have H2_ := (Option.bind_some _ _).symm.trans H; rw [hy145]; with_reducible exact H2_) | (have H2_ := (Option.bind_some _ _).symm.trans H; with_reducible exact H2_) | with_reducible exact H | (rw [hy145]; exact H) | exact H
                        have Ny145 := Aside0.mk hy145
                        clear hy145
                        have H' := Aside0.mk H
                        clear H
                        have p141 : 0 ≤ (x21_2 : Int) := of_decide_eq_true (by first | (with_reducible assumption) | assumption)
                        have q141 : x21_2 < (l0.length : Int) := of_decide_eq_true (by first | (with_reducible assumption) | assumption)
                        obtain ⟨ad141, e141, hx141_0, hx141_1⟩ := at_T35 HR0.out x21_2 p141 q141
                        cases e141
                        replace hx141_0 := (HB.out.cell (World.block_lt_of_cell? w _ hx141_0)).trans hx141_0
                        replace hx141_1 := (HB.out.cell (World.block_lt_of_cell? w _ hx141_1)).trans hx141_1
                        replace p141 := eq_true p141
                        replace q141 := eq_true q141
                        go_wp2_with (first | ((with_reducible refine gate_builtin (b := .append) (xs := #[.tmp 34, .tmp 41]) rfl ?_); at_builtin; refine Kd.R_append (Kd.int .i64) (w0 := w) w.heap.size rfl (.tmp 34) (.tmp 41) 24 2 (.int .i64 0) 8 rfl Try.underlying24 info2 rfl (by decide) (by omega) u6 x6_2 ji18 [.int .i64 ji18] (fun _ => True) (fun _ => False) rfl rfl ?aP (fun _ hk => hk.elim) ?aF ?aO ?aB ?aS ?aL ?_; (case aP => exact rfl); (case aB => exact (by repeat (first | (with_reducible first | exact HB.out | apply below_alloc | apply pw_below_drewN | apply below_drew1) | exact HB.out))); (case aF => exact (fun _ _ => trivial)); (case aO => exact (by (with_reducible repeat (first | apply Kd.R_alloc | apply Kd.R_drewN | apply Kd.R_drew)); exact HO_6.out)); (case aS => exact (below_size (by repeat (first | (with_reducible first | exact HB.out | apply below_alloc | apply pw_below_drewN | apply below_drew1) | exact HB.out)))); (case aL => have := LMc19.out; omega); intro v146 w20 ho hb hg hat; rw [← Ny145.out] at ho; have n0_ := Aside0.mk (hb); have n1_ := Aside0.mk (ho); clear HB; clear HO_6; have HB := n0_; have HO147 := n1_; clear n0_ n1_; clear ho hb hg hat))
                        go_roundg k2
                        case measure => have := HJ4.out; have := HK2.out; omega
                        case rel => exact ⟨(y145), ((rd_T35 l0 x21_2).f0), (wrap64 (x21_2 + 1)), (by first | rfl | (simp; done) | (simp [*]; done)), (by first | rfl | (simp; done) | (simp [*]; done)), H', ⟨by have := HJ4.out; have := HK2.out; omega⟩, ⟨by (with_reducible repeat (first | apply Kd.R_alloc | apply Kd.R_drewN | apply Kd.R_drew)); exact HO147.out⟩, ⟨by repeat (first | (with_reducible first | exact HB.out | apply below_alloc | apply pw_below_drewN | apply below_drew1) | exact HB.out)⟩⟩
                      · rw [if_neg c19] at H
                        exact absurd H (by simp)
                  · rw [if_neg c11] at H
                    exact absurd H (by simp)
                · rw [if_neg c10] at H
                  exact absurd H (by simp)
              · rw [if_neg c9] at H
                have c9b0 : decide (x21_2 < (l0.length : Int)) = false := decide_eq_false c9
                clear c9
                simp only [Option.some.injEq, Prod.mk.injEq] at H
                obtain ⟨rfl, rfl⟩ := H
                go_wp2
                go_ret2
                exact ⟨_, by first | rfl | (simp [errW_none, errW_some] <;> rfl) | (simp [*, errW_none, errW_some] <;> rfl), by (with_reducible repeat (first | apply Kd.R_alloc | apply Kd.R_drewN | apply Kd.R_drew)); exact HO_6.out, by repeat (first | (with_reducible first | exact HB.out | apply below_alloc | apply pw_below_drewN | apply below_drew1) | exact HB.out)⟩
  · replace c4 := Bool.eq_false_iff.mpr c4
    subst c4
    have H1 : (some (([] : List Int), 2)) = some (r1, r2) := by rw [if_neg (show ¬ (false = true) by decide)] at H; exact H
    clear H
    have H := H1
    clear H1
    simp only [Option.some.injEq, Prod.mk.injEq] at H
    obtain ⟨rfl, rfl⟩ := H
    go_enter Try.func10, Try.ntmps10
    go_wp2_with (first | ((with_reducible refine gate_callee (f := 15) rfl ?_); refine goesL_ (some 11) rfl rfl Try.func15 (by kernel_rfl) rfl #[.slice A0 l0.length c0] rfl (by (try simp only [List.map_toArray, List.map_cons, List.map_nil]); first | done | rfl | (simp only [List.length_drop, List.length_take]; rfl)) ?_; (with_reducible refine (pylonref17_Good.calls k _ _ l0 false _ ?side1 ?side2 A3.out).mono ?_); (case side1 => repeat (first | exact HR0.out | (with_reducible refine Kd.C_alloc ?_ _) | (with_reducible refine Kd.C_drewN ?_ _) | (with_reducible refine Kd.C_drew ?_))); (case side2 => exact HC0.out); rintro e w21 ⟨rfl, hb⟩; refine ⟨_, rfl, ?_⟩; have n0_ := Aside0.mk (below_step (by repeat (first | (with_reducible first | exact HB.out | apply below_alloc | apply pw_below_drewN | apply below_drew1) | exact HB.out)) hb); clear HB; have HB := n0_; clear n0_; (try clear hb); (try clear hb2); (try clear hk); (try clear hi)))
    go_ret2
    exact ⟨_, by first | rfl | (simp [errW_none, errW_some] <;> rfl) | (simp [*, errW_none, errW_some] <;> rfl), by first | exact Kd.R_nil _ _ _ _ _ | exact Kd.N_nil _ _ _ _ _ | exact Kd.V_nil _ _ _ _ _ | exact Kd.Q_nil _ _ _ _ _ | exact Kd.S_nil _ _ _ _ _, by repeat (first | (with_reducible first | exact HB.out | apply below_alloc | apply pw_below_drewN | apply below_drew1) | exact HB.out)⟩

/-! ### pylonref01_product: function 26 -/
def pylonref01_product.f (a0 : Int) (a1 : Int) : Option (Int × Int) := some (IntKind.u64.wrap ((IntKind.u64.wrap ((IntKind.u64.wrap ((a0 / 4294967296) * (a1 / 4294967296))) + ((IntKind.u64.wrap ((IntKind.u64.wrap ((a0 / 4294967296) * (Int.tmod a1 4294967296))) + ((IntKind.u64.wrap ((Int.tmod a0 4294967296) * (Int.tmod a1 4294967296))) / 4294967296))) / 4294967296))) + ((IntKind.u64.wrap ((IntKind.u64.wrap ((Int.tmod a0 4294967296) * (a1 / 4294967296))) + (Int.tmod (IntKind.u64.wrap ((IntKind.u64.wrap ((a0 / 4294967296) * (Int.tmod a1 4294967296))) + ((IntKind.u64.wrap ((Int.tmod a0 4294967296) * (Int.tmod a1 4294967296))) / 4294967296))) 4294967296))) / 4294967296)), IntKind.u64.wrap ((IntKind.u64.wrap ((IntKind.u64.wrap ((IntKind.u64.wrap ((Int.tmod a0 4294967296) * (a1 / 4294967296))) + (Int.tmod (IntKind.u64.wrap ((IntKind.u64.wrap ((a0 / 4294967296) * (Int.tmod a1 4294967296))) + ((IntKind.u64.wrap ((Int.tmod a0 4294967296) * (Int.tmod a1 4294967296))) / 4294967296))) 4294967296))) * 4294967296)) + (Int.tmod (IntKind.u64.wrap ((Int.tmod a0 4294967296) * (Int.tmod a1 4294967296))) 4294967296)))
set_option maxHeartbeats 8000000 in
set_option maxRecDepth 100000 in
theorem pylonref01_product.calls (a0 : Int) (a1 : Int) (r1 : Int) (r2 : Int) (w : World) (h : pylonref01_product.f a0 a1 = some (r1, r2)) :
    Calls Try.prog 26 #[.int .u64 a0, .int .u64 a1] w fun e w' => e = .returned (.tuple #[.int .u64 r1, .int .u64 r2]) ∧ Drawn0 w w' := by
  have H : (some (IntKind.u64.wrap ((IntKind.u64.wrap ((IntKind.u64.wrap ((a0 / 4294967296) * (a1 / 4294967296))) + ((IntKind.u64.wrap ((IntKind.u64.wrap ((a0 / 4294967296) * (Int.tmod a1 4294967296))) + ((IntKind.u64.wrap ((Int.tmod a0 4294967296) * (Int.tmod a1 4294967296))) / 4294967296))) / 4294967296))) + ((IntKind.u64.wrap ((IntKind.u64.wrap ((Int.tmod a0 4294967296) * (a1 / 4294967296))) + (Int.tmod (IntKind.u64.wrap ((IntKind.u64.wrap ((a0 / 4294967296) * (Int.tmod a1 4294967296))) + ((IntKind.u64.wrap ((Int.tmod a0 4294967296) * (Int.tmod a1 4294967296))) / 4294967296))) 4294967296))) / 4294967296)), IntKind.u64.wrap ((IntKind.u64.wrap ((IntKind.u64.wrap ((IntKind.u64.wrap ((Int.tmod a0 4294967296) * (a1 / 4294967296))) + (Int.tmod (IntKind.u64.wrap ((IntKind.u64.wrap ((a0 / 4294967296) * (Int.tmod a1 4294967296))) + ((IntKind.u64.wrap ((Int.tmod a0 4294967296) * (Int.tmod a1 4294967296))) / 4294967296))) 4294967296))) * 4294967296)) + (Int.tmod (IntKind.u64.wrap ((Int.tmod a0 4294967296) * (Int.tmod a1 4294967296))) 4294967296)))) = some (r1, r2) := h
  clear h
  simp only [Option.some.injEq, Prod.mk.injEq] at H
  obtain ⟨rfl, rfl⟩ := H
  go_enter Try.func26, Try.ntmps26
  go_wp2
  go_ret2
  exact ⟨by first | rfl | (simp; done) | (simp [*]; done), by repeat (first | exact Drawn0.refl _ | apply Drawn0.step)⟩

/-! ### pylonref01_mag: function 27 -/
def pylonref01_mag.f (a0 : Int) : Option (Int) := if a0 < 0 then (some (IntKind.u64.wrap ((IntKind.u64.wrap (wrap64 (-(wrap64 (a0 + 1))))) + 1))) else (some (IntKind.u64.wrap (a0)))
set_option maxHeartbeats 8000000 in
set_option maxRecDepth 100000 in
theorem pylonref01_mag.calls (a0 : Int) (r : Int) (w : World) (h : pylonref01_mag.f a0 = some r) :
    Calls Try.prog 27 #[.int .i64 a0] w fun e w' => e = .returned (.int .u64 r) ∧ Drawn0 w w' := by
  have H : (if a0 < 0 then (some (IntKind.u64.wrap ((IntKind.u64.wrap (wrap64 (-(wrap64 (a0 + 1))))) + 1))) else (some (IntKind.u64.wrap (a0)))) = some r := h
  clear h
  by_cases c2 : a0 < 0
  · rw [if_pos c2] at H
    have c2b0 : decide (a0 < 0) = true := decide_eq_true c2
    clear c2
    obtain rfl := Option.some.inj H
    go_enter Try.func27, Try.ntmps27
    go_wp2
    go_ret
    exact ⟨by first | rfl | (simp; done) | (simp [*]; done), by repeat (first | exact Drawn0.refl _ | apply Drawn0.step)⟩
  · rw [if_neg c2] at H
    have c2b0 : decide (a0 < 0) = false := decide_eq_false c2
    clear c2
    obtain rfl := Option.some.inj H
    go_enter Try.func27, Try.ntmps27
    go_wp2
    go_ret
    exact ⟨by first | rfl | (simp; done) | (simp [*]; done), by repeat (first | exact Drawn0.refl _ | apply Drawn0.step)⟩

end Go.Proofs.Ythejabcfbbmkeaa.PB
