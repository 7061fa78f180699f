-- Written by a program of this session for this claim (wip/print2.sh). Lean checks it.
import Derived.Test.YtbjkjakilpifhaaPVSx0
import Derived.Test.YtbjkjakilpifhaaPVSx1
import Derived.Test.YtbjkjakilpifhaaPVSx2
namespace Go.Proofs.Ytbjkjakilpifhaa.PVS
open Go.Proofs.YtbjkjakilpifhaaW.PrintWords
attribute [local go_sem high] fx_eql fx_neq fx_lss fx_leq fx_gtr fx_geq fx_add fx_sub fx_mul fx_neg fx_toint cxx_add cxx_sub cxx_mul cxx_eql cxx_neq cxx_pick st_float st_complex
open Go.RowKit Go.Proofs.YtbjkjakilpifhaaW.PrintWords Go.Proofs.YtbjkjakilpifhaaW.PrintLast Go.Proofs.YtbjkjakilpifhaaW.PrintMore
attribute [local go_sem] max2_int min2_int max_two min_two max_three min_three max_four min_four   -- for this text's walks alone
set_option linter.unusedVariables false
set_option linter.unusedSimpArgs false

/-! ### pylonlaw10_awake: function 13 -/
def pylonlaw10_awake.f (k : Nat)  : Option (Bool) := (vee_Check.f k (⟨#[]⟩ : ByteArray) 0 0 3 0 0 (([(⟨0, 0, 0, 0, 65⟩ : S32), (⟨1, 0, 0, 0, 65⟩ : S32), (⟨1, 0, 0, 0, 65⟩ : S32)] : List (S32))) 5 0).bind fun bt117 => (if bt117.1 = 2 then (if bt117.2 = 3 then ((vee_Good.f 0 0 0 0 69).bind fun t119 => (some t119)) else (some false)) else (some false))
theorem pylonlaw10_awake.mono : ∀ k, LeO (pylonlaw10_awake.f k ) (pylonlaw10_awake.f (k + 1) ) := by
  intro  k
  unfold pylonlaw10_awake.f
  repeat' first
      | (with_reducible exact vee_Check.mono _ _ _ _ _ _ _ _ _ _)
      | (with_reducible exact LeO.refl _)
      | (with_reducible exact LeO.none _)
      | (with_reducible refine LeO.ite ?_ ?_)
      | (with_reducible refine LeO.bind ?_ (fun _ => ?_))
      | exact vee_Check.mono _ _ _ _ _ _ _ _ _ _
      | exact LeO.none _
      | refine LeO.ite ?_ ?_
      | refine LeO.bind ?_ (fun _ => ?_)
set_option maxHeartbeats 8000000 in
set_option maxRecDepth 100000 in
theorem pylonlaw10_awake.calls (k : Nat)  (r : Bool) (w : World) (h : pylonlaw10_awake.f k  = some r) :
    Calls Try.prog 13 #[] w fun e w' => e = .returned (.bool r) ∧ Below w.heap.size w w' := by
  have hu32 := Try.underlying32
  have hu24 := Try.underlying24
  have HB := Aside0.mk (Below.refl w.heap.size w)
  have H : ((vee_Check.f k (⟨#[]⟩ : ByteArray) 0 0 3 0 0 (([(⟨0, 0, 0, 0, 65⟩ : S32), (⟨1, 0, 0, 0, 65⟩ : S32), (⟨1, 0, 0, 0, 65⟩ : S32)] : List (S32))) 5 0).bind fun bt117 => (if bt117.1 = 2 then (if bt117.2 = 3 then ((vee_Good.f 0 0 0 0 69).bind fun t119 => (some t119)) else (some false)) else (some false))) = some r := h
  clear h
  obtain ⟨y114, hy114⟩ : ∃ y_ : List (S32), y_ = (([(⟨0, 0, 0, 0, 65⟩ : S32), (⟨1, 0, 0, 0, 65⟩ : S32), (⟨1, 0, 0, 0, 65⟩ : S32)] : List (S32))) := ⟨_, rfl⟩
  replace H : ((vee_Check.f k (⟨#[]⟩ : ByteArray) 0 0 3 0 0 y114 5 0).bind fun bt117 => (if bt117.1 = 2 then (if bt117.2 = 3 then ((vee_Good.f 0 0 0 0 69).bind fun t119 => (some t119)) else (some false)) else (some false))) = some r := by first | (rw [hy114]; with_reducible exact H) | (have H2_ := (Option.bind_some _ _).symm.trans H; rw [hy114]; with_reducible exact H2_) | (have H2_ := (Option.bind_some _ _).symm.trans H; with_reducible exact H2_) | with_reducible exact H | (rw [hy114]; exact H) | exact H
  have Ny114 := Aside0.mk hy114
  clear hy114
  replace H := Option.bind_eq_some_iff.mp H
  obtain ⟨⟨t117, t118⟩, A10, H⟩ := H
  replace H : (if t117 = 2 then (if t118 = 3 then ((vee_Good.f 0 0 0 0 69).bind fun t119 => (some t119)) else (some false)) else (some false)) = some r := H
  have A1 := Aside0.mk A10
  clear A10
  by_cases c2 : t117 = 2
  · rw [if_pos c2] at H
    have c2b0 : (t117 == 2) = true := beq_iff_eq.mpr c2
    have c2b1 : (t117 != 2) = false := bne_eq_false_iff_eq.mpr c2
    clear c2
    by_cases c3 : t118 = 3
    · rw [if_pos c3] at H
      have c3b0 : (t118 == 3) = true := beq_iff_eq.mpr c3
      have c3b1 : (t118 != 3) = false := bne_eq_false_iff_eq.mpr c3
      clear c3
      replace H := Option.bind_eq_some_iff.mp H
      obtain ⟨t119, A40, H⟩ := H
      replace H : (some t119) = some r := H
      have A4 := Aside0.mk A40
      clear A40
      obtain rfl := Option.some.inj H
      go_enter Try.func13, Try.ntmps13
      go_wp2_with (first | ((with_reducible refine gate_dst (N := 7) rfl ?_); refine Kd.R_lit k32 _ 32 ?hg (N := 7) ?hd (xs := ([(⟨0, 0, 0, 0, 65⟩ : S32), (⟨1, 0, 0, 0, 65⟩ : S32), (⟨1, 0, 0, 0, 65⟩ : S32)] : List (S32))) (inner := [.int .i64 0, .int .i64 0, .int .i64 0, .int .i64 0, .int .u8 65, .int .i64 1, .int .i64 0, .int .i64 0, .int .i64 0, .int .u8 65, .int .i64 1, .int .i64 0, .int .i64 0, .int .i64 0, .int .u8 65]) (ok := fun _ => True) (okp := fun _ => True) ?hr ?hp (fun _ hk => hk) trivial (Below.refl _ _) (Nat.le_refl _) (by simp) ?_; (case hd => rfl); (case hg => rfl); (case hr => first | (go_simp; done) | (go_simp; rfl)); (case hp => exact (Reps.c5 (show Kd.M k32 _ _ _ (⟨0, 0, 0, 0, 65⟩ : S32) [.int .i64 0, .int .i64 0, .int .i64 0, .int .i64 0, .int .u8 65] from (k32_mkM _ _ _ (⟨0, 0, 0, 0, 65⟩ : S32) )) (Reps.c5 (show Kd.M k32 _ _ _ (⟨1, 0, 0, 0, 65⟩ : S32) [.int .i64 1, .int .i64 0, .int .i64 0, .int .i64 0, .int .u8 65] from (k32_mkM _ _ _ (⟨1, 0, 0, 0, 65⟩ : S32) )) (Reps.c5 (show Kd.M k32 _ _ _ (⟨1, 0, 0, 0, 65⟩ : S32) [.int .i64 1, .int .i64 0, .int .i64 0, .int .i64 0, .int .u8 65] from (k32_mkM _ _ _ (⟨1, 0, 0, 0, 65⟩ : S32) )) (Reps.none _ _))))); intro v115 w5 ho6 hb hg_ hnew_; clear hg_ hnew_; (first | rw [← Ny114.out] at ho6 | (simp only [Int.reduceToNat] at ho6; rw [← Ny114.out] at ho6)); have n0_ := Aside0.mk (Kd.R_lower ho6 (below_size (by repeat (first | (with_reducible first | exact HB.out | apply below_alloc | apply pw_below_drewN | apply below_drew1) | exact HB.out)))); have n1_ := Aside0.mk (below_step (by repeat (first | (with_reducible first | exact HB.out | apply below_alloc | apply pw_below_drewN | apply below_drew1) | exact HB.out)) hb); clear HB; have HO116 := n0_; have HB := n1_; clear n0_ n1_; clear hb ho6; obtain ⟨Ao7, co7, eo7⟩ := Kd.R_slice HO116.out; subst eo7) | ((with_reducible refine gate_callee (f := 15) rfl ?_); refine goesL_ (some 9) rfl rfl Try.func15 (by kernel_rfl) rfl #[.agg #[.string (⟨#[]⟩ : ByteArray), .int .i64 0, .int .i64 0, .int .i64 3, .int .i64 0, .int .i64 0, .slice Ao7 y114.length co7], .int .i64 5, .int .i64 0] rfl (by (try simp only [List.map_toArray, List.map_cons, List.map_nil]); first | done | rfl | (simp only [List.length_drop, List.length_take]; rfl)) ?_; (with_reducible refine (vee_Check.calls k (⟨#[]⟩ : ByteArray) 0 0 3 0 0 _ _ y114 5 0 t117 t118 _ ?side1 ?side2 A1.out).mono ?_); (case side1 => repeat (first | exact (Kd.R_reads' HO116.out).2.2 | (with_reducible refine Kd.C_alloc ?_ _) | (with_reducible refine Kd.C_drewN ?_ _) | (with_reducible refine Kd.C_drew ?_))); (case side2 => exact (Kd.R_reads' HO116.out).2.1); rintro e w8 ⟨rfl, hb⟩; refine ⟨_, rfl, ?_⟩; have n0_ := Aside0.mk (Kd.R_below (by (with_reducible repeat (first | apply Kd.R_alloc | apply Kd.R_drewN | apply Kd.R_drew)); exact HO116.out) hb); have n1_ := Aside0.mk (below_step (by repeat (first | (with_reducible first | exact HB.out | apply below_alloc | apply pw_below_drewN | apply below_drew1) | exact HB.out)) hb); clear HO116; clear HB; have HO116 := n0_; have HB := n1_; clear n0_ n1_; (try clear hb); (try clear hb2); (try clear hk); (try clear hi)) | (go_at_call 17; (with_reducible refine (vee_Good.calls 0 0 0 0 69 t119 _ A4.out).mono ?_); rintro e w9 ⟨rfl, hb⟩; have n0_ := Aside0.mk (Kd.R_below (by (with_reducible repeat (first | apply Kd.R_alloc | apply Kd.R_drewN | apply Kd.R_drew)); exact HO116.out) hb); have n1_ := Aside0.mk (below_step (by repeat (first | (with_reducible first | exact HB.out | apply below_alloc | apply pw_below_drewN | apply below_drew1) | exact HB.out)) hb); clear HO116; clear HB; have HO116 := n0_; have HB := n1_; clear n0_ n1_; (try clear hb); (try clear hb2); (try clear hk); (try clear hi)))
      go_ret
      exact ⟨by first | rfl | (simp [errW_none, errW_some] <;> rfl) | (simp [*, errW_none, errW_some] <;> rfl), by repeat (first | (with_reducible first | exact HB.out | apply below_alloc | apply pw_below_drewN | apply below_drew1) | exact HB.out)⟩
    · rw [if_neg c3] at H
      have c3b0 : (t118 == 3) = false := beq_eq_false_iff_ne.mpr c3
      have c3b1 : (t118 != 3) = true := bne_iff_ne.mpr c3
      obtain rfl := Option.some.inj H
      go_enter Try.func13, Try.ntmps13
      go_wp2_with (first | ((with_reducible refine gate_dst (N := 7) rfl ?_); refine Kd.R_lit k32 _ 32 ?hg (N := 7) ?hd (xs := ([(⟨0, 0, 0, 0, 65⟩ : S32), (⟨1, 0, 0, 0, 65⟩ : S32), (⟨1, 0, 0, 0, 65⟩ : S32)] : List (S32))) (inner := [.int .i64 0, .int .i64 0, .int .i64 0, .int .i64 0, .int .u8 65, .int .i64 1, .int .i64 0, .int .i64 0, .int .i64 0, .int .u8 65, .int .i64 1, .int .i64 0, .int .i64 0, .int .i64 0, .int .u8 65]) (ok := fun _ => True) (okp := fun _ => True) ?hr ?hp (fun _ hk => hk) trivial (Below.refl _ _) (Nat.le_refl _) (by simp) ?_; (case hd => rfl); (case hg => rfl); (case hr => first | (go_simp; done) | (go_simp; rfl)); (case hp => exact (Reps.c5 (show Kd.M k32 _ _ _ (⟨0, 0, 0, 0, 65⟩ : S32) [.int .i64 0, .int .i64 0, .int .i64 0, .int .i64 0, .int .u8 65] from (k32_mkM _ _ _ (⟨0, 0, 0, 0, 65⟩ : S32) )) (Reps.c5 (show Kd.M k32 _ _ _ (⟨1, 0, 0, 0, 65⟩ : S32) [.int .i64 1, .int .i64 0, .int .i64 0, .int .i64 0, .int .u8 65] from (k32_mkM _ _ _ (⟨1, 0, 0, 0, 65⟩ : S32) )) (Reps.c5 (show Kd.M k32 _ _ _ (⟨1, 0, 0, 0, 65⟩ : S32) [.int .i64 1, .int .i64 0, .int .i64 0, .int .i64 0, .int .u8 65] from (k32_mkM _ _ _ (⟨1, 0, 0, 0, 65⟩ : S32) )) (Reps.none _ _))))); intro v115 w10 ho11 hb hg_ hnew_; clear hg_ hnew_; (first | rw [← Ny114.out] at ho11 | (simp only [Int.reduceToNat] at ho11; rw [← Ny114.out] at ho11)); have n0_ := Aside0.mk (Kd.R_lower ho11 (below_size (by repeat (first | (with_reducible first | exact HB.out | apply below_alloc | apply pw_below_drewN | apply below_drew1) | exact HB.out)))); have n1_ := Aside0.mk (below_step (by repeat (first | (with_reducible first | exact HB.out | apply below_alloc | apply pw_below_drewN | apply below_drew1) | exact HB.out)) hb); clear HB; have HO116 := n0_; have HB := n1_; clear n0_ n1_; clear hb ho11; obtain ⟨Ao12, co12, eo12⟩ := Kd.R_slice HO116.out; subst eo12) | ((with_reducible refine gate_callee (f := 15) rfl ?_); refine goesL_ (some 9) rfl rfl Try.func15 (by kernel_rfl) rfl #[.agg #[.string (⟨#[]⟩ : ByteArray), .int .i64 0, .int .i64 0, .int .i64 3, .int .i64 0, .int .i64 0, .slice Ao12 y114.length co12], .int .i64 5, .int .i64 0] rfl (by (try simp only [List.map_toArray, List.map_cons, List.map_nil]); first | done | rfl | (simp only [List.length_drop, List.length_take]; rfl)) ?_; (with_reducible refine (vee_Check.calls k (⟨#[]⟩ : ByteArray) 0 0 3 0 0 _ _ y114 5 0 t117 t118 _ ?side1 ?side2 A1.out).mono ?_); (case side1 => repeat (first | exact (Kd.R_reads' HO116.out).2.2 | (with_reducible refine Kd.C_alloc ?_ _) | (with_reducible refine Kd.C_drewN ?_ _) | (with_reducible refine Kd.C_drew ?_))); (case side2 => exact (Kd.R_reads' HO116.out).2.1); rintro e w13 ⟨rfl, hb⟩; refine ⟨_, rfl, ?_⟩; have n0_ := Aside0.mk (Kd.R_below (by (with_reducible repeat (first | apply Kd.R_alloc | apply Kd.R_drewN | apply Kd.R_drew)); exact HO116.out) hb); have n1_ := Aside0.mk (below_step (by repeat (first | (with_reducible first | exact HB.out | apply below_alloc | apply pw_below_drewN | apply below_drew1) | exact HB.out)) hb); clear HO116; clear HB; have HO116 := n0_; have HB := n1_; clear n0_ n1_; (try clear hb); (try clear hb2); (try clear hk); (try clear hi)))
      go_ret
      exact ⟨by first | rfl | (simp [errW_none, errW_some] <;> rfl) | (simp [*, errW_none, errW_some] <;> rfl), by repeat (first | (with_reducible first | exact HB.out | apply below_alloc | apply pw_below_drewN | apply below_drew1) | exact HB.out)⟩
  · rw [if_neg c2] at H
    have c2b0 : (t117 == 2) = false := beq_eq_false_iff_ne.mpr c2
    have c2b1 : (t117 != 2) = true := bne_iff_ne.mpr c2
    obtain rfl := Option.some.inj H
    go_enter Try.func13, Try.ntmps13
    go_wp2_with (first | ((with_reducible refine gate_dst (N := 7) rfl ?_); refine Kd.R_lit k32 _ 32 ?hg (N := 7) ?hd (xs := ([(⟨0, 0, 0, 0, 65⟩ : S32), (⟨1, 0, 0, 0, 65⟩ : S32), (⟨1, 0, 0, 0, 65⟩ : S32)] : List (S32))) (inner := [.int .i64 0, .int .i64 0, .int .i64 0, .int .i64 0, .int .u8 65, .int .i64 1, .int .i64 0, .int .i64 0, .int .i64 0, .int .u8 65, .int .i64 1, .int .i64 0, .int .i64 0, .int .i64 0, .int .u8 65]) (ok := fun _ => True) (okp := fun _ => True) ?hr ?hp (fun _ hk => hk) trivial (Below.refl _ _) (Nat.le_refl _) (by simp) ?_; (case hd => rfl); (case hg => rfl); (case hr => first | (go_simp; done) | (go_simp; rfl)); (case hp => exact (Reps.c5 (show Kd.M k32 _ _ _ (⟨0, 0, 0, 0, 65⟩ : S32) [.int .i64 0, .int .i64 0, .int .i64 0, .int .i64 0, .int .u8 65] from (k32_mkM _ _ _ (⟨0, 0, 0, 0, 65⟩ : S32) )) (Reps.c5 (show Kd.M k32 _ _ _ (⟨1, 0, 0, 0, 65⟩ : S32) [.int .i64 1, .int .i64 0, .int .i64 0, .int .i64 0, .int .u8 65] from (k32_mkM _ _ _ (⟨1, 0, 0, 0, 65⟩ : S32) )) (Reps.c5 (show Kd.M k32 _ _ _ (⟨1, 0, 0, 0, 65⟩ : S32) [.int .i64 1, .int .i64 0, .int .i64 0, .int .i64 0, .int .u8 65] from (k32_mkM _ _ _ (⟨1, 0, 0, 0, 65⟩ : S32) )) (Reps.none _ _))))); intro v115 w14 ho15 hb hg_ hnew_; clear hg_ hnew_; (first | rw [← Ny114.out] at ho15 | (simp only [Int.reduceToNat] at ho15; rw [← Ny114.out] at ho15)); have n0_ := Aside0.mk (Kd.R_lower ho15 (below_size (by repeat (first | (with_reducible first | exact HB.out | apply below_alloc | apply pw_below_drewN | apply below_drew1) | exact HB.out)))); have n1_ := Aside0.mk (below_step (by repeat (first | (with_reducible first | exact HB.out | apply below_alloc | apply pw_below_drewN | apply below_drew1) | exact HB.out)) hb); clear HB; have HO116 := n0_; have HB := n1_; clear n0_ n1_; clear hb ho15; obtain ⟨Ao16, co16, eo16⟩ := Kd.R_slice HO116.out; subst eo16) | ((with_reducible refine gate_callee (f := 15) rfl ?_); refine goesL_ (some 9) rfl rfl Try.func15 (by kernel_rfl) rfl #[.agg #[.string (⟨#[]⟩ : ByteArray), .int .i64 0, .int .i64 0, .int .i64 3, .int .i64 0, .int .i64 0, .slice Ao16 y114.length co16], .int .i64 5, .int .i64 0] rfl (by (try simp only [List.map_toArray, List.map_cons, List.map_nil]); first | done | rfl | (simp only [List.length_drop, List.length_take]; rfl)) ?_; (with_reducible refine (vee_Check.calls k (⟨#[]⟩ : ByteArray) 0 0 3 0 0 _ _ y114 5 0 t117 t118 _ ?side1 ?side2 A1.out).mono ?_); (case side1 => repeat (first | exact (Kd.R_reads' HO116.out).2.2 | (with_reducible refine Kd.C_alloc ?_ _) | (with_reducible refine Kd.C_drewN ?_ _) | (with_reducible refine Kd.C_drew ?_))); (case side2 => exact (Kd.R_reads' HO116.out).2.1); rintro e w17 ⟨rfl, hb⟩; refine ⟨_, rfl, ?_⟩; have n0_ := Aside0.mk (Kd.R_below (by (with_reducible repeat (first | apply Kd.R_alloc | apply Kd.R_drewN | apply Kd.R_drew)); exact HO116.out) hb); have n1_ := Aside0.mk (below_step (by repeat (first | (with_reducible first | exact HB.out | apply below_alloc | apply pw_below_drewN | apply below_drew1) | exact HB.out)) hb); clear HO116; clear HB; have HO116 := n0_; have HB := n1_; clear n0_ n1_; (try clear hb); (try clear hb2); (try clear hk); (try clear hi)))
    go_ret
    exact ⟨by first | rfl | (simp [errW_none, errW_some] <;> rfl) | (simp [*, errW_none, errW_some] <;> rfl), by repeat (first | (with_reducible first | exact HB.out | apply below_alloc | apply pw_below_drewN | apply below_drew1) | exact HB.out)⟩

/-! ### pylonlaw10_copyFile: function 16 -/
def pylonlaw10_copyFile.f (a0_0 : ByteArray) (a0_1 : Int) (a0_2 : Int) (a0_3 : Int) (a0_4 : Int) (a0_5 : Int) (l0_6 : List (S32)) : Option (ByteArray × Int × Int × Int × Int × Int × (List (S32))) := (some (([] : List (S32)) : List (S32))).bind fun y122 => (if y122.length + l0_6.length < 3518437208883 then (some (a0_0, a0_1, a0_2, a0_3, a0_4, a0_5, (y122 ++ l0_6))) else (none))
set_option maxHeartbeats 8000000 in
set_option maxRecDepth 100000 in
theorem pylonlaw10_copyFile.calls (a0_0 : ByteArray) (a0_1 : Int) (a0_2 : Int) (a0_3 : Int) (a0_4 : Int) (a0_5 : Int) (A0_6 : Option Addr) (c0_6 : Nat) (l0_6 : List (S32)) (r1 : ByteArray) (r2 : Int) (r3 : Int) (r4 : Int) (r5 : Int) (r6 : Int) (r7 : List (S32)) (w : World) (hr0_6 : Kd.C k32 w A0_6 l0_6.length l0_6) (hc0_6 : l0_6.length ≤ c0_6) (h : pylonlaw10_copyFile.f a0_0 a0_1 a0_2 a0_3 a0_4 a0_5 l0_6 = some (r1, r2, r3, r4, r5, r6, r7)) :
    Calls Try.prog 16 #[.agg #[.string a0_0, .int .i64 a0_1, .int .i64 a0_2, .int .i64 a0_3, .int .i64 a0_4, .int .i64 a0_5, .slice A0_6 l0_6.length c0_6]] w fun e w' => ∃ v6_ : Value, e = .returned (.agg #[.string r1, .int .i64 r2, .int .i64 r3, .int .i64 r4, .int .i64 r5, .int .i64 r6, v6_]) ∧ Kd.R k32 32 w' w.heap.size (fun _ => True) v6_ r7 ∧ Below w.heap.size w w' := by
  have hu24 := Try.underlying24
  have HR0_6 := Aside0.mk hr0_6
  have HC0_6 := Aside0.mk hc0_6
  clear hr0_6 hc0_6
  have HB := Aside0.mk (Below.refl w.heap.size w)
  have H : ((some (([] : List (S32)) : List (S32))).bind fun y122 => (if y122.length + l0_6.length < 3518437208883 then (some (a0_0, a0_1, a0_2, a0_3, a0_4, a0_5, (y122 ++ l0_6))) else (none))) = some (r1, r2, r3, r4, r5, r6, r7) := h
  clear h
  obtain ⟨y122, hy122⟩ : ∃ y_ : List (S32), y_ = (([] : List (S32))) := ⟨_, rfl⟩
  replace H : (if y122.length + l0_6.length < 3518437208883 then (some (a0_0, a0_1, a0_2, a0_3, a0_4, a0_5, (y122 ++ l0_6))) else (none)) = some (r1, r2, r3, r4, r5, r6, r7) := by first | (rw [hy122]; with_reducible exact H) | (have H2_ := (Option.bind_some _ _).symm.trans H; rw [hy122]; with_reducible exact H2_) | (have H2_ := (Option.bind_some _ _).symm.trans H; with_reducible exact H2_) | with_reducible exact H | (rw [hy122]; exact H) | exact H
  have Ny122 := Aside0.mk hy122
  clear hy122
  by_cases c2 : y122.length + l0_6.length < 3518437208883
  · rw [if_pos c2] at H
    have LMc2 := Aside0.mk c2
    clear c2
    obtain ⟨y125, hy125⟩ : ∃ y_ : List (S32), y_ = (y122 ++ l0_6) := ⟨_, rfl⟩
    replace H : (some (a0_0, a0_1, a0_2, a0_3, a0_4, a0_5, y125)) = some (r1, r2, r3, r4, r5, r6, r7) := by first | (rw [hy125]; with_reducible exact H) | (have H2_ := (Option.bind_some _ _).symm.trans H; rw [hy125]; with_reducible exact H2_) | (have H2_ := (Option.bind_some _ _).symm.trans H; with_reducible exact H2_) | with_reducible exact H | (rw [hy125]; exact H) | exact H
    have Ny125 := Aside0.mk hy125
    clear hy125
    simp only [Option.some.injEq, Prod.mk.injEq] at H
    obtain ⟨rfl, rfl, rfl, rfl, rfl, rfl, rfl⟩ := H
    go_enter Try.func16, Try.ntmps16
    go_wp2_with (first | ((with_reducible refine gate_dst (N := 1) rfl ?_); refine box_event ?hg (N := 1) ?hd (cs := #[.string a0_0, .int .i64 a0_1, .int .i64 a0_2, .int .i64 a0_3, .int .i64 a0_4, .int .i64 a0_5, .slice A0_6 l0_6.length c0_6]) (t := 24) ?hr ?_; (case hd => rfl); (case hg => rfl); (case hr => first | (go_simp; done) | (go_simp; rfl)); intro gb120 hg w3 hbox hb; have n0_ := Aside0.mk (below_step (by repeat (first | (with_reducible first | exact HB.out | apply below_alloc | apply pw_below_drewN | apply below_drew1) | exact HB.out)) hb); have n1_ := Aside0.mk (hbox); have n2_ := Aside0.mk ((by rw [hg]; exact (below_size (by repeat (first | (with_reducible first | exact HB.out | apply below_alloc | apply pw_below_drewN | apply below_drew1) | exact HB.out))) : w.heap.size ≤ gb120)); have n3_ := Aside0.mk ((by rw [hg]; exact (below_size (by repeat (first | (with_reducible first | exact HB.out | apply below_alloc | apply pw_below_drewN | apply below_drew1) | exact HB.out))) : w.heap.size ≤ gb120)); clear HB; have HB := n0_; have BK120 := n1_; have GW120 := n2_; have GE120 := n3_; clear n0_ n1_ n2_ n3_; clear hb hbox hg) | ((with_reducible refine gate_dst (N := 2) rfl ?_); refine box_event ?hg (N := 2) ?hd (cs := #[.string (⟨#[]⟩ : ByteArray), .int .i64 0, .int .i64 0, .int .i64 0, .int .i64 0, .int .i64 0, .slice none 0 0]) (t := 24) ?hr ?_; (case hd => rfl); (case hg => rfl); (case hr => first | (go_simp; done) | (go_simp; rfl)); intro gb121 hg w4 hbox hb; have n0_ := Aside0.mk (blk_below (g := gb120) (o := .cells #[.string a0_0, .int .i64 a0_1, .int .i64 a0_2, .int .i64 a0_3, .int .i64 a0_4, .int .i64 a0_5, .slice A0_6 l0_6.length c0_6] 24 (0, 0)) (by (with_reducible repeat (first | refine blk_drewN ?_ _ | refine blk_drew ?_ | refine blk_alloc ?_ _)); exact BK120.out) hb); have n1_ := Aside0.mk (below_step (by repeat (first | (with_reducible first | exact HB.out | apply below_alloc | apply pw_below_drewN | apply below_drew1 | refine below_set ?_ GE120.out) | exact HB.out)) hb); have n2_ := Aside0.mk (hbox); have n3_ := Aside0.mk ((by rw [hg]; exact (below_size (by repeat (first | (with_reducible first | exact HB.out | apply below_alloc | apply pw_below_drewN | apply below_drew1 | refine below_set ?_ GE120.out) | exact HB.out))) : w.heap.size ≤ gb121)); have n4_ := Aside0.mk ((by rw [hg]; exact (below_size (by repeat (first | (with_reducible first | exact HB.out | apply below_alloc | apply pw_below_drewN | apply below_drew1 | refine below_set ?_ GE120.out) | exact HB.out))) : w.heap.size ≤ gb121)); have n5_ := Aside0.mk ((by rw [hg]; exact Nat.ne_of_lt (blk_lt (g := gb120) (o := .cells #[.string a0_0, .int .i64 a0_1, .int .i64 a0_2, .int .i64 a0_3, .int .i64 a0_4, .int .i64 a0_5, .slice A0_6 l0_6.length c0_6] 24 (0, 0)) (by (with_reducible repeat (first | refine blk_drewN ?_ _ | refine blk_drew ?_ | refine blk_alloc ?_ _)); exact BK120.out)) : gb120 ≠ gb121)); have n6_ := Aside0.mk ((by rw [hg]; exact Nat.ne_of_gt (blk_lt (g := gb120) (o := .cells #[.string a0_0, .int .i64 a0_1, .int .i64 a0_2, .int .i64 a0_3, .int .i64 a0_4, .int .i64 a0_5, .slice A0_6 l0_6.length c0_6] 24 (0, 0)) (by (with_reducible repeat (first | refine blk_drewN ?_ _ | refine blk_drew ?_ | refine blk_alloc ?_ _)); exact BK120.out)) : gb121 ≠ gb120)); clear BK120; clear HB; have BK120 := n0_; have HB := n1_; have BK121 := n2_; have GW121 := n3_; have GE121 := n4_; have NB120_121 := n5_; have NB121_120 := n6_; clear n0_ n1_ n2_ n3_ n4_ n5_ n6_; clear hb hbox hg) | ((with_reducible refine gate_dst (N := 3) rfl ?_); refine Kd.R_lit k32 _ 32 ?hg (N := 3) ?hd (xs := ([] : List (S32))) (inner := []) (ok := fun _ => True) (okp := fun _ => True) ?hr ?hp (fun _ hk => hk) trivial (Below.refl _ _) (Nat.le_refl _) (by simp) ?_; (case hd => rfl); (case hg => rfl); (case hr => first | (go_simp; done) | (go_simp; rfl)); (case hp => exact (Reps.none _ _)); intro v123 w5 ho6 hb hg_ hnew_; clear hg_ hnew_; (first | rw [← Ny122.out] at ho6 | (simp only [Int.reduceToNat] at ho6; rw [← Ny122.out] at ho6)); have n0_ := Aside0.mk (Kd.R_lower ho6 (below_size (by repeat (first | (with_reducible first | exact HB.out | apply below_alloc | apply pw_below_drewN | apply below_drew1 | refine below_set ?_ GE120.out | refine below_set ?_ GE121.out) | exact HB.out)))); have n1_ := Aside0.mk (blk_below (g := gb120) (o := .cells #[.string a0_0, .int .i64 a0_1, .int .i64 a0_2, .int .i64 a0_3, .int .i64 a0_4, .int .i64 a0_5, .slice A0_6 l0_6.length c0_6] 24 (0, 0)) (by (with_reducible repeat (first | refine blk_drewN ?_ _ | refine blk_drew ?_ | refine blk_alloc ?_ _)); exact BK120.out) hb); have n2_ := Aside0.mk (blk_below (g := gb121) (o := .cells #[.string (⟨#[]⟩ : ByteArray), .int .i64 0, .int .i64 0, .int .i64 0, .int .i64 0, .int .i64 0, .slice none 0 0] 24 (0, 0)) (by (with_reducible repeat (first | refine blk_drewN ?_ _ | refine blk_drew ?_ | refine blk_alloc ?_ _)); exact BK121.out) hb); have n3_ := Aside0.mk (below_step (by repeat (first | (with_reducible first | exact HB.out | apply below_alloc | apply pw_below_drewN | apply below_drew1 | refine below_set ?_ GE120.out | refine below_set ?_ GE121.out) | exact HB.out)) hb); clear BK120; clear BK121; clear HB; have HO124 := n0_; have BK120 := n1_; have BK121 := n2_; have HB := n3_; clear n0_ n1_ n2_ n3_; clear hb ho6; have hnb7 := NB120_121.out; have hnc7 := NB121_120.out; have hcz8_0 : w5.cell? ⟨gb120, 0, none⟩ = some (.string a0_0) := (blk_cell BK120.out 0).trans rfl; have hcz8_1 : w5.cell? ⟨gb120, 1, none⟩ = some (.int .i64 a0_1) := (blk_cell BK120.out 1).trans rfl; have hcz8_2 : w5.cell? ⟨gb120, 2, none⟩ = some (.int .i64 a0_2) := (blk_cell BK120.out 2).trans rfl; have hcz8_3 : w5.cell? ⟨gb120, 3, none⟩ = some (.int .i64 a0_3) := (blk_cell BK120.out 3).trans rfl; have hcz8_4 : w5.cell? ⟨gb120, 4, none⟩ = some (.int .i64 a0_4) := (blk_cell BK120.out 4).trans rfl; have hcz8_5 : w5.cell? ⟨gb120, 5, none⟩ = some (.int .i64 a0_5) := (blk_cell BK120.out 5).trans rfl; have hcz8_6 : w5.cell? ⟨gb120, 6, none⟩ = some (.slice A0_6 l0_6.length c0_6) := (blk_cell BK120.out 6).trans rfl; have hfz8_0 := blk_frozen BK120.out 0; have hfz8_1 := blk_frozen BK120.out 1; have hfz8_2 := blk_frozen BK120.out 2; have hfz8_3 := blk_frozen BK120.out 3; have hfz8_4 := blk_frozen BK120.out 4; have hfz8_5 := blk_frozen BK120.out 5; have hfz8_6 := blk_frozen BK120.out 6) | ((with_reducible refine gate_builtin (b := .append) (xs := #[.tmp 3, .tmp 5]) rfl ?_); at_builtin; refine Kd.R_append_rows k32 (w0 := w) w.heap.size rfl (.tmp 3) (.tmp 5) 22 32 (.agg #[(.int .i64 0), (.int .i64 0), (.int .i64 0), (.int .i64 0), (.int .u8 0)]) 40 rfl Try.underlying22 info32 rfl (by decide) (by omega) v123 y122 l0_6 _ _ _ (fun _ => True) (fun _ => False) rfl rfl ?aO ?aR (fun _ _ h => h) (fun _ h => h.elim) ?aF ?aB ?aS ?aL ?_; (case aR => repeat (first | exact (Kd.C_below HR0_6.out HB.out) | (with_reducible refine Kd.C_alloc ?_ _) | (with_reducible refine Kd.C_drewN ?_ _) | (with_reducible refine Kd.C_drew ?_))); (case aB => exact (by repeat (first | (with_reducible first | exact HB.out | apply below_alloc | apply pw_below_drewN | apply below_drew1 | refine below_set ?_ GE120.out | refine below_set ?_ GE121.out) | exact HB.out))); (case aF => exact (fun _ _ => trivial)); (case aO => exact (by (with_reducible repeat (first | apply Kd.R_alloc | apply Kd.R_drewN | apply Kd.R_drew)); exact HO124.out)); (case aS => exact (below_size (by repeat (first | (with_reducible first | exact HB.out | apply below_alloc | apply pw_below_drewN | apply below_drew1 | refine below_set ?_ GE120.out | refine below_set ?_ GE121.out) | exact HB.out)))); (case aL => have := LMc2.out; omega); intro v126 w9 ho hb hg hat; rw [← Ny125.out] at ho; have n0_ := Aside0.mk (blk_grown (g := gb120) (o := .cells #[.string a0_0, .int .i64 a0_1, .int .i64 a0_2, .int .i64 a0_3, .int .i64 a0_4, .int .i64 a0_5, .slice A0_6 l0_6.length c0_6] 24 (0, 0)) (by (with_reducible repeat (first | refine blk_drewN ?_ _ | refine blk_drew ?_ | refine blk_alloc ?_ _)); exact BK120.out) hg (Kd.R_ne HO124.out BK120.out (by decide))); have n1_ := Aside0.mk (blk_grown (g := gb121) (o := .cells #[.string (⟨#[]⟩ : ByteArray), .int .i64 0, .int .i64 0, .int .i64 0, .int .i64 0, .int .i64 0, .slice none 0 0] 24 (0, 0)) (by (with_reducible repeat (first | refine blk_drewN ?_ _ | refine blk_drew ?_ | refine blk_alloc ?_ _)); exact BK121.out) hg (Kd.R_ne HO124.out BK121.out (by decide))); have n2_ := Aside0.mk (hb); have n3_ := Aside0.mk (ho); clear BK120; clear BK121; clear HB; clear HO124; have BK120 := n0_; have BK121 := n1_; have HB := n2_; have HO127 := n3_; clear n0_ n1_ n2_ n3_; clear ho hb hg hat; obtain ⟨Ao10, co10, eo10⟩ := Kd.R_slice HO127.out; subst eo10; have hcz11_0 : w9.cell? ⟨gb120, 0, none⟩ = some (.string a0_0) := (blk_cell BK120.out 0).trans rfl; have hcz11_1 : w9.cell? ⟨gb120, 1, none⟩ = some (.int .i64 a0_1) := (blk_cell BK120.out 1).trans rfl; have hcz11_2 : w9.cell? ⟨gb120, 2, none⟩ = some (.int .i64 a0_2) := (blk_cell BK120.out 2).trans rfl; have hcz11_3 : w9.cell? ⟨gb120, 3, none⟩ = some (.int .i64 a0_3) := (blk_cell BK120.out 3).trans rfl; have hcz11_4 : w9.cell? ⟨gb120, 4, none⟩ = some (.int .i64 a0_4) := (blk_cell BK120.out 4).trans rfl; have hcz11_5 : w9.cell? ⟨gb120, 5, none⟩ = some (.int .i64 a0_5) := (blk_cell BK120.out 5).trans rfl; have hcz11_6 : w9.cell? ⟨gb120, 6, none⟩ = some (.slice A0_6 l0_6.length c0_6) := (blk_cell BK120.out 6).trans rfl; have hfz11_0 := blk_frozen BK120.out 0; have hfz11_1 := blk_frozen BK120.out 1; have hfz11_2 := blk_frozen BK120.out 2; have hfz11_3 := blk_frozen BK120.out 3; have hfz11_4 := blk_frozen BK120.out 4; have hfz11_5 := blk_frozen BK120.out 5; have hfz11_6 := blk_frozen BK120.out 6; have hcz12_0 : w9.cell? ⟨gb121, 0, none⟩ = some (.string (⟨#[]⟩ : ByteArray)) := (blk_cell BK121.out 0).trans rfl; have hcz12_1 : w9.cell? ⟨gb121, 1, none⟩ = some (.int .i64 0) := (blk_cell BK121.out 1).trans rfl; have hcz12_2 : w9.cell? ⟨gb121, 2, none⟩ = some (.int .i64 0) := (blk_cell BK121.out 2).trans rfl; have hcz12_3 : w9.cell? ⟨gb121, 3, none⟩ = some (.int .i64 0) := (blk_cell BK121.out 3).trans rfl; have hcz12_4 : w9.cell? ⟨gb121, 4, none⟩ = some (.int .i64 0) := (blk_cell BK121.out 4).trans rfl; have hcz12_5 : w9.cell? ⟨gb121, 5, none⟩ = some (.int .i64 0) := (blk_cell BK121.out 5).trans rfl; have hcz12_6 : w9.cell? ⟨gb121, 6, none⟩ = some (.slice none 0 0) := (blk_cell BK121.out 6).trans rfl; have hfz12_0 := blk_frozen BK121.out 0; have hfz12_1 := blk_frozen BK121.out 1; have hfz12_2 := blk_frozen BK121.out 2; have hfz12_3 := blk_frozen BK121.out 3; have hfz12_4 := blk_frozen BK121.out 4; have hfz12_5 := blk_frozen BK121.out 5; have hfz12_6 := blk_frozen BK121.out 6))
    refine bodyPost_ret (results_cell_row rfl _ _ gb121 24 #[.string a0_0, .int .i64 a0_1, .int .i64 a0_2, .int .i64 a0_3, .int .i64 a0_4, .int .i64 a0_5, .slice Ao10 y125.length co10] (0, 0) _ rfl (by (with_reducible repeat (first | refine blk_drewN ?_ _ | refine blk_drew ?_ | refine blk_alloc ?_ _)); refine blk_put (cs := #[.string a0_0, .int .i64 a0_1, .int .i64 a0_2, .int .i64 a0_3, .int .i64 a0_4, .int .i64 a0_5, .slice none 0 0]) ?_ 6 _ rfl; (with_reducible repeat (first | refine blk_drewN ?_ _ | refine blk_drew ?_ | refine blk_alloc ?_ _)); refine blk_put (cs := #[.string a0_0, .int .i64 a0_1, .int .i64 a0_2, .int .i64 a0_3, .int .i64 a0_4, .int .i64 0, .slice none 0 0]) ?_ 5 _ rfl; (with_reducible repeat (first | refine blk_drewN ?_ _ | refine blk_drew ?_ | refine blk_alloc ?_ _)); refine blk_put (cs := #[.string a0_0, .int .i64 a0_1, .int .i64 a0_2, .int .i64 a0_3, .int .i64 0, .int .i64 0, .slice none 0 0]) ?_ 4 _ rfl; (with_reducible repeat (first | refine blk_drewN ?_ _ | refine blk_drew ?_ | refine blk_alloc ?_ _)); refine blk_put (cs := #[.string a0_0, .int .i64 a0_1, .int .i64 a0_2, .int .i64 0, .int .i64 0, .int .i64 0, .slice none 0 0]) ?_ 3 _ rfl; (with_reducible repeat (first | refine blk_drewN ?_ _ | refine blk_drew ?_ | refine blk_alloc ?_ _)); refine blk_put (cs := #[.string a0_0, .int .i64 a0_1, .int .i64 0, .int .i64 0, .int .i64 0, .int .i64 0, .slice none 0 0]) ?_ 2 _ rfl; (with_reducible repeat (first | refine blk_drewN ?_ _ | refine blk_drew ?_ | refine blk_alloc ?_ _)); refine blk_put (cs := #[.string a0_0, .int .i64 0, .int .i64 0, .int .i64 0, .int .i64 0, .int .i64 0, .slice none 0 0]) ?_ 1 _ rfl; (with_reducible repeat (first | refine blk_drewN ?_ _ | refine blk_drew ?_ | refine blk_alloc ?_ _)); refine blk_put (cs := #[.string (⟨#[]⟩ : ByteArray), .int .i64 0, .int .i64 0, .int .i64 0, .int .i64 0, .int .i64 0, .slice none 0 0]) ?_ 0 _ rfl; (with_reducible repeat (first | refine blk_drewN ?_ _ | refine blk_drew ?_ | refine blk_alloc ?_ _)); refine blk_far ?_ NB121_120.out _; (with_reducible repeat (first | refine blk_drewN ?_ _ | refine blk_drew ?_ | refine blk_alloc ?_ _)); exact BK121.out) Try.underlying24 rfl (by kernel_rfl)) rfl ?_
    exact ⟨_, by first | rfl | (simp [errW_none, errW_some] <;> rfl) | (simp [*, errW_none, errW_some] <;> rfl), by (with_reducible repeat (first | apply Kd.R_alloc | apply Kd.R_drewN | apply Kd.R_drew)); exact Kd.R_mono (Kd.R_far (p := ⟨gb121, 6, none⟩) (Kd.R_far (p := ⟨gb121, 5, none⟩) (Kd.R_far (p := ⟨gb121, 4, none⟩) (Kd.R_far (p := ⟨gb121, 3, none⟩) (Kd.R_far (p := ⟨gb121, 2, none⟩) (Kd.R_far (p := ⟨gb121, 1, none⟩) (Kd.R_far (p := ⟨gb121, 0, none⟩) (Kd.R_far (p := ⟨gb120, 6, none⟩) (Kd.R_types (Kd.R_types HO127.out BK120.out (by decide)) BK121.out (by decide)) (fun _ hk => hk.1.2) (.slice Ao10 y125.length co10)) (fun _ hk => hk.2) (.string a0_0)) (fun _ hk => hk.2) (.int .i64 a0_1)) (fun _ hk => hk.2) (.int .i64 a0_2)) (fun _ hk => hk.2) (.int .i64 a0_3)) (fun _ hk => hk.2) (.int .i64 a0_4)) (fun _ hk => hk.2) (.int .i64 a0_5)) (fun _ hk => hk.2) (.slice Ao10 y125.length co10)) (fun _ hk => trivial), by repeat (first | (with_reducible first | exact HB.out | apply below_alloc | apply pw_below_drewN | apply below_drew1 | refine below_set ?_ GE120.out | refine below_set ?_ GE121.out) | exact HB.out)⟩
  · rw [if_neg c2] at H
    exact absurd H (by simp)

/-! ### pylonlaw10_VeeSuspect: function 6 -/
def pylonlaw10_VeeSuspect.l0 : Nat → Int → Int → Int → Int → Int → Int → Int → ByteArray → Int → Int → Int → Int → Int → List (S32) → ByteArray → Int → Int → Int → Int → Int → List (S32) → Option (Bool)
  | 0, _, _, _, _, _, _, _, _, _, _, _, _, _, _, _, _, _, _, _, _, _ => none
  | k + 1, x1, x2, x3, x4, x5, x25, x26, x129000, x129001, x129002, x129003, x129004, x129005, x129006, x140000, x140001, x140002, x140003, x140004, x140005, x140006 => if x26 < x25 then (if 0 ≤ x26 then (if x26 < (x140006.length : Int) then (if ((rd_T32 x140006 x26).f4) = 83 then ((some (x140006.set (x26 : Int).toNat (⟨(rd_T32 x140006 x26).f0, x3, (rd_T32 x140006 x26).f2, (rd_T32 x140006 x26).f3, (rd_T32 x140006 x26).f4⟩ : S32) : List (S32))).bind fun y141 => ((some (y141.set (x26 : Int).toNat (⟨(rd_T32 y141 x26).f0, (rd_T32 y141 x26).f1, x4, (rd_T32 y141 x26).f3, (rd_T32 y141 x26).f4⟩ : S32) : List (S32))).bind fun y142 => (pylonlaw10_VeeSuspect.l0 k x1 x2 x3 x4 x5 x25 (wrap64 (x26 + 1)) x129000 x129001 x129002 x129003 x129004 x129005 x129006 x140000 x140001 x140002 x140003 x140004 x140005 (y142.set (x26 : Int).toNat (⟨(rd_T32 y142 x26).f0, (rd_T32 y142 x26).f1, (rd_T32 y142 x26).f2, x5, (rd_T32 y142 x26).f4⟩ : S32))))) else (pylonlaw10_VeeSuspect.l0 k x1 x2 x3 x4 x5 x25 (wrap64 (x26 + 1)) x129000 x129001 x129002 x129003 x129004 x129005 x129006 x140000 x140001 x140002 x140003 x140004 x140005 x140006)) else (none)) else (none)) else ((pylonlaw10_copyFile.f x129000 x129001 x129002 x129003 x129004 x129005 x129006).bind fun bt144 => ((vee_Check.f k bt144.1 bt144.2.1 bt144.2.2.1 bt144.2.2.2.1 bt144.2.2.2.2.1 bt144.2.2.2.2.2.1 bt144.2.2.2.2.2.2 x1 x2).bind fun bt153 => ((vee_Check.f k x140000 x140001 x140002 x140003 x140004 x140005 x140006 x1 x2).bind fun bt155 => (if bt153.1 = bt155.1 then (some (bt153.2 == bt155.2)) else (some false)))))
def pylonlaw10_VeeSuspect.f (k : Nat) (a0_0 : ByteArray) (a0_1 : Int) (a0_2 : Int) (a0_3 : Int) (a0_4 : Int) (a0_5 : Int) (l0_6 : List (S32)) (a1 : Int) (a2 : Int) (a3 : Int) (a4 : Int) (a5 : Int) : Option (Bool) := (pylonlaw10_awake.f k).bind fun t129 => (if t129 = true then ((pylonlaw10_copyFile.f a0_0 a0_1 a0_2 a0_3 a0_4 a0_5 l0_6).bind fun bt130 => (pylonlaw10_VeeSuspect.l0 k a1 a2 a3 a4 a5 (bt130.2.2.2.2.2.2.length : Int) 0 a0_0 a0_1 a0_2 a0_3 a0_4 a0_5 l0_6 bt130.1 bt130.2.1 bt130.2.2.1 bt130.2.2.2.1 bt130.2.2.2.2.1 bt130.2.2.2.2.2.1 bt130.2.2.2.2.2.2)) else (some false))
theorem pylonlaw10_VeeSuspect.mono_l : ∀ k, (∀ y0 y1 y2 y3 y4 y5 y6 y7 y8 y9 y10 y11 y12 y13 y14 y15 y16 y17 y18 y19 y20, LeO (pylonlaw10_VeeSuspect.l0 k y0 y1 y2 y3 y4 y5 y6 y7 y8 y9 y10 y11 y12 y13 y14 y15 y16 y17 y18 y19 y20) (pylonlaw10_VeeSuspect.l0 (k + 1) y0 y1 y2 y3 y4 y5 y6 y7 y8 y9 y10 y11 y12 y13 y14 y15 y16 y17 y18 y19 y20))
  | 0 => fun _ _ _ _ _ _ _ _ _ _ _ _ _ _ _ _ _ _ _ _ _ r h => by simp [pylonlaw10_VeeSuspect.l0] at h
  | k + 1 => by
    have ih0 := pylonlaw10_VeeSuspect.mono_l k
    · intro y0 y1 y2 y3 y4 y5 y6 y7 y8 y9 y10 y11 y12 y13 y14 y15 y16 y17 y18 y19 y20
      unfold pylonlaw10_VeeSuspect.l0
      repeat' first
      | (with_reducible exact ih0 _ _ _ _ _ _ _ _ _ _ _ _ _ _ _ _ _ _ _ _ _)
      | (with_reducible exact pylonlaw10_awake.mono _)
      | (with_reducible exact vee_Check.mono _ _ _ _ _ _ _ _ _ _)
      | (with_reducible exact LeO.refl _)
      | (with_reducible exact LeO.none _)
      | (with_reducible refine LeO.ite ?_ ?_)
      | (with_reducible refine LeO.bind ?_ (fun _ => ?_))
      | exact ih0 _ _ _ _ _ _ _ _ _ _ _ _ _ _ _ _ _ _ _ _ _
      | exact pylonlaw10_awake.mono _
      | exact vee_Check.mono _ _ _ _ _ _ _ _ _ _
      | exact LeO.none _
      | refine LeO.ite ?_ ?_
      | refine LeO.bind ?_ (fun _ => ?_)
theorem pylonlaw10_VeeSuspect.mono : ∀ a0 a1 a2 a3 a4 a5 a6 a7 a8 a9 a10 a11 k, LeO (pylonlaw10_VeeSuspect.f k a0 a1 a2 a3 a4 a5 a6 a7 a8 a9 a10 a11) (pylonlaw10_VeeSuspect.f (k + 1) a0 a1 a2 a3 a4 a5 a6 a7 a8 a9 a10 a11) := by
  intro a0 a1 a2 a3 a4 a5 a6 a7 a8 a9 a10 a11 k
  have ih0 := pylonlaw10_VeeSuspect.mono_l k
  unfold pylonlaw10_VeeSuspect.f
  repeat' first
      | (with_reducible exact ih0 _ _ _ _ _ _ _ _ _ _ _ _ _ _ _ _ _ _ _ _ _)
      | (with_reducible exact pylonlaw10_awake.mono _)
      | (with_reducible exact vee_Check.mono _ _ _ _ _ _ _ _ _ _)
      | (with_reducible exact LeO.refl _)
      | (with_reducible exact LeO.none _)
      | (with_reducible refine LeO.ite ?_ ?_)
      | (with_reducible refine LeO.bind ?_ (fun _ => ?_))
      | exact ih0 _ _ _ _ _ _ _ _ _ _ _ _ _ _ _ _ _ _ _ _ _
      | exact pylonlaw10_awake.mono _
      | exact vee_Check.mono _ _ _ _ _ _ _ _ _ _
      | exact LeO.none _
      | refine LeO.ite ?_ ?_
      | refine LeO.bind ?_ (fun _ => ?_)
def pylonlaw10_VeeSuspect.T8 : Bool × List (List Nat × List Nat) := (true, [([], []), ([0], [0]), ([], []), ([], []), ([3], [3]), ([], []), ([], []), ([6], [6]), ([], []), ([], []), ([], []), ([], []), ([1, 2, 0, 1, 2, 9], [1, 2]), ([12, 0, 1, 2, 9], [12]), ([13, 9, 0, 1, 2, 9], [9, 13]), ([4, 5, 0, 1, 2, 3, 4, 5, 9, 10, 12, 13, 14], [4, 5]), ([15, 0, 1, 2, 3, 4, 5, 9, 10, 12, 13, 14], [15]), ([16, 10, 14, 0, 1, 2, 3, 4, 5, 9, 10, 12, 13, 14], [10, 16]), ([7, 8, 0, 1, 2, 3, 4, 5, 6, 7, 8, 9, 10, 11, 12, 13, 14, 15, 16, 17], [7, 8]), ([18, 0, 1, 2, 3, 4, 5, 6, 7, 8, 9, 10, 11, 12, 13, 14, 15, 16, 17], [18]), ([19, 11, 17, 0, 1, 2, 3, 4, 5, 6, 7, 8, 9, 10, 11, 12, 13, 14, 15, 16, 17], [11, 19])])
def pylonlaw10_VeeSuspect.B8 : List Nat := [0, 1, 0, 0, 8, 0, 0, 64, 0, 0, 0, 0, 519, 4615, 12807, 30271, 63039, 128575, 262143, 524287, 1048575]
theorem pylonlaw10_VeeSuspect.tab8 : rtab .any (opsOf Try.f6 8) = pylonlaw10_VeeSuspect.T8 := by kernel_rfl
theorem pylonlaw10_VeeSuspect.bits8 : waitsOk pylonlaw10_VeeSuspect.T8.2 pylonlaw10_VeeSuspect.B8 = true := by kernel_rfl
set_option maxHeartbeats 8000000 in
set_option maxRecDepth 100000 in
theorem pylonlaw10_VeeSuspect.calls (k : Nat) (a0_0 : ByteArray) (a0_1 : Int) (a0_2 : Int) (a0_3 : Int) (a0_4 : Int) (a0_5 : Int) (A0_6 : Option Addr) (c0_6 : Nat) (l0_6 : List (S32)) (a1 : Int) (a2 : Int) (a3 : Int) (a4 : Int) (a5 : Int) (r : Bool) (w : World) (hr0_6 : Kd.C k32 w A0_6 l0_6.length l0_6) (hc0_6 : l0_6.length ≤ c0_6) (h : pylonlaw10_VeeSuspect.f k a0_0 a0_1 a0_2 a0_3 a0_4 a0_5 l0_6 a1 a2 a3 a4 a5 = some r) :
    Calls Try.prog 6 #[.agg #[.string a0_0, .int .i64 a0_1, .int .i64 a0_2, .int .i64 a0_3, .int .i64 a0_4, .int .i64 a0_5, .slice A0_6 l0_6.length c0_6], .int .i64 a1, .int .i64 a2, .int .i64 a3, .int .i64 a4, .int .i64 a5] w fun e w' => e = .returned (.bool r) ∧ Below w.heap.size w w' := by
  have hu24 := Try.underlying24
  have HR0_6 := Aside0.mk hr0_6
  have HC0_6 := Aside0.mk hc0_6
  clear hr0_6 hc0_6
  have HB := Aside0.mk (Below.refl w.heap.size w)
  have H : ((pylonlaw10_awake.f k).bind fun t129 => (if t129 = true then ((pylonlaw10_copyFile.f a0_0 a0_1 a0_2 a0_3 a0_4 a0_5 l0_6).bind fun bt130 => (pylonlaw10_VeeSuspect.l0 k a1 a2 a3 a4 a5 (bt130.2.2.2.2.2.2.length : Int) 0 a0_0 a0_1 a0_2 a0_3 a0_4 a0_5 l0_6 bt130.1 bt130.2.1 bt130.2.2.1 bt130.2.2.2.1 bt130.2.2.2.2.1 bt130.2.2.2.2.2.1 bt130.2.2.2.2.2.2)) else (some false))) = some r := h
  clear h
  replace H := Option.bind_eq_some_iff.mp H
  obtain ⟨t129, A70, H⟩ := H
  replace H : (if t129 = true then ((pylonlaw10_copyFile.f a0_0 a0_1 a0_2 a0_3 a0_4 a0_5 l0_6).bind fun bt130 => (pylonlaw10_VeeSuspect.l0 k a1 a2 a3 a4 a5 (bt130.2.2.2.2.2.2.length : Int) 0 a0_0 a0_1 a0_2 a0_3 a0_4 a0_5 l0_6 bt130.1 bt130.2.1 bt130.2.2.1 bt130.2.2.2.1 bt130.2.2.2.2.1 bt130.2.2.2.2.2.1 bt130.2.2.2.2.2.2)) else (some false)) = some r := H
  have A7 := Aside0.mk A70
  clear A70
  by_cases c8 : t129 = true
  · subst c8
    have H1 : ((pylonlaw10_copyFile.f a0_0 a0_1 a0_2 a0_3 a0_4 a0_5 l0_6).bind fun bt130 => (pylonlaw10_VeeSuspect.l0 k a1 a2 a3 a4 a5 (bt130.2.2.2.2.2.2.length : Int) 0 a0_0 a0_1 a0_2 a0_3 a0_4 a0_5 l0_6 bt130.1 bt130.2.1 bt130.2.2.1 bt130.2.2.2.1 bt130.2.2.2.2.1 bt130.2.2.2.2.2.1 bt130.2.2.2.2.2.2)) = some r := by rw [if_pos rfl] at H; exact H
    clear H
    have H := H1
    clear H1
    replace H := Option.bind_eq_some_iff.mp H
    obtain ⟨⟨t130, t131, t132, t133, t134, t135, t136⟩, A90, H⟩ := H
    replace H : (pylonlaw10_VeeSuspect.l0 k a1 a2 a3 a4 a5 (t136.length : Int) 0 a0_0 a0_1 a0_2 a0_3 a0_4 a0_5 l0_6 t130 t131 t132 t133 t134 t135 t136) = some r := H
    have A9 := Aside0.mk A90
    clear A90
    have H' := Aside0.mk H
    clear H
    go_enter Try.func6, Try.ntmps6
    go_wp2_with (first | ((with_reducible refine gate_dst (N := 6) rfl ?_); refine box_event ?hg (N := 6) ?hd (cs := #[.string a0_0, .int .i64 a0_1, .int .i64 a0_2, .int .i64 a0_3, .int .i64 a0_4, .int .i64 a0_5, .slice A0_6 l0_6.length c0_6]) (t := 24) ?hr ?_; (case hd => rfl); (case hg => rfl); (case hr => first | (go_simp; done) | (go_simp; rfl)); intro gb128 hg w10 hbox hb; have n0_ := Aside0.mk (below_step (by repeat (first | (with_reducible first | exact HB.out | apply below_alloc | apply pw_below_drewN | apply below_drew1) | exact HB.out)) hb); have n1_ := Aside0.mk (hbox); have n2_ := Aside0.mk ((by rw [hg]; exact (below_size (by repeat (first | (with_reducible first | exact HB.out | apply below_alloc | apply pw_below_drewN | apply below_drew1) | exact HB.out))) : w.heap.size ≤ gb128)); have n3_ := Aside0.mk ((by rw [hg]; exact (below_size (by repeat (first | (with_reducible first | exact HB.out | apply below_alloc | apply pw_below_drewN | apply below_drew1) | exact HB.out))) : w.heap.size ≤ gb128)); clear HB; have HB := n0_; have BK128 := n1_; have GW128 := n2_; have GE128 := n3_; clear n0_ n1_ n2_ n3_; clear hb hbox hg) | ((with_reducible refine gate_callee (f := 13) rfl ?_); refine goesL_ (some 19) rfl rfl Try.func13 (by kernel_rfl) rfl #[] rfl (by (try simp only [List.map_toArray, List.map_cons, List.map_nil]); first | done | rfl | (simp only [List.length_drop, List.length_take]; rfl)) ?_; (with_reducible refine (pylonlaw10_awake.calls k  true _ A7.out).mono ?_); rintro e w11 ⟨rfl, hb⟩; refine ⟨_, rfl, ?_⟩; have n0_ := Aside0.mk (blk_below (g := gb128) (o := .cells #[.string a0_0, .int .i64 a0_1, .int .i64 a0_2, .int .i64 a0_3, .int .i64 a0_4, .int .i64 a0_5, .slice A0_6 l0_6.length c0_6] 24 (0, 0)) (by (with_reducible repeat (first | refine blk_drewN ?_ _ | refine blk_drew ?_ | refine blk_alloc ?_ _)); exact BK128.out) hb); have n1_ := Aside0.mk (below_step (by repeat (first | (with_reducible first | exact HB.out | apply below_alloc | apply pw_below_drewN | apply below_drew1 | refine below_set ?_ GE128.out) | exact HB.out)) hb); clear BK128; clear HB; have BK128 := n0_; have HB := n1_; clear n0_ n1_; (try clear hb); (try clear hb2); (try clear hk); (try clear hi); have hcz12_0 : w11.cell? ⟨gb128, 0, none⟩ = some (.string a0_0) := (blk_cell BK128.out 0).trans rfl; have hcz12_1 : w11.cell? ⟨gb128, 1, none⟩ = some (.int .i64 a0_1) := (blk_cell BK128.out 1).trans rfl; have hcz12_2 : w11.cell? ⟨gb128, 2, none⟩ = some (.int .i64 a0_2) := (blk_cell BK128.out 2).trans rfl; have hcz12_3 : w11.cell? ⟨gb128, 3, none⟩ = some (.int .i64 a0_3) := (blk_cell BK128.out 3).trans rfl; have hcz12_4 : w11.cell? ⟨gb128, 4, none⟩ = some (.int .i64 a0_4) := (blk_cell BK128.out 4).trans rfl; have hcz12_5 : w11.cell? ⟨gb128, 5, none⟩ = some (.int .i64 a0_5) := (blk_cell BK128.out 5).trans rfl; have hcz12_6 : w11.cell? ⟨gb128, 6, none⟩ = some (.slice A0_6 l0_6.length c0_6) := (blk_cell BK128.out 6).trans rfl; have hfz12_0 := blk_frozen BK128.out 0; have hfz12_1 := blk_frozen BK128.out 1; have hfz12_2 := blk_frozen BK128.out 2; have hfz12_3 := blk_frozen BK128.out 3; have hfz12_4 := blk_frozen BK128.out 4; have hfz12_5 := blk_frozen BK128.out 5; have hfz12_6 := blk_frozen BK128.out 6) | ((with_reducible refine gate_callee (f := 16) rfl ?_); refine goesL_ (some 22) rfl rfl Try.func16 (by kernel_rfl) rfl #[.agg #[.string a0_0, .int .i64 a0_1, .int .i64 a0_2, .int .i64 a0_3, .int .i64 a0_4, .int .i64 a0_5, .slice A0_6 l0_6.length c0_6]] rfl (by (try simp only [List.map_toArray, List.map_cons, List.map_nil]); first | done | rfl | (simp only [List.length_drop, List.length_take]; rfl)) ?_; (with_reducible refine (pylonlaw10_copyFile.calls a0_0 a0_1 a0_2 a0_3 a0_4 a0_5 _ _ l0_6 t130 t131 t132 t133 t134 t135 t136 _ ?side1 ?side2 A9.out).mono ?_); (case side1 => repeat (first | exact (Kd.C_below HR0_6.out HB.out) | (with_reducible refine Kd.C_alloc ?_ _) | (with_reducible refine Kd.C_drewN ?_ _) | (with_reducible refine Kd.C_drew ?_))); (case side2 => exact HC0_6.out); rintro e w13 ⟨v137, rfl, ho0, hb⟩; refine ⟨_, rfl, ?_⟩; have n0_ := Aside0.mk (Kd.R_lower ho0 (below_size (by repeat (first | (with_reducible first | exact HB.out | apply below_alloc | apply pw_below_drewN | apply below_drew1 | refine below_set ?_ GE128.out) | exact HB.out)))); have n1_ := Aside0.mk (blk_below (g := gb128) (o := .cells #[.string a0_0, .int .i64 a0_1, .int .i64 a0_2, .int .i64 a0_3, .int .i64 a0_4, .int .i64 a0_5, .slice A0_6 l0_6.length c0_6] 24 (0, 0)) (by (with_reducible repeat (first | refine blk_drewN ?_ _ | refine blk_drew ?_ | refine blk_alloc ?_ _)); exact BK128.out) hb); have n2_ := Aside0.mk (below_step (by repeat (first | (with_reducible first | exact HB.out | apply below_alloc | apply pw_below_drewN | apply below_drew1 | refine below_set ?_ GE128.out) | exact HB.out)) hb); clear BK128; clear HB; have HO138 := n0_; have BK128 := n1_; have HB := n2_; clear n0_ n1_ n2_; (try clear hb); (try clear hb2); (try clear hk); (try clear hi); (try clear ho0)) | ((with_reducible refine gate_dst (N := 13) rfl ?_); refine box_event ?hg (N := 13) ?hd (cs := #[.string (⟨#[]⟩ : ByteArray), .int .i64 0, .int .i64 0, .int .i64 0, .int .i64 0, .int .i64 0, .slice none 0 0]) (t := 24) ?hr ?_; (case hd => rfl); (case hg => rfl); (case hr => first | (go_simp; done) | (go_simp; rfl)); intro gb139 hg w14 hbox hb; have n0_ := Aside0.mk (Kd.R_below (by (with_reducible repeat (first | apply Kd.R_alloc | apply Kd.R_drewN | apply Kd.R_drew)); exact HO138.out) hb); have n1_ := Aside0.mk (blk_below (g := gb128) (o := .cells #[.string a0_0, .int .i64 a0_1, .int .i64 a0_2, .int .i64 a0_3, .int .i64 a0_4, .int .i64 a0_5, .slice A0_6 l0_6.length c0_6] 24 (0, 0)) (by (with_reducible repeat (first | refine blk_drewN ?_ _ | refine blk_drew ?_ | refine blk_alloc ?_ _)); exact BK128.out) hb); have n2_ := Aside0.mk (below_step (by repeat (first | (with_reducible first | exact HB.out | apply below_alloc | apply pw_below_drewN | apply below_drew1 | refine below_set ?_ GE128.out) | exact HB.out)) hb); have n3_ := Aside0.mk (hbox); have n4_ := Aside0.mk ((by rw [hg]; exact (below_size (by repeat (first | (with_reducible first | exact HB.out | apply below_alloc | apply pw_below_drewN | apply below_drew1 | refine below_set ?_ GE128.out) | exact HB.out))) : w.heap.size ≤ gb139)); have n5_ := Aside0.mk ((by rw [hg]; exact (below_size (by repeat (first | (with_reducible first | exact HB.out | apply below_alloc | apply pw_below_drewN | apply below_drew1 | refine below_set ?_ GE128.out) | exact HB.out))) : w.heap.size ≤ gb139)); have n6_ := Aside0.mk ((by rw [hg]; exact Nat.ne_of_lt (blk_lt (g := gb128) (o := .cells #[.string a0_0, .int .i64 a0_1, .int .i64 a0_2, .int .i64 a0_3, .int .i64 a0_4, .int .i64 a0_5, .slice A0_6 l0_6.length c0_6] 24 (0, 0)) (by (with_reducible repeat (first | refine blk_drewN ?_ _ | refine blk_drew ?_ | refine blk_alloc ?_ _)); exact BK128.out)) : gb128 ≠ gb139)); have n7_ := Aside0.mk ((by rw [hg]; exact Nat.ne_of_gt (blk_lt (g := gb128) (o := .cells #[.string a0_0, .int .i64 a0_1, .int .i64 a0_2, .int .i64 a0_3, .int .i64 a0_4, .int .i64 a0_5, .slice A0_6 l0_6.length c0_6] 24 (0, 0)) (by (with_reducible repeat (first | refine blk_drewN ?_ _ | refine blk_drew ?_ | refine blk_alloc ?_ _)); exact BK128.out)) : gb139 ≠ gb128)); clear HO138; clear BK128; clear HB; have HO138 := n0_; have BK128 := n1_; have HB := n2_; have BK139 := n3_; have GW139 := n4_; have GE139 := n5_; have NB128_139 := n6_; have NB139_128 := n7_; clear n0_ n1_ n2_ n3_ n4_ n5_ n6_ n7_; clear hb hbox hg; have hnb15 := NB139_128.out; have hnc15 := NB128_139.out; have hcz16_0 : w14.cell? ⟨gb139, 0, none⟩ = some (.string (⟨#[]⟩ : ByteArray)) := (blk_cell BK139.out 0).trans rfl; have hcz16_1 : w14.cell? ⟨gb139, 1, none⟩ = some (.int .i64 0) := (blk_cell BK139.out 1).trans rfl; have hcz16_2 : w14.cell? ⟨gb139, 2, none⟩ = some (.int .i64 0) := (blk_cell BK139.out 2).trans rfl; have hcz16_3 : w14.cell? ⟨gb139, 3, none⟩ = some (.int .i64 0) := (blk_cell BK139.out 3).trans rfl; have hcz16_4 : w14.cell? ⟨gb139, 4, none⟩ = some (.int .i64 0) := (blk_cell BK139.out 4).trans rfl; have hcz16_5 : w14.cell? ⟨gb139, 5, none⟩ = some (.int .i64 0) := (blk_cell BK139.out 5).trans rfl; have hcz16_6 : w14.cell? ⟨gb139, 6, none⟩ = some (.slice none 0 0) := (blk_cell BK139.out 6).trans rfl; have hfz16_0 := blk_frozen BK139.out 0; have hfz16_1 := blk_frozen BK139.out 1; have hfz16_2 := blk_frozen BK139.out 2; have hfz16_3 := blk_frozen BK139.out 3; have hfz16_4 := blk_frozen BK139.out 4; have hfz16_5 := blk_frozen BK139.out 5; have hfz16_6 := blk_frozen BK139.out 6; obtain ⟨Ao17, co17, eo17⟩ := Kd.R_slice HO138.out; subst eo17))
    go_loopg [26] k (fun kq v26 w' => ∃ (x26_1 : Int) (x140006_1 : List (S32)) (u140006 : Value), v26 = .int .i64 x26_1 ∧ Aside0 (pylonlaw10_VeeSuspect.l0 kq a1 a2 a3 a4 a5 (t136.length : Int) x26_1 a0_0 a0_1 a0_2 a0_3 a0_4 a0_5 l0_6 t130 t131 t132 t133 t134 t135 x140006_1 = some r) ∧ Aside0 (kq ≤ k) ∧ Aside0 (Kd.R k32 32 w' w.heap.size (fun _ => True) u140006 x140006_1) ∧ Aside0 (w'.heap[gb128]? = some (.cells #[.string a0_0, .int .i64 a0_1, .int .i64 a0_2, .int .i64 a0_3, .int .i64 a0_4, .int .i64 a0_5, (.slice A0_6 l0_6.length c0_6)] 24 (0, 0))) ∧ Aside0 (w'.heap[gb139]? = some (.cells #[.string t130, .int .i64 t131, .int .i64 t132, .int .i64 t133, .int .i64 t134, .int .i64 t135, u140006] 24 (0, 0))) ∧ Aside0 (Below w.heap.size w w'))
    case atStart => exact ⟨(0), (t136), (.slice Ao17 t136.length co17), (by first | rfl | (simp; done) | (simp [*]; done)), H', ⟨Nat.le_refl _⟩, ⟨by (with_reducible repeat (first | apply Kd.R_alloc | apply Kd.R_drewN | apply Kd.R_drew)); exact Kd.R_mono (Kd.R_far (p := ⟨gb139, 6, none⟩) (Kd.R_far (p := ⟨gb139, 5, none⟩) (Kd.R_far (p := ⟨gb139, 4, none⟩) (Kd.R_far (p := ⟨gb139, 3, none⟩) (Kd.R_far (p := ⟨gb139, 2, none⟩) (Kd.R_far (p := ⟨gb139, 1, none⟩) (Kd.R_far (p := ⟨gb139, 0, none⟩) (Kd.R_types HO138.out BK139.out (by decide)) (fun _ hk => hk.2) (.string t130)) (fun _ hk => hk.2) (.int .i64 t131)) (fun _ hk => hk.2) (.int .i64 t132)) (fun _ hk => hk.2) (.int .i64 t133)) (fun _ hk => hk.2) (.int .i64 t134)) (fun _ hk => hk.2) (.int .i64 t135)) (fun _ hk => hk.2) (.slice Ao17 t136.length co17)) (fun _ hk => trivial)⟩, ⟨by (with_reducible repeat (first | refine blk_drewN ?_ _ | refine blk_drew ?_ | refine blk_alloc ?_ _)); refine blk_far ?_ NB128_139.out _; (with_reducible repeat (first | refine blk_drewN ?_ _ | refine blk_drew ?_ | refine blk_alloc ?_ _)); refine blk_far ?_ NB128_139.out _; (with_reducible repeat (first | refine blk_drewN ?_ _ | refine blk_drew ?_ | refine blk_alloc ?_ _)); refine blk_far ?_ NB128_139.out _; (with_reducible repeat (first | refine blk_drewN ?_ _ | refine blk_drew ?_ | refine blk_alloc ?_ _)); refine blk_far ?_ NB128_139.out _; (with_reducible repeat (first | refine blk_drewN ?_ _ | refine blk_drew ?_ | refine blk_alloc ?_ _)); refine blk_far ?_ NB128_139.out _; (with_reducible repeat (first | refine blk_drewN ?_ _ | refine blk_drew ?_ | refine blk_alloc ?_ _)); refine blk_far ?_ NB128_139.out _; (with_reducible repeat (first | refine blk_drewN ?_ _ | refine blk_drew ?_ | refine blk_alloc ?_ _)); refine blk_far ?_ NB128_139.out _; (with_reducible repeat (first | refine blk_drewN ?_ _ | refine blk_drew ?_ | refine blk_alloc ?_ _)); exact BK128.out⟩, ⟨by (with_reducible repeat (first | refine blk_drewN ?_ _ | refine blk_drew ?_ | refine blk_alloc ?_ _)); refine blk_put (cs := #[.string t130, .int .i64 t131, .int .i64 t132, .int .i64 t133, .int .i64 t134, .int .i64 t135, .slice none 0 0]) ?_ 6 _ rfl; (with_reducible repeat (first | refine blk_drewN ?_ _ | refine blk_drew ?_ | refine blk_alloc ?_ _)); refine blk_put (cs := #[.string t130, .int .i64 t131, .int .i64 t132, .int .i64 t133, .int .i64 t134, .int .i64 0, .slice none 0 0]) ?_ 5 _ rfl; (with_reducible repeat (first | refine blk_drewN ?_ _ | refine blk_drew ?_ | refine blk_alloc ?_ _)); refine blk_put (cs := #[.string t130, .int .i64 t131, .int .i64 t132, .int .i64 t133, .int .i64 0, .int .i64 0, .slice none 0 0]) ?_ 4 _ rfl; (with_reducible repeat (first | refine blk_drewN ?_ _ | refine blk_drew ?_ | refine blk_alloc ?_ _)); refine blk_put (cs := #[.string t130, .int .i64 t131, .int .i64 t132, .int .i64 0, .int .i64 0, .int .i64 0, .slice none 0 0]) ?_ 3 _ rfl; (with_reducible repeat (first | refine blk_drewN ?_ _ | refine blk_drew ?_ | refine blk_alloc ?_ _)); refine blk_put (cs := #[.string t130, .int .i64 t131, .int .i64 0, .int .i64 0, .int .i64 0, .int .i64 0, .slice none 0 0]) ?_ 2 _ rfl; (with_reducible repeat (first | refine blk_drewN ?_ _ | refine blk_drew ?_ | refine blk_alloc ?_ _)); refine blk_put (cs := #[.string t130, .int .i64 0, .int .i64 0, .int .i64 0, .int .i64 0, .int .i64 0, .slice none 0 0]) ?_ 1 _ rfl; (with_reducible repeat (first | refine blk_drewN ?_ _ | refine blk_drew ?_ | refine blk_alloc ?_ _)); refine blk_put (cs := #[.string (⟨#[]⟩ : ByteArray), .int .i64 0, .int .i64 0, .int .i64 0, .int .i64 0, .int .i64 0, .slice none 0 0]) ?_ 0 _ rfl; (with_reducible repeat (first | refine blk_drewN ?_ _ | refine blk_drew ?_ | refine blk_alloc ?_ _)); exact BK139.out⟩, ⟨by repeat (first | (with_reducible first | exact HB.out | apply below_alloc | apply pw_below_drewN | apply below_drew1 | refine below_set ?_ GE128.out | refine below_set ?_ GE139.out) | exact HB.out)⟩⟩
    case round =>
      clear H'
      try clear c1
      try clear p2
      try clear c6
      try clear c8
      try clear c13
      try clear c15
      try clear c16
      try clear hcz12_0
      try clear hcz12_1
      try clear hcz12_2
      try clear hcz12_3
      try clear hcz12_4
      try clear hcz12_5
      try clear hcz12_6
      try clear hcz16_0
      try clear hcz16_1
      try clear hcz16_2
      try clear hcz16_3
      try clear hcz16_4
      try clear hcz16_5
      try clear hcz16_6
      try clear hfz12_0
      try clear hfz12_1
      try clear hfz12_2
      try clear hfz12_3
      try clear hfz12_4
      try clear hfz12_5
      try clear hfz12_6
      try clear hfz16_0
      try clear hfz16_1
      try clear hfz16_2
      try clear hfz16_3
      try clear hfz16_4
      try clear hfz16_5
      try clear hfz16_6
      obtain ⟨x26_1, x140006_1, u140006, rfl, HA, HK1, HO_140006, BK128, BK139, HB⟩ := hrel
      cases gk with
      | zero => exact absurd HA.out (by simp [pylonlaw10_VeeSuspect.l0])
      | succ k1 =>
        have H := HA.out
        clear HA
        simp only [pylonlaw10_VeeSuspect.l0] at H
        by_cases c18 : x26_1 < (t136.length : Int)
        · rw [if_pos c18] at H
          have c18b0 : decide (x26_1 < (t136.length : Int)) = true := decide_eq_true c18
          clear c18
          by_cases c19 : 0 ≤ x26_1
          · rw [if_pos c19] at H
            have c19b0 : decide (0 ≤ x26_1) = true := decide_eq_true c19
            clear c19
            by_cases c20 : x26_1 < (x140006_1.length : Int)
            · rw [if_pos c20] at H
              have c20b0 : decide (x26_1 < (x140006_1.length : Int)) = true := decide_eq_true c20
              clear c20
              by_cases c21 : ((rd_T32 x140006_1 x26_1).f4) = 83
              · rw [if_pos c21] at H
                have c21b0 : (((rd_T32 x140006_1 x26_1).f4) == 83) = true := beq_iff_eq.mpr c21
                have c21b1 : (((rd_T32 x140006_1 x26_1).f4) != 83) = false := bne_eq_false_iff_eq.mpr c21
                clear c21
                obtain ⟨y141, hy141⟩ : ∃ y_ : List (S32), y_ = (x140006_1.set (x26_1 : Int).toNat (⟨(rd_T32 x140006_1 x26_1).f0, a3, (rd_T32 x140006_1 x26_1).f2, (rd_T32 x140006_1 x26_1).f3, (rd_T32 x140006_1 x26_1).f4⟩ : S32)) := ⟨_, rfl⟩
                replace H : ((some (y141.set (x26_1 : Int).toNat (⟨(rd_T32 y141 x26_1).f0, (rd_T32 y141 x26_1).f1, a4, (rd_T32 y141 x26_1).f3, (rd_T32 y141 x26_1).f4⟩ : S32) : List (S32))).bind fun y142 => (pylonlaw10_VeeSuspect.l0 k1 a1 a2 a3 a4 a5 (t136.length : Int) (wrap64 (x26_1 + 1)) a0_0 a0_1 a0_2 a0_3 a0_4 a0_5 l0_6 t130 t131 t132 t133 t134 t135 (y142.set (x26_1 : Int).toNat (⟨(rd_T32 y142 x26_1).f0, (rd_T32 y142 x26_1).f1, (rd_T32 y142 x26_1).f2, a5, (rd_T32 y142 x26_1).f4⟩ : S32)))) = some r := by first | (rw [hy141]; with_reducible exact H) | (have H2_ := (Option.bind_some _ _).symm.trans H; rw [hy141]; with_reducible exact H2_) | (have H2_ := (Option.bind_some _ _).symm.trans H; with_reducible exact H2_) | with_reducible exact H | (rw [hy141]; exact H) | exact H
                have Ny141 := Aside0.mk hy141
                clear hy141
                obtain ⟨y142, hy142⟩ : ∃ y_ : List (S32), y_ = (y141.set (x26_1 : Int).toNat (⟨(rd_T32 y141 x26_1).f0, (rd_T32 y141 x26_1).f1, a4, (rd_T32 y141 x26_1).f3, (rd_T32 y141 x26_1).f4⟩ : S32)) := ⟨_, rfl⟩
                replace H : (pylonlaw10_VeeSuspect.l0 k1 a1 a2 a3 a4 a5 (t136.length : Int) (wrap64 (x26_1 + 1)) a0_0 a0_1 a0_2 a0_3 a0_4 a0_5 l0_6 t130 t131 t132 t133 t134 t135 (y142.set (x26_1 : Int).toNat (⟨(rd_T32 y142 x26_1).f0, (rd_T32 y142 x26_1).f1, (rd_T32 y142 x26_1).f2, a5, (rd_T32 y142 x26_1).f4⟩ : S32))) = some r := by first | (rw [hy142]; with_reducible exact H) | (have H2_ := (Option.bind_some _ _).symm.trans H; rw [hy142]; with_reducible exact H2_) | (have H2_ := (Option.bind_some _ _).symm.trans H; with_reducible exact H2_) | with_reducible exact H | (rw [hy142]; exact H) | exact H
                have Ny142 := Aside0.mk hy142
                clear hy142
                obtain ⟨y143, hy143⟩ : ∃ y_ : List (S32), y_ = (y142.set (x26_1 : Int).toNat (⟨(rd_T32 y142 x26_1).f0, (rd_T32 y142 x26_1).f1, (rd_T32 y142 x26_1).f2, a5, (rd_T32 y142 x26_1).f4⟩ : S32)) := ⟨_, rfl⟩
                replace H : (pylonlaw10_VeeSuspect.l0 k1 a1 a2 a3 a4 a5 (t136.length : Int) (wrap64 (x26_1 + 1)) a0_0 a0_1 a0_2 a0_3 a0_4 a0_5 l0_6 t130 t131 t132 t133 t134 t135 y143) = some r := by first | (rw [hy143]; with_reducible exact H) | (have H2_ := (Option.bind_some _ _).symm.trans H; rw [hy143]; with_reducible exact H2_) | (have H2_ := (Option.bind_some _ _).symm.trans H; with_reducible exact H2_) | with_reducible exact H | (rw [hy143]; exact H) | exact H
                have Ny143 := Aside0.mk hy143
                clear hy143
                have H' := Aside0.mk H
                clear H
                have hnb25 := NB139_128.out
                have hnc25 := NB128_139.out
                have hcz26_0 : wr.cell? ⟨gb139, 0, none⟩ = some (.string t130) := (blk_cell BK139.out 0).trans rfl
                have hcz26_1 : wr.cell? ⟨gb139, 1, none⟩ = some (.int .i64 t131) := (blk_cell BK139.out 1).trans rfl
                have hcz26_2 : wr.cell? ⟨gb139, 2, none⟩ = some (.int .i64 t132) := (blk_cell BK139.out 2).trans rfl
                have hcz26_3 : wr.cell? ⟨gb139, 3, none⟩ = some (.int .i64 t133) := (blk_cell BK139.out 3).trans rfl
                have hcz26_4 : wr.cell? ⟨gb139, 4, none⟩ = some (.int .i64 t134) := (blk_cell BK139.out 4).trans rfl
                have hcz26_5 : wr.cell? ⟨gb139, 5, none⟩ = some (.int .i64 t135) := (blk_cell BK139.out 5).trans rfl
                have hcz26_6 : wr.cell? ⟨gb139, 6, none⟩ = some (u140006) := (blk_cell BK139.out 6).trans rfl
                have hfz26_0 := blk_frozen BK139.out 0
                have hfz26_1 := blk_frozen BK139.out 1
                have hfz26_2 := blk_frozen BK139.out 2
                have hfz26_3 := blk_frozen BK139.out 3
                have hfz26_4 := blk_frozen BK139.out 4
                have hfz26_5 := blk_frozen BK139.out 5
                have hfz26_6 := blk_frozen BK139.out 6
                obtain ⟨Ao27, co27, eo27⟩ := Kd.R_slice HO_140006.out
                subst eo27
                have p140 : 0 ≤ (x26_1 : Int) := of_decide_eq_true (by first | (with_reducible assumption) | assumption)
                have q140 : x26_1 < (x140006_1.length : Int) := of_decide_eq_true (by first | (with_reducible assumption) | assumption)
                obtain ⟨ad140, e140, hx140_0, hx140_1, hx140_2, hx140_3, hx140_4⟩ := at_T32 (Kd.R_reads' HO_140006.out).2.2 x26_1 p140 q140
                cases e140
                replace p140 := eq_true p140
                replace q140 := eq_true q140
                try go_wp2
                have n0_ := Aside0.mk (Kd.R_drew HO_140006.out)
                have n1_ := Aside0.mk (blk_drew BK128.out)
                have n2_ := Aside0.mk (blk_drew BK139.out)
                have n3_ := Aside0.mk (below_drew1 HB.out)
                clear HO_140006
                clear BK128
                clear BK139
                clear HB
                have HO_140006 := n0_
                have BK128 := n1_
                have BK139 := n2_
                have HB := n3_
                clear n0_ n1_ n2_ n3_
                have p22 : 0 ≤ (x26_1 : Int) := of_decide_eq_true (by first | (with_reducible assumption) | assumption)
                have q22 : (x26_1 : Int) < ((x140006_1.length : Int) : Int) := of_decide_eq_true (by first | (with_reducible assumption) | assumption)
                obtain ⟨go22, co22, eo22, gb22, gl22, cl22, HG22⟩ := Kd.R_form HO_140006.out (by omega)
                (first | cases eo22 | (injection eo22 with ea_ en_ ec_; (first | subst ea_ | (injection ea_ with ea_; subst ea_)); subst ec_; clear en_))
                have GB22 := Aside0.mk gb22
                have GG22 := Aside0.mk HG22
                clear gb22 gl22 HG22
                (first | simp only [add_plain] at hx140_0 | skip)
                (first | simp only [add_plain] at hx140_1 | skip)
                (first | simp only [add_plain] at hx140_2 | skip)
                (first | simp only [add_plain] at hx140_3 | skip)
                (first | simp only [add_plain] at hx140_4 | skip)
                obtain ⟨ce22, hcl22, hM22, hcc22, hfr22⟩ := Kd.R_elem HO_140006.out z32 (x26_1 : Int) p22 q22
                obtain rfl := k32_openM hM22
                have hx22_0 : World.cell? _ ⟨go22, (x26_1 : Int).toNat * 5, none⟩ = some (.int .i64 ((rd_T32 x140006_1 x26_1).f0)) := hcc22 0 _ rfl
                have hx22_1 : World.cell? _ ⟨go22, (x26_1 : Int).toNat * 5 + 1, none⟩ = some (.int .i64 ((rd_T32 x140006_1 x26_1).f1)) := hcc22 1 _ rfl
                have hx22_2 : World.cell? _ ⟨go22, (x26_1 : Int).toNat * 5 + 2, none⟩ = some (.int .i64 ((rd_T32 x140006_1 x26_1).f2)) := hcc22 2 _ rfl
                have hx22_3 : World.cell? _ ⟨go22, (x26_1 : Int).toNat * 5 + 3, none⟩ = some (.int .i64 ((rd_T32 x140006_1 x26_1).f3)) := hcc22 3 _ rfl
                have hx22_4 : World.cell? _ ⟨go22, (x26_1 : Int).toNat * 5 + 4, none⟩ = some (.int .u8 ((rd_T32 x140006_1 x26_1).f4)) := hcc22 4 _ rfl
                have hf22_0 : World.frozen? _ ⟨go22, (x26_1 : Int).toNat * 5, none⟩ = false := hfr22 0
                have hf22_1 : World.frozen? _ ⟨go22, (x26_1 : Int).toNat * 5 + 1, none⟩ = false := hfr22 1
                have hf22_2 : World.frozen? _ ⟨go22, (x26_1 : Int).toNat * 5 + 2, none⟩ = false := hfr22 2
                have hf22_3 : World.frozen? _ ⟨go22, (x26_1 : Int).toNat * 5 + 3, none⟩ = false := hfr22 3
                have hf22_4 : World.frozen? _ ⟨go22, (x26_1 : Int).toNat * 5 + 4, none⟩ = false := hfr22 4
                clear hcl22 hcc22 hfr22 hM22
                replace p22 := eq_true p22
                replace q22 := eq_true q22
                obtain ⟨ce29, hcl29, hM29, hcc29, hfr29⟩ := Kd.R_elem HO_140006.out z32 (x26_1 : Int) (of_decide_eq_true (by first | (with_reducible assumption) | assumption)) (by have h_ : (x26_1 : Int) < ((x140006_1.length : Int) : Int) := of_decide_eq_true (by first | (with_reducible assumption) | assumption); first | exact h_ | (have e_ := (Kd.R_reads' HO_140006.out).1; omega) | simpa using h_)
                obtain rfl := k32_openM hM29
                have HP29 := (Kd.R_seg HO_140006.out (x26_1 : Int) (of_decide_eq_true (by first | (with_reducible assumption) | assumption)) (by have h_ : (x26_1 : Int) < ((x140006_1.length : Int) : Int) := of_decide_eq_true (by first | (with_reducible assumption) | assumption); first | exact h_ | (have e_ := (Kd.R_reads' HO_140006.out).1; omega) | simpa using h_) (seg := [.int .i64 a3]) (j := 1) hcl29 hcc29 (show 2 ≤ 5 from by decide) (x' := (⟨(rd_T32 x140006_1 x26_1).f0, a3, (rd_T32 x140006_1 x26_1).f2, (rd_T32 x140006_1 x26_1).f3, (rd_T32 x140006_1 x26_1).f4⟩ : S32)) (k32_mkM _ _ _ (⟨(rd_T32 x140006_1 x26_1).f0, a3, (rd_T32 x140006_1 x26_1).f2, (rd_T32 x140006_1 x26_1).f3, (rd_T32 x140006_1 x26_1).f4⟩ : S32) ) (fun _ hk => hk)).1
                rw [← Ny141.out] at HP29
                have HQ29 := Aside0.mk HP29
                clear hcl29 hcc29 hfr29 hM29 HP29
                have p23 : 0 ≤ (x26_1 : Int) := of_decide_eq_true (by first | (with_reducible assumption) | assumption)
                have q23 : (x26_1 : Int) < ((x140006_1.length : Int) : Int) := of_decide_eq_true (by first | (with_reducible assumption) | assumption)
                replace p23 := eq_true p23
                replace q23 := eq_true q23
                obtain ⟨ce30, hcl30, hM30, hcc30, hfr30⟩ := Kd.R_elem HQ29.out z32 (x26_1 : Int) (of_decide_eq_true (by first | (with_reducible assumption) | assumption)) (by have h_ : (x26_1 : Int) < ((x140006_1.length : Int) : Int) := of_decide_eq_true (by first | (with_reducible assumption) | assumption); first | exact h_ | (have e_ := (Kd.R_reads' HO_140006.out).1; omega) | simpa using h_)
                obtain rfl := k32_openM hM30
                have HP30 := (Kd.R_seg HQ29.out (x26_1 : Int) (of_decide_eq_true (by first | (with_reducible assumption) | assumption)) (by have h_ : (x26_1 : Int) < ((x140006_1.length : Int) : Int) := of_decide_eq_true (by first | (with_reducible assumption) | assumption); first | exact h_ | (have e_ := (Kd.R_reads' HO_140006.out).1; omega) | simpa using h_) (seg := [.int .i64 a4]) (j := 2) hcl30 hcc30 (show 3 ≤ 5 from by decide) (x' := (⟨(rd_T32 y141 x26_1).f0, (rd_T32 y141 x26_1).f1, a4, (rd_T32 y141 x26_1).f3, (rd_T32 y141 x26_1).f4⟩ : S32)) (k32_mkM _ _ _ (⟨(rd_T32 y141 x26_1).f0, (rd_T32 y141 x26_1).f1, a4, (rd_T32 y141 x26_1).f3, (rd_T32 y141 x26_1).f4⟩ : S32) ) (fun _ hk => hk)).1
                rw [← Ny142.out] at HP30
                have HQ30 := Aside0.mk HP30
                clear hcl30 hcc30 hfr30 hM30 HP30
                have p24 : 0 ≤ (x26_1 : Int) := of_decide_eq_true (by first | (with_reducible assumption) | assumption)
                have q24 : (x26_1 : Int) < ((x140006_1.length : Int) : Int) := of_decide_eq_true (by first | (with_reducible assumption) | assumption)
                replace p24 := eq_true p24
                replace q24 := eq_true q24
                obtain ⟨ce31, hcl31, hM31, hcc31, hfr31⟩ := Kd.R_elem HQ30.out z32 (x26_1 : Int) (of_decide_eq_true (by first | (with_reducible assumption) | assumption)) (by have h_ : (x26_1 : Int) < ((x140006_1.length : Int) : Int) := of_decide_eq_true (by first | (with_reducible assumption) | assumption); first | exact h_ | (have e_ := (Kd.R_reads' HO_140006.out).1; omega) | simpa using h_)
                obtain rfl := k32_openM hM31
                have HP31 := (Kd.R_seg HQ30.out (x26_1 : Int) (of_decide_eq_true (by first | (with_reducible assumption) | assumption)) (by have h_ : (x26_1 : Int) < ((x140006_1.length : Int) : Int) := of_decide_eq_true (by first | (with_reducible assumption) | assumption); first | exact h_ | (have e_ := (Kd.R_reads' HO_140006.out).1; omega) | simpa using h_) (seg := [.int .i64 a5]) (j := 3) hcl31 hcc31 (show 4 ≤ 5 from by decide) (x' := (⟨(rd_T32 y142 x26_1).f0, (rd_T32 y142 x26_1).f1, (rd_T32 y142 x26_1).f2, a5, (rd_T32 y142 x26_1).f4⟩ : S32)) (k32_mkM _ _ _ (⟨(rd_T32 y142 x26_1).f0, (rd_T32 y142 x26_1).f1, (rd_T32 y142 x26_1).f2, a5, (rd_T32 y142 x26_1).f4⟩ : S32) ) (fun _ hk => hk)).1
                rw [← Ny143.out] at HP31
                have HQ31 := Aside0.mk HP31
                clear hcl31 hcc31 hfr31 hM31 HP31
                refine start_ (n := 21) (S := fun w' => w'.cell? ⟨gb139, 0, none⟩ = some (.string t130) ∧ w'.cell? ⟨gb139, 1, none⟩ = some (.int .i64 t131) ∧ w'.cell? ⟨gb139, 2, none⟩ = some (.int .i64 t132) ∧ w'.cell? ⟨gb139, 3, none⟩ = some (.int .i64 t133) ∧ w'.cell? ⟨gb139, 4, none⟩ = some (.int .i64 t134) ∧ w'.cell? ⟨gb139, 5, none⟩ = some (.int .i64 t135) ∧ w'.cell? ⟨gb139, 6, none⟩ = some (.slice (some ⟨go22, 0, none⟩) x140006_1.length co27)) (ds := []) #[false, false, false, false, false, false, false, false, false, false, false, false, false, false, false, false, false, false, false, false, false] (by kernel_rfl) rfl rfl ⟨(blk_cell BK139.out 0).trans rfl, (blk_cell BK139.out 1).trans rfl, (blk_cell BK139.out 2).trans rfl, (blk_cell BK139.out 3).trans rfl, (blk_cell BK139.out 4).trans rfl, (blk_cell BK139.out 5).trans rfl, (blk_cell BK139.out 6).trans rfl⟩ (fun hHeld => ?_); refine with_tabW pylonlaw10_VeeSuspect.tab8 pylonlaw10_VeeSuspect.bits8 (fun HT_ HW_ => ?_)
                generalize wr.drew = w28 at HO_140006 BK128 BK139 HB GG22 HQ29 HQ30 HQ31 hf22_0 hf22_1 hf22_2 hf22_3 hf22_4 hx140_0 hx140_1 hx140_2 hx140_3 hx140_4 hx22_0 hx22_1 hx22_2 hx22_3 hx22_4 hHeld ⊢
                refine pure_ (i := 0) (N := some 36) (v := ?_) (a' := ?_) #[true, false, false, false, false, false, false, false, false, false, false, false, false, false, false, false, false, false, false, false, false] rfl rfl (any_of HT_.out (by kernel_rfl)) (fun _ _ _ h => h) (Or.inl ⟨by rfl, ?_⟩) ?_ ?_
                rotate_left
                · intro w'
                  go_simp
                  with_reducible rfl
                rotate_left
                · simp only [Act.put, List.setIfInBounds_toArray, List.set_cons_zero, List.set_cons_succ, i64_w, i32_w]
                  rfl
                refine pure_ (i := 2) (N := some 38) (v := ?_) (a' := ?_) #[true, false, true, false, false, false, false, false, false, false, false, false, false, false, false, false, false, false, false, false, false] rfl rfl (any_of HT_.out (by kernel_rfl)) (fun _ _ _ h => h) (Or.inl ⟨by rfl, ?_⟩) ?_ ?_
                rotate_left
                · intro w'
                  go_simp
                  with_reducible rfl
                rotate_left
                · simp only [Act.put, List.setIfInBounds_toArray, List.set_cons_zero, List.set_cons_succ, i64_w, i32_w]
                  rfl
                refine pure_ (i := 3) (N := some 39) (v := ?_) (a' := ?_) #[true, false, true, true, false, false, false, false, false, false, false, false, false, false, false, false, false, false, false, false, false] rfl rfl (any_of HT_.out (by kernel_rfl)) (fun _ _ _ h => h) (Or.inl ⟨by rfl, ?_⟩) ?_ ?_
                rotate_left
                · intro w'
                  go_simp
                  with_reducible rfl
                rotate_left
                · simp only [Act.put, List.setIfInBounds_toArray, List.set_cons_zero, List.set_cons_succ, i64_w, i32_w]
                  rfl
                refine pure_ (i := 5) (N := some 41) (v := ?_) (a' := ?_) #[true, false, true, true, false, true, false, false, false, false, false, false, false, false, false, false, false, false, false, false, false] rfl rfl (any_of HT_.out (by kernel_rfl)) (fun _ _ _ h => h) (Or.inl ⟨by rfl, ?_⟩) ?_ ?_
                rotate_left
                · intro w'
                  go_simp
                  with_reducible rfl
                rotate_left
                · simp only [Act.put, List.setIfInBounds_toArray, List.set_cons_zero, List.set_cons_succ, i64_w, i32_w]
                  rfl
                refine pure_ (i := 6) (N := some 42) (v := ?_) (a' := ?_) #[true, false, true, true, false, true, true, false, false, false, false, false, false, false, false, false, false, false, false, false, false] rfl rfl (any_of HT_.out (by kernel_rfl)) (fun _ _ _ h => h) (Or.inl ⟨by rfl, ?_⟩) ?_ ?_
                rotate_left
                · intro w'
                  go_simp
                  with_reducible rfl
                rotate_left
                · simp only [Act.put, List.setIfInBounds_toArray, List.set_cons_zero, List.set_cons_succ, i64_w, i32_w]
                  rfl
                refine pure_ (i := 8) (N := some 44) (v := ?_) (a' := ?_) #[true, false, true, true, false, true, true, false, true, false, false, false, false, false, false, false, false, false, false, false, false] rfl rfl (any_of HT_.out (by kernel_rfl)) (fun _ _ _ h => h) (Or.inl ⟨by rfl, ?_⟩) ?_ ?_
                rotate_left
                · intro w'
                  go_simp
                  with_reducible rfl
                rotate_left
                · simp only [Act.put, List.setIfInBounds_toArray, List.set_cons_zero, List.set_cons_succ, i64_w, i32_w]
                  rfl
                refine pure_ (i := 9) (N := some 45) (v := ?_) (a' := ?_) #[true, false, true, true, false, true, true, false, true, true, false, false, false, false, false, false, false, false, false, false, false] rfl rfl (any_of HT_.out (by kernel_rfl)) (fun _ _ _ h => h) (Or.inl ⟨by rfl, ?_⟩) ?_ ?_
                rotate_left
                · intro w'
                  go_simp
                  with_reducible rfl
                rotate_left
                · simp only [Act.put, List.setIfInBounds_toArray, List.set_cons_zero, List.set_cons_succ, i64_w, i32_w]
                  rfl
                refine pure_ (i := 10) (N := some 46) (v := ?_) (a' := ?_) #[true, false, true, true, false, true, true, false, true, true, true, false, false, false, false, false, false, false, false, false, false] rfl rfl (any_of HT_.out (by kernel_rfl)) (fun _ _ _ h => h) (Or.inl ⟨by rfl, ?_⟩) ?_ ?_
                rotate_left
                · intro w'
                  go_simp
                  with_reducible rfl
                rotate_left
                · simp only [Act.put, List.setIfInBounds_toArray, List.set_cons_zero, List.set_cons_succ, i64_w, i32_w]
                  rfl
                refine pure_ (i := 11) (N := some 47) (v := ?_) (a' := ?_) #[true, false, true, true, false, true, true, false, true, true, true, true, false, false, false, false, false, false, false, false, false] rfl rfl (any_of HT_.out (by kernel_rfl)) (fun _ _ _ h => h) (Or.inl ⟨by rfl, ?_⟩) ?_ ?_
                rotate_left
                · intro w'
                  go_simp
                  with_reducible rfl
                rotate_left
                · simp only [Act.put, List.setIfInBounds_toArray, List.set_cons_zero, List.set_cons_succ, i64_w, i32_w]
                  rfl
                refine take_ (i := 1) (N := some 37) (v := ?_) (a' := ?_) #[true, true, true, true, false, true, true, false, true, true, true, true, false, false, false, false, false, false, false, false, false] rfl rfl (take_ofW HT_.out HW_.out (by kernel_rfl)) (fun _ _ _ h => h) (Or.inl ⟨by rfl, ?_⟩) hHeld ?_ ?_
                rotate_left
                · rintro w' ⟨s0, s1, s2, s3, s4, s5, s6⟩
                  go_simp
                  with_reducible rfl
                rotate_left
                · simp only [Act.put, List.setIfInBounds_toArray, List.set_cons_zero, List.set_cons_succ, i64_w, i32_w]
                  rfl
                refine pure_ (i := 12) (N := some 48) (v := ?_) (a' := ?_) #[true, true, true, true, false, true, true, false, true, true, true, true, true, false, false, false, false, false, false, false, false] rfl rfl (any_of HT_.out (by kernel_rfl)) (fun _ _ _ h => h) (Or.inl ⟨by rfl, ?_⟩) ?_ ?_
                rotate_left
                · intro w'
                  go_simp
                  with_reducible rfl
                rotate_left
                · simp only [Act.put, List.setIfInBounds_toArray, List.set_cons_zero, List.set_cons_succ, i64_w, i32_w]
                  rfl
                refine pure_ (i := 13) (N := some 49) (v := ?_) (a' := ?_) #[true, true, true, true, false, true, true, false, true, true, true, true, true, true, false, false, false, false, false, false, false] rfl rfl (any_of HT_.out (by kernel_rfl)) (fun _ _ _ h => h) (Or.inl ⟨by rfl, ?_⟩) ?_ ?_
                rotate_left
                · intro w'
                  go_simp
                  with_reducible rfl
                rotate_left
                · simp only [Act.put, List.setIfInBounds_toArray, List.set_cons_zero, List.set_cons_succ, i64_w, i32_w]
                  rfl
                refine take_ (i := 4) (N := some 40) (v := ?_) (a' := ?_) #[true, true, true, true, true, true, true, false, true, true, true, true, true, true, false, false, false, false, false, false, false] rfl rfl (take_ofW HT_.out HW_.out (by kernel_rfl)) (fun _ _ _ h => h) (Or.inl ⟨by rfl, ?_⟩) hHeld ?_ ?_
                rotate_left
                · rintro w' ⟨s0, s1, s2, s3, s4, s5, s6⟩
                  go_simp
                  with_reducible rfl
                rotate_left
                · simp only [Act.put, List.setIfInBounds_toArray, List.set_cons_zero, List.set_cons_succ, i64_w, i32_w]
                  rfl
                refine take_ (i := 7) (N := some 43) (v := ?_) (a' := ?_) #[true, true, true, true, true, true, true, true, true, true, true, true, true, true, false, false, false, false, false, false, false] rfl rfl (take_ofW HT_.out HW_.out (by kernel_rfl)) (fun _ _ _ h => h) (Or.inl ⟨by rfl, ?_⟩) hHeld ?_ ?_
                rotate_left
                · rintro w' ⟨s0, s1, s2, s3, s4, s5, s6⟩
                  go_simp
                  with_reducible rfl
                rotate_left
                · simp only [Act.put, List.setIfInBounds_toArray, List.set_cons_zero, List.set_cons_succ, i64_w, i32_w]
                  rfl
                refine one_ (i := 14) (N := none) #[true, true, true, true, true, true, true, true, true, true, true, true, true, true, true, false, false, false, false, false, false] rfl rfl (one_of HT_.out (by kernel_rfl)) (by decide) (fun K hK => ?_)
                refine skip_ (w1 := ?_) (by rfl) rfl ?_ ?_
                rotate_left
                · go_simp
                  rfl
                refine hK.out _ _ ⟨((cell_far (p := ⟨go22, _, none⟩) (show gb139 ≠ go22 from (by have h_ := Kd.R_ne HO_140006.out BK139.out (by decide); intro e_; exact h_ (by rw [e_]; rfl))) _).trans (hHeld.1)), ((cell_far (p := ⟨go22, _, none⟩) (show gb139 ≠ go22 from (by have h_ := Kd.R_ne HO_140006.out BK139.out (by decide); intro e_; exact h_ (by rw [e_]; rfl))) _).trans (hHeld.2.1)), ((cell_far (p := ⟨go22, _, none⟩) (show gb139 ≠ go22 from (by have h_ := Kd.R_ne HO_140006.out BK139.out (by decide); intro e_; exact h_ (by rw [e_]; rfl))) _).trans (hHeld.2.2.1)), ((cell_far (p := ⟨go22, _, none⟩) (show gb139 ≠ go22 from (by have h_ := Kd.R_ne HO_140006.out BK139.out (by decide); intro e_; exact h_ (by rw [e_]; rfl))) _).trans (hHeld.2.2.2.1)), ((cell_far (p := ⟨go22, _, none⟩) (show gb139 ≠ go22 from (by have h_ := Kd.R_ne HO_140006.out BK139.out (by decide); intro e_; exact h_ (by rw [e_]; rfl))) _).trans (hHeld.2.2.2.2.1)), ((cell_far (p := ⟨go22, _, none⟩) (show gb139 ≠ go22 from (by have h_ := Kd.R_ne HO_140006.out BK139.out (by decide); intro e_; exact h_ (by rw [e_]; rfl))) _).trans (hHeld.2.2.2.2.2.1)), ((cell_far (p := ⟨go22, _, none⟩) (show gb139 ≠ go22 from (by have h_ := Kd.R_ne HO_140006.out BK139.out (by decide); intro e_; exact h_ (by rw [e_]; rfl))) _).trans (hHeld.2.2.2.2.2.2))⟩ (fun hHeld => ?_)
                clear hK K
                refine pure_ (i := 15) (N := some 50) (v := ?_) (a' := ?_) #[true, true, true, true, true, true, true, true, true, true, true, true, true, true, true, true, false, false, false, false, false] rfl rfl (any_of HT_.out (by kernel_rfl)) (fun _ _ _ h => h) (Or.inl ⟨by rfl, ?_⟩) ?_ ?_
                rotate_left
                · intro w'
                  go_simp
                  with_reducible rfl
                rotate_left
                · simp only [Act.put, List.setIfInBounds_toArray, List.set_cons_zero, List.set_cons_succ, i64_w, i32_w]
                  rfl
                refine pure_ (i := 16) (N := some 51) (v := ?_) (a' := ?_) #[true, true, true, true, true, true, true, true, true, true, true, true, true, true, true, true, true, false, false, false, false] rfl rfl (any_of HT_.out (by kernel_rfl)) (fun _ _ _ h => h) (Or.inl ⟨by rfl, ?_⟩) ?_ ?_
                rotate_left
                · intro w'
                  go_simp
                  with_reducible rfl
                rotate_left
                · simp only [Act.put, List.setIfInBounds_toArray, List.set_cons_zero, List.set_cons_succ, i64_w, i32_w]
                  rfl
                refine one_ (i := 17) (N := none) #[true, true, true, true, true, true, true, true, true, true, true, true, true, true, true, true, true, true, false, false, false] rfl rfl (one_of HT_.out (by kernel_rfl)) (by decide) (fun K hK => ?_)
                refine skip_ (w1 := ?_) (by rfl) rfl ?_ ?_
                rotate_left
                · go_simp
                  rfl
                refine hK.out _ _ ⟨((cell_far (p := ⟨go22, _, none⟩) (show gb139 ≠ go22 from (by have h_ := Kd.R_ne HO_140006.out BK139.out (by decide); intro e_; exact h_ (by rw [e_]; rfl))) _).trans (hHeld.1)), ((cell_far (p := ⟨go22, _, none⟩) (show gb139 ≠ go22 from (by have h_ := Kd.R_ne HO_140006.out BK139.out (by decide); intro e_; exact h_ (by rw [e_]; rfl))) _).trans (hHeld.2.1)), ((cell_far (p := ⟨go22, _, none⟩) (show gb139 ≠ go22 from (by have h_ := Kd.R_ne HO_140006.out BK139.out (by decide); intro e_; exact h_ (by rw [e_]; rfl))) _).trans (hHeld.2.2.1)), ((cell_far (p := ⟨go22, _, none⟩) (show gb139 ≠ go22 from (by have h_ := Kd.R_ne HO_140006.out BK139.out (by decide); intro e_; exact h_ (by rw [e_]; rfl))) _).trans (hHeld.2.2.2.1)), ((cell_far (p := ⟨go22, _, none⟩) (show gb139 ≠ go22 from (by have h_ := Kd.R_ne HO_140006.out BK139.out (by decide); intro e_; exact h_ (by rw [e_]; rfl))) _).trans (hHeld.2.2.2.2.1)), ((cell_far (p := ⟨go22, _, none⟩) (show gb139 ≠ go22 from (by have h_ := Kd.R_ne HO_140006.out BK139.out (by decide); intro e_; exact h_ (by rw [e_]; rfl))) _).trans (hHeld.2.2.2.2.2.1)), ((cell_far (p := ⟨go22, _, none⟩) (show gb139 ≠ go22 from (by have h_ := Kd.R_ne HO_140006.out BK139.out (by decide); intro e_; exact h_ (by rw [e_]; rfl))) _).trans (hHeld.2.2.2.2.2.2))⟩ (fun hHeld => ?_)
                clear hK K
                refine pure_ (i := 18) (N := some 52) (v := ?_) (a' := ?_) #[true, true, true, true, true, true, true, true, true, true, true, true, true, true, true, true, true, true, true, false, false] rfl rfl (any_of HT_.out (by kernel_rfl)) (fun _ _ _ h => h) (Or.inl ⟨by rfl, ?_⟩) ?_ ?_
                rotate_left
                · intro w'
                  go_simp
                  with_reducible rfl
                rotate_left
                · simp only [Act.put, List.setIfInBounds_toArray, List.set_cons_zero, List.set_cons_succ, i64_w, i32_w]
                  rfl
                refine pure_ (i := 19) (N := some 53) (v := ?_) (a' := ?_) #[true, true, true, true, true, true, true, true, true, true, true, true, true, true, true, true, true, true, true, true, false] rfl rfl (any_of HT_.out (by kernel_rfl)) (fun _ _ _ h => h) (Or.inl ⟨by rfl, ?_⟩) ?_ ?_
                rotate_left
                · intro w'
                  go_simp
                  with_reducible rfl
                rotate_left
                · simp only [Act.put, List.setIfInBounds_toArray, List.set_cons_zero, List.set_cons_succ, i64_w, i32_w]
                  rfl
                refine one_ (i := 20) (N := none) #[true, true, true, true, true, true, true, true, true, true, true, true, true, true, true, true, true, true, true, true, true] rfl rfl (one_of HT_.out (by kernel_rfl)) (by decide) (fun K hK => ?_)
                refine skip_ (w1 := ?_) (by rfl) rfl ?_ ?_
                rotate_left
                · go_simp
                  rfl
                refine hK.out _ _ ⟨((cell_far (p := ⟨go22, _, none⟩) (show gb139 ≠ go22 from (by have h_ := Kd.R_ne HO_140006.out BK139.out (by decide); intro e_; exact h_ (by rw [e_]; rfl))) _).trans (hHeld.1)), ((cell_far (p := ⟨go22, _, none⟩) (show gb139 ≠ go22 from (by have h_ := Kd.R_ne HO_140006.out BK139.out (by decide); intro e_; exact h_ (by rw [e_]; rfl))) _).trans (hHeld.2.1)), ((cell_far (p := ⟨go22, _, none⟩) (show gb139 ≠ go22 from (by have h_ := Kd.R_ne HO_140006.out BK139.out (by decide); intro e_; exact h_ (by rw [e_]; rfl))) _).trans (hHeld.2.2.1)), ((cell_far (p := ⟨go22, _, none⟩) (show gb139 ≠ go22 from (by have h_ := Kd.R_ne HO_140006.out BK139.out (by decide); intro e_; exact h_ (by rw [e_]; rfl))) _).trans (hHeld.2.2.2.1)), ((cell_far (p := ⟨go22, _, none⟩) (show gb139 ≠ go22 from (by have h_ := Kd.R_ne HO_140006.out BK139.out (by decide); intro e_; exact h_ (by rw [e_]; rfl))) _).trans (hHeld.2.2.2.2.1)), ((cell_far (p := ⟨go22, _, none⟩) (show gb139 ≠ go22 from (by have h_ := Kd.R_ne HO_140006.out BK139.out (by decide); intro e_; exact h_ (by rw [e_]; rfl))) _).trans (hHeld.2.2.2.2.2.1)), ((cell_far (p := ⟨go22, _, none⟩) (show gb139 ≠ go22 from (by have h_ := Kd.R_ne HO_140006.out BK139.out (by decide); intro e_; exact h_ (by rw [e_]; rfl))) _).trans (hHeld.2.2.2.2.2.2))⟩ (fun hHeld => ?_)
                clear hK K
                refine done_ (done_of HT_.out (by kernel_rfl)) ?_
                try go_wp2
                go_roundg k1
                case measure => have := HK1.out; omega
                case rel => exact ⟨(wrap64 (x26_1 + 1)), (y143), (.slice (some ⟨go22, 0, none⟩) x140006_1.length co27), (by first | rfl | (simp; done) | (simp [*]; done)), H', ⟨by have := HK1.out; omega⟩, ⟨by (with_reducible repeat (first | apply Kd.R_alloc | apply Kd.R_drewN | apply Kd.R_drew)); exact HQ31.out⟩, ⟨by (with_reducible repeat (first | refine blk_drewN ?_ _ | refine blk_drew ?_ | refine blk_alloc ?_ _)); refine blk_far ?_ (by have h_ := Kd.R_ne HO_140006.out BK128.out (by decide); intro e_; exact h_ (by rw [e_]; rfl)) _; (with_reducible repeat (first | refine blk_drewN ?_ _ | refine blk_drew ?_ | refine blk_alloc ?_ _)); refine blk_far ?_ (by have h_ := Kd.R_ne HO_140006.out BK128.out (by decide); intro e_; exact h_ (by rw [e_]; rfl)) _; (with_reducible repeat (first | refine blk_drewN ?_ _ | refine blk_drew ?_ | refine blk_alloc ?_ _)); refine blk_far ?_ (by have h_ := Kd.R_ne HO_140006.out BK128.out (by decide); intro e_; exact h_ (by rw [e_]; rfl)) _; (with_reducible repeat (first | refine blk_drewN ?_ _ | refine blk_drew ?_ | refine blk_alloc ?_ _)); exact BK128.out⟩, ⟨by (with_reducible repeat (first | refine blk_drewN ?_ _ | refine blk_drew ?_ | refine blk_alloc ?_ _)); refine blk_far ?_ (by have h_ := Kd.R_ne HO_140006.out BK139.out (by decide); intro e_; exact h_ (by rw [e_]; rfl)) _; (with_reducible repeat (first | refine blk_drewN ?_ _ | refine blk_drew ?_ | refine blk_alloc ?_ _)); refine blk_far ?_ (by have h_ := Kd.R_ne HO_140006.out BK139.out (by decide); intro e_; exact h_ (by rw [e_]; rfl)) _; (with_reducible repeat (first | refine blk_drewN ?_ _ | refine blk_drew ?_ | refine blk_alloc ?_ _)); refine blk_far ?_ (by have h_ := Kd.R_ne HO_140006.out BK139.out (by decide); intro e_; exact h_ (by rw [e_]; rfl)) _; (with_reducible repeat (first | refine blk_drewN ?_ _ | refine blk_drew ?_ | refine blk_alloc ?_ _)); exact BK139.out⟩, ⟨by repeat (first | (with_reducible first | exact HB.out | apply below_alloc | apply pw_below_drewN | apply below_drew1 | refine below_set ?_ GB22.out | refine below_set ?_ GB22.out | refine below_set ?_ GB22.out | refine below_set ?_ GE128.out | refine below_set ?_ GE139.out) | exact HB.out)⟩⟩
              · rw [if_neg c21] at H
                have c21b0 : (((rd_T32 x140006_1 x26_1).f4) == 83) = false := beq_eq_false_iff_ne.mpr c21
                have c21b1 : (((rd_T32 x140006_1 x26_1).f4) != 83) = true := bne_iff_ne.mpr c21
                have H' := Aside0.mk H
                clear H
                have hnb32 := NB139_128.out
                have hnc32 := NB128_139.out
                have hcz33_0 : wr.cell? ⟨gb139, 0, none⟩ = some (.string t130) := (blk_cell BK139.out 0).trans rfl
                have hcz33_1 : wr.cell? ⟨gb139, 1, none⟩ = some (.int .i64 t131) := (blk_cell BK139.out 1).trans rfl
                have hcz33_2 : wr.cell? ⟨gb139, 2, none⟩ = some (.int .i64 t132) := (blk_cell BK139.out 2).trans rfl
                have hcz33_3 : wr.cell? ⟨gb139, 3, none⟩ = some (.int .i64 t133) := (blk_cell BK139.out 3).trans rfl
                have hcz33_4 : wr.cell? ⟨gb139, 4, none⟩ = some (.int .i64 t134) := (blk_cell BK139.out 4).trans rfl
                have hcz33_5 : wr.cell? ⟨gb139, 5, none⟩ = some (.int .i64 t135) := (blk_cell BK139.out 5).trans rfl
                have hcz33_6 : wr.cell? ⟨gb139, 6, none⟩ = some (u140006) := (blk_cell BK139.out 6).trans rfl
                have hfz33_0 := blk_frozen BK139.out 0
                have hfz33_1 := blk_frozen BK139.out 1
                have hfz33_2 := blk_frozen BK139.out 2
                have hfz33_3 := blk_frozen BK139.out 3
                have hfz33_4 := blk_frozen BK139.out 4
                have hfz33_5 := blk_frozen BK139.out 5
                have hfz33_6 := blk_frozen BK139.out 6
                obtain ⟨Ao34, co34, eo34⟩ := Kd.R_slice HO_140006.out
                subst eo34
                have p140 : 0 ≤ (x26_1 : Int) := of_decide_eq_true (by first | (with_reducible assumption) | assumption)
                have q140 : x26_1 < (x140006_1.length : Int) := of_decide_eq_true (by first | (with_reducible assumption) | assumption)
                obtain ⟨ad140, e140, hx140_0, hx140_1, hx140_2, hx140_3, hx140_4⟩ := at_T32 (Kd.R_reads' HO_140006.out).2.2 x26_1 p140 q140
                cases e140
                replace p140 := eq_true p140
                replace q140 := eq_true q140
                go_wp2
                go_roundg k1
                case measure => have := HK1.out; omega
                case rel => exact ⟨(wrap64 (x26_1 + 1)), (x140006_1), (.slice (some ad140) x140006_1.length co34), (by first | rfl | (simp; done) | (simp [*]; done)), H', ⟨by have := HK1.out; omega⟩, ⟨by (with_reducible repeat (first | apply Kd.R_alloc | apply Kd.R_drewN | apply Kd.R_drew)); exact HO_140006.out⟩, ⟨by (with_reducible repeat (first | refine blk_drewN ?_ _ | refine blk_drew ?_ | refine blk_alloc ?_ _)); exact BK128.out⟩, ⟨by (with_reducible repeat (first | refine blk_drewN ?_ _ | refine blk_drew ?_ | refine blk_alloc ?_ _)); exact BK139.out⟩, ⟨by repeat (first | (with_reducible first | exact HB.out | apply below_alloc | apply pw_below_drewN | apply below_drew1 | refine below_set ?_ GE128.out | refine below_set ?_ GE139.out) | exact HB.out)⟩⟩
            · rw [if_neg c20] at H
              exact absurd H (by simp)
          · rw [if_neg c19] at H
            exact absurd H (by simp)
        · rw [if_neg c18] at H
          have c18b0 : decide (x26_1 < (t136.length : Int)) = false := decide_eq_false c18
          clear c18
          replace H := Option.bind_eq_some_iff.mp H
          obtain ⟨⟨t144, t145, t146, t147, t148, t149, t150⟩, A350, H⟩ := H
          replace H : ((vee_Check.f k1 t144 t145 t146 t147 t148 t149 t150 a1 a2).bind fun bt153 => ((vee_Check.f k1 t130 t131 t132 t133 t134 t135 x140006_1 a1 a2).bind fun bt155 => (if bt153.1 = bt155.1 then (some (bt153.2 == bt155.2)) else (some false)))) = some r := H
          have A35 := Aside0.mk A350
          clear A350
          replace H := Option.bind_eq_some_iff.mp H
          obtain ⟨⟨t153, t154⟩, A360, H⟩ := H
          replace H : ((vee_Check.f k1 t130 t131 t132 t133 t134 t135 x140006_1 a1 a2).bind fun bt155 => (if t153 = bt155.1 then (some (t154 == bt155.2)) else (some false))) = some r := H
          have A36 := Aside0.mk A360
          clear A360
          replace H := Option.bind_eq_some_iff.mp H
          obtain ⟨⟨t155, t156⟩, A370, H⟩ := H
          replace H : (if t153 = t155 then (some (t154 == t156)) else (some false)) = some r := H
          have A37 := Aside0.mk A370
          clear A370
          by_cases c38 : t153 = t155
          · rw [if_pos c38] at H
            have c38b0 : (t153 == t155) = true := beq_iff_eq.mpr c38
            have c38b1 : (t153 != t155) = false := bne_eq_false_iff_eq.mpr c38
            clear c38
            obtain rfl := Option.some.inj H
            have hnb39 := NB128_139.out
            have hnc39 := NB139_128.out
            have hcz40_0 : wr.cell? ⟨gb128, 0, none⟩ = some (.string a0_0) := (blk_cell BK128.out 0).trans rfl
            have hcz40_1 : wr.cell? ⟨gb128, 1, none⟩ = some (.int .i64 a0_1) := (blk_cell BK128.out 1).trans rfl
            have hcz40_2 : wr.cell? ⟨gb128, 2, none⟩ = some (.int .i64 a0_2) := (blk_cell BK128.out 2).trans rfl
            have hcz40_3 : wr.cell? ⟨gb128, 3, none⟩ = some (.int .i64 a0_3) := (blk_cell BK128.out 3).trans rfl
            have hcz40_4 : wr.cell? ⟨gb128, 4, none⟩ = some (.int .i64 a0_4) := (blk_cell BK128.out 4).trans rfl
            have hcz40_5 : wr.cell? ⟨gb128, 5, none⟩ = some (.int .i64 a0_5) := (blk_cell BK128.out 5).trans rfl
            have hcz40_6 : wr.cell? ⟨gb128, 6, none⟩ = some (.slice A0_6 l0_6.length c0_6) := (blk_cell BK128.out 6).trans rfl
            have hfz40_0 := blk_frozen BK128.out 0
            have hfz40_1 := blk_frozen BK128.out 1
            have hfz40_2 := blk_frozen BK128.out 2
            have hfz40_3 := blk_frozen BK128.out 3
            have hfz40_4 := blk_frozen BK128.out 4
            have hfz40_5 := blk_frozen BK128.out 5
            have hfz40_6 := blk_frozen BK128.out 6
            go_wp2_with (first | ((with_reducible refine gate_callee (f := 16) rfl ?_); refine goesL_ (some 57) rfl rfl Try.func16 (by kernel_rfl) rfl #[.agg #[.string a0_0, .int .i64 a0_1, .int .i64 a0_2, .int .i64 a0_3, .int .i64 a0_4, .int .i64 a0_5, .slice A0_6 l0_6.length c0_6]] rfl (by (try simp only [List.map_toArray, List.map_cons, List.map_nil]); first | done | rfl | (simp only [List.length_drop, List.length_take]; rfl)) ?_; (with_reducible refine (pylonlaw10_copyFile.calls a0_0 a0_1 a0_2 a0_3 a0_4 a0_5 _ _ l0_6 t144 t145 t146 t147 t148 t149 t150 _ ?side1 ?side2 A35.out).mono ?_); (case side1 => repeat (first | exact (Kd.C_below HR0_6.out HB.out) | (with_reducible refine Kd.C_alloc ?_ _) | (with_reducible refine Kd.C_drewN ?_ _) | (with_reducible refine Kd.C_drew ?_))); (case side2 => exact HC0_6.out); rintro e w41 ⟨v151, rfl, ho0, hb⟩; refine ⟨_, rfl, ?_⟩; have n0_ := Aside0.mk (Kd.R_elder' (by (with_reducible repeat (first | apply Kd.R_alloc | apply Kd.R_drewN | apply Kd.R_drew)); exact HO_140006.out) (Kd.R_base ho0) hb); have n1_ := Aside0.mk (Kd.R_lower (Kd.R_new' ho0 (Kd.R_lt (by (with_reducible repeat (first | apply Kd.R_alloc | apply Kd.R_drewN | apply Kd.R_drew)); exact HO_140006.out))) (below_size (by repeat (first | (with_reducible first | exact HB.out | apply below_alloc | apply pw_below_drewN | apply below_drew1 | refine below_set ?_ GE128.out | refine below_set ?_ GE139.out) | exact HB.out)))); have n2_ := Aside0.mk (blk_below (g := gb128) (o := .cells #[.string a0_0, .int .i64 a0_1, .int .i64 a0_2, .int .i64 a0_3, .int .i64 a0_4, .int .i64 a0_5, .slice A0_6 l0_6.length c0_6] 24 (0, 0)) (by (with_reducible repeat (first | refine blk_drewN ?_ _ | refine blk_drew ?_ | refine blk_alloc ?_ _)); exact BK128.out) hb); have n3_ := Aside0.mk (blk_below (g := gb139) (o := .cells #[.string t130, .int .i64 t131, .int .i64 t132, .int .i64 t133, .int .i64 t134, .int .i64 t135, u140006] 24 (0, 0)) (by (with_reducible repeat (first | refine blk_drewN ?_ _ | refine blk_drew ?_ | refine blk_alloc ?_ _)); exact BK139.out) hb); have n4_ := Aside0.mk (below_step (by repeat (first | (with_reducible first | exact HB.out | apply below_alloc | apply pw_below_drewN | apply below_drew1 | refine below_set ?_ GE128.out | refine below_set ?_ GE139.out) | exact HB.out)) hb); clear HO_140006; clear BK128; clear BK139; clear HB; have HO_140006 := n0_; have HO152 := n1_; have BK128 := n2_; have BK139 := n3_; have HB := n4_; clear n0_ n1_ n2_ n3_ n4_; (try clear hb); (try clear hb2); (try clear hk); (try clear hi); (try clear ho0); obtain ⟨Ao42, co42, eo42⟩ := Kd.R_slice HO152.out; subst eo42) | ((with_reducible refine gate_callee (f := 15) rfl ?_); refine goesL_ (some 60) rfl rfl Try.func15 (by kernel_rfl) rfl #[.agg #[.string t144, .int .i64 t145, .int .i64 t146, .int .i64 t147, .int .i64 t148, .int .i64 t149, .slice Ao42 t150.length co42], .int .i64 a1, .int .i64 a2] rfl (by (try simp only [List.map_toArray, List.map_cons, List.map_nil]); first | done | rfl | (simp only [List.length_drop, List.length_take]; rfl)) ?_; (with_reducible refine (vee_Check.calls k1 t144 t145 t146 t147 t148 t149 _ _ t150 a1 a2 t153 t154 _ ?side1 ?side2 A36.out).mono ?_); (case side1 => repeat (first | exact (Kd.R_reads' HO152.out).2.2 | (with_reducible refine Kd.C_alloc ?_ _) | (with_reducible refine Kd.C_drewN ?_ _) | (with_reducible refine Kd.C_drew ?_))); (case side2 => exact (Kd.R_reads' HO152.out).2.1); rintro e w43 ⟨rfl, hb⟩; refine ⟨_, rfl, ?_⟩; have n0_ := Aside0.mk (Kd.R_below (by (with_reducible repeat (first | apply Kd.R_alloc | apply Kd.R_drewN | apply Kd.R_drew)); exact HO_140006.out) hb); have n1_ := Aside0.mk (Kd.R_below (by (with_reducible repeat (first | apply Kd.R_alloc | apply Kd.R_drewN | apply Kd.R_drew)); exact HO152.out) hb); have n2_ := Aside0.mk (blk_below (g := gb128) (o := .cells #[.string a0_0, .int .i64 a0_1, .int .i64 a0_2, .int .i64 a0_3, .int .i64 a0_4, .int .i64 a0_5, .slice A0_6 l0_6.length c0_6] 24 (0, 0)) (by (with_reducible repeat (first | refine blk_drewN ?_ _ | refine blk_drew ?_ | refine blk_alloc ?_ _)); exact BK128.out) hb); have n3_ := Aside0.mk (blk_below (g := gb139) (o := .cells #[.string t130, .int .i64 t131, .int .i64 t132, .int .i64 t133, .int .i64 t134, .int .i64 t135, u140006] 24 (0, 0)) (by (with_reducible repeat (first | refine blk_drewN ?_ _ | refine blk_drew ?_ | refine blk_alloc ?_ _)); exact BK139.out) hb); have n4_ := Aside0.mk (below_step (by repeat (first | (with_reducible first | exact HB.out | apply below_alloc | apply pw_below_drewN | apply below_drew1 | refine below_set ?_ GE128.out | refine below_set ?_ GE139.out) | exact HB.out)) hb); clear HO_140006; clear HO152; clear BK128; clear BK139; clear HB; have HO_140006 := n0_; have HO152 := n1_; have BK128 := n2_; have BK139 := n3_; have HB := n4_; clear n0_ n1_ n2_ n3_ n4_; (try clear hb); (try clear hb2); (try clear hk); (try clear hi); have hcz44_0 : w43.cell? ⟨gb139, 0, none⟩ = some (.string t130) := (blk_cell BK139.out 0).trans rfl; have hcz44_1 : w43.cell? ⟨gb139, 1, none⟩ = some (.int .i64 t131) := (blk_cell BK139.out 1).trans rfl; have hcz44_2 : w43.cell? ⟨gb139, 2, none⟩ = some (.int .i64 t132) := (blk_cell BK139.out 2).trans rfl; have hcz44_3 : w43.cell? ⟨gb139, 3, none⟩ = some (.int .i64 t133) := (blk_cell BK139.out 3).trans rfl; have hcz44_4 : w43.cell? ⟨gb139, 4, none⟩ = some (.int .i64 t134) := (blk_cell BK139.out 4).trans rfl; have hcz44_5 : w43.cell? ⟨gb139, 5, none⟩ = some (.int .i64 t135) := (blk_cell BK139.out 5).trans rfl; have hcz44_6 : w43.cell? ⟨gb139, 6, none⟩ = some (u140006) := (blk_cell BK139.out 6).trans rfl; have hfz44_0 := blk_frozen BK139.out 0; have hfz44_1 := blk_frozen BK139.out 1; have hfz44_2 := blk_frozen BK139.out 2; have hfz44_3 := blk_frozen BK139.out 3; have hfz44_4 := blk_frozen BK139.out 4; have hfz44_5 := blk_frozen BK139.out 5; have hfz44_6 := blk_frozen BK139.out 6; obtain ⟨Ao45, co45, eo45⟩ := Kd.R_slice HO_140006.out; subst eo45) | ((with_reducible refine gate_callee (f := 15) rfl ?_); refine goesL_ (some 67) rfl rfl Try.func15 (by kernel_rfl) rfl #[.agg #[.string t130, .int .i64 t131, .int .i64 t132, .int .i64 t133, .int .i64 t134, .int .i64 t135, .slice Ao45 x140006_1.length co45], .int .i64 a1, .int .i64 a2] rfl (by (try simp only [List.map_toArray, List.map_cons, List.map_nil]); first | done | rfl | (simp only [List.length_drop, List.length_take]; rfl)) ?_; (with_reducible refine (vee_Check.calls k1 t130 t131 t132 t133 t134 t135 _ _ x140006_1 a1 a2 t155 t156 _ ?side1 ?side2 A37.out).mono ?_); (case side1 => repeat (first | exact (Kd.R_reads' HO_140006.out).2.2 | (with_reducible refine Kd.C_alloc ?_ _) | (with_reducible refine Kd.C_drewN ?_ _) | (with_reducible refine Kd.C_drew ?_))); (case side2 => exact (Kd.R_reads' HO_140006.out).2.1); rintro e w46 ⟨rfl, hb⟩; refine ⟨_, rfl, ?_⟩; have n0_ := Aside0.mk (Kd.R_below (by (with_reducible repeat (first | apply Kd.R_alloc | apply Kd.R_drewN | apply Kd.R_drew)); exact HO_140006.out) hb); have n1_ := Aside0.mk (Kd.R_below (by (with_reducible repeat (first | apply Kd.R_alloc | apply Kd.R_drewN | apply Kd.R_drew)); exact HO152.out) hb); have n2_ := Aside0.mk (blk_below (g := gb128) (o := .cells #[.string a0_0, .int .i64 a0_1, .int .i64 a0_2, .int .i64 a0_3, .int .i64 a0_4, .int .i64 a0_5, .slice A0_6 l0_6.length c0_6] 24 (0, 0)) (by (with_reducible repeat (first | refine blk_drewN ?_ _ | refine blk_drew ?_ | refine blk_alloc ?_ _)); exact BK128.out) hb); have n3_ := Aside0.mk (blk_below (g := gb139) (o := .cells #[.string t130, .int .i64 t131, .int .i64 t132, .int .i64 t133, .int .i64 t134, .int .i64 t135, .slice Ao45 x140006_1.length co45] 24 (0, 0)) (by (with_reducible repeat (first | refine blk_drewN ?_ _ | refine blk_drew ?_ | refine blk_alloc ?_ _)); exact BK139.out) hb); have n4_ := Aside0.mk (below_step (by repeat (first | (with_reducible first | exact HB.out | apply below_alloc | apply pw_below_drewN | apply below_drew1 | refine below_set ?_ GE128.out | refine below_set ?_ GE139.out) | exact HB.out)) hb); clear HO_140006; clear HO152; clear BK128; clear BK139; clear HB; have HO_140006 := n0_; have HO152 := n1_; have BK128 := n2_; have BK139 := n3_; have HB := n4_; clear n0_ n1_ n2_ n3_ n4_; (try clear hb); (try clear hb2); (try clear hk); (try clear hi)))
            go_ret
            exact ⟨by first | rfl | (simp [errW_none, errW_some] <;> rfl) | (simp [*, errW_none, errW_some] <;> rfl), by repeat (first | (with_reducible first | exact HB.out | apply below_alloc | apply pw_below_drewN | apply below_drew1 | refine below_set ?_ GE128.out | refine below_set ?_ GE139.out) | exact HB.out)⟩
          · rw [if_neg c38] at H
            have c38b0 : (t153 == t155) = false := beq_eq_false_iff_ne.mpr c38
            have c38b1 : (t153 != t155) = true := bne_iff_ne.mpr c38
            obtain rfl := Option.some.inj H
            have hnb47 := NB128_139.out
            have hnc47 := NB139_128.out
            have hcz48_0 : wr.cell? ⟨gb128, 0, none⟩ = some (.string a0_0) := (blk_cell BK128.out 0).trans rfl
            have hcz48_1 : wr.cell? ⟨gb128, 1, none⟩ = some (.int .i64 a0_1) := (blk_cell BK128.out 1).trans rfl
            have hcz48_2 : wr.cell? ⟨gb128, 2, none⟩ = some (.int .i64 a0_2) := (blk_cell BK128.out 2).trans rfl
            have hcz48_3 : wr.cell? ⟨gb128, 3, none⟩ = some (.int .i64 a0_3) := (blk_cell BK128.out 3).trans rfl
            have hcz48_4 : wr.cell? ⟨gb128, 4, none⟩ = some (.int .i64 a0_4) := (blk_cell BK128.out 4).trans rfl
            have hcz48_5 : wr.cell? ⟨gb128, 5, none⟩ = some (.int .i64 a0_5) := (blk_cell BK128.out 5).trans rfl
            have hcz48_6 : wr.cell? ⟨gb128, 6, none⟩ = some (.slice A0_6 l0_6.length c0_6) := (blk_cell BK128.out 6).trans rfl
            have hfz48_0 := blk_frozen BK128.out 0
            have hfz48_1 := blk_frozen BK128.out 1
            have hfz48_2 := blk_frozen BK128.out 2
            have hfz48_3 := blk_frozen BK128.out 3
            have hfz48_4 := blk_frozen BK128.out 4
            have hfz48_5 := blk_frozen BK128.out 5
            have hfz48_6 := blk_frozen BK128.out 6
            go_wp2_with (first | ((with_reducible refine gate_callee (f := 16) rfl ?_); refine goesL_ (some 57) rfl rfl Try.func16 (by kernel_rfl) rfl #[.agg #[.string a0_0, .int .i64 a0_1, .int .i64 a0_2, .int .i64 a0_3, .int .i64 a0_4, .int .i64 a0_5, .slice A0_6 l0_6.length c0_6]] rfl (by (try simp only [List.map_toArray, List.map_cons, List.map_nil]); first | done | rfl | (simp only [List.length_drop, List.length_take]; rfl)) ?_; (with_reducible refine (pylonlaw10_copyFile.calls a0_0 a0_1 a0_2 a0_3 a0_4 a0_5 _ _ l0_6 t144 t145 t146 t147 t148 t149 t150 _ ?side1 ?side2 A35.out).mono ?_); (case side1 => repeat (first | exact (Kd.C_below HR0_6.out HB.out) | (with_reducible refine Kd.C_alloc ?_ _) | (with_reducible refine Kd.C_drewN ?_ _) | (with_reducible refine Kd.C_drew ?_))); (case side2 => exact HC0_6.out); rintro e w49 ⟨v151, rfl, ho0, hb⟩; refine ⟨_, rfl, ?_⟩; have n0_ := Aside0.mk (Kd.R_elder' (by (with_reducible repeat (first | apply Kd.R_alloc | apply Kd.R_drewN | apply Kd.R_drew)); exact HO_140006.out) (Kd.R_base ho0) hb); have n1_ := Aside0.mk (Kd.R_lower (Kd.R_new' ho0 (Kd.R_lt (by (with_reducible repeat (first | apply Kd.R_alloc | apply Kd.R_drewN | apply Kd.R_drew)); exact HO_140006.out))) (below_size (by repeat (first | (with_reducible first | exact HB.out | apply below_alloc | apply pw_below_drewN | apply below_drew1 | refine below_set ?_ GE128.out | refine below_set ?_ GE139.out) | exact HB.out)))); have n2_ := Aside0.mk (blk_below (g := gb128) (o := .cells #[.string a0_0, .int .i64 a0_1, .int .i64 a0_2, .int .i64 a0_3, .int .i64 a0_4, .int .i64 a0_5, .slice A0_6 l0_6.length c0_6] 24 (0, 0)) (by (with_reducible repeat (first | refine blk_drewN ?_ _ | refine blk_drew ?_ | refine blk_alloc ?_ _)); exact BK128.out) hb); have n3_ := Aside0.mk (blk_below (g := gb139) (o := .cells #[.string t130, .int .i64 t131, .int .i64 t132, .int .i64 t133, .int .i64 t134, .int .i64 t135, u140006] 24 (0, 0)) (by (with_reducible repeat (first | refine blk_drewN ?_ _ | refine blk_drew ?_ | refine blk_alloc ?_ _)); exact BK139.out) hb); have n4_ := Aside0.mk (below_step (by repeat (first | (with_reducible first | exact HB.out | apply below_alloc | apply pw_below_drewN | apply below_drew1 | refine below_set ?_ GE128.out | refine below_set ?_ GE139.out) | exact HB.out)) hb); clear HO_140006; clear BK128; clear BK139; clear HB; have HO_140006 := n0_; have HO152 := n1_; have BK128 := n2_; have BK139 := n3_; have HB := n4_; clear n0_ n1_ n2_ n3_ n4_; (try clear hb); (try clear hb2); (try clear hk); (try clear hi); (try clear ho0); obtain ⟨Ao50, co50, eo50⟩ := Kd.R_slice HO152.out; subst eo50) | ((with_reducible refine gate_callee (f := 15) rfl ?_); refine goesL_ (some 60) rfl rfl Try.func15 (by kernel_rfl) rfl #[.agg #[.string t144, .int .i64 t145, .int .i64 t146, .int .i64 t147, .int .i64 t148, .int .i64 t149, .slice Ao50 t150.length co50], .int .i64 a1, .int .i64 a2] rfl (by (try simp only [List.map_toArray, List.map_cons, List.map_nil]); first | done | rfl | (simp only [List.length_drop, List.length_take]; rfl)) ?_; (with_reducible refine (vee_Check.calls k1 t144 t145 t146 t147 t148 t149 _ _ t150 a1 a2 t153 t154 _ ?side1 ?side2 A36.out).mono ?_); (case side1 => repeat (first | exact (Kd.R_reads' HO152.out).2.2 | (with_reducible refine Kd.C_alloc ?_ _) | (with_reducible refine Kd.C_drewN ?_ _) | (with_reducible refine Kd.C_drew ?_))); (case side2 => exact (Kd.R_reads' HO152.out).2.1); rintro e w51 ⟨rfl, hb⟩; refine ⟨_, rfl, ?_⟩; have n0_ := Aside0.mk (Kd.R_below (by (with_reducible repeat (first | apply Kd.R_alloc | apply Kd.R_drewN | apply Kd.R_drew)); exact HO_140006.out) hb); have n1_ := Aside0.mk (Kd.R_below (by (with_reducible repeat (first | apply Kd.R_alloc | apply Kd.R_drewN | apply Kd.R_drew)); exact HO152.out) hb); have n2_ := Aside0.mk (blk_below (g := gb128) (o := .cells #[.string a0_0, .int .i64 a0_1, .int .i64 a0_2, .int .i64 a0_3, .int .i64 a0_4, .int .i64 a0_5, .slice A0_6 l0_6.length c0_6] 24 (0, 0)) (by (with_reducible repeat (first | refine blk_drewN ?_ _ | refine blk_drew ?_ | refine blk_alloc ?_ _)); exact BK128.out) hb); have n3_ := Aside0.mk (blk_below (g := gb139) (o := .cells #[.string t130, .int .i64 t131, .int .i64 t132, .int .i64 t133, .int .i64 t134, .int .i64 t135, u140006] 24 (0, 0)) (by (with_reducible repeat (first | refine blk_drewN ?_ _ | refine blk_drew ?_ | refine blk_alloc ?_ _)); exact BK139.out) hb); have n4_ := Aside0.mk (below_step (by repeat (first | (with_reducible first | exact HB.out | apply below_alloc | apply pw_below_drewN | apply below_drew1 | refine below_set ?_ GE128.out | refine below_set ?_ GE139.out) | exact HB.out)) hb); clear HO_140006; clear HO152; clear BK128; clear BK139; clear HB; have HO_140006 := n0_; have HO152 := n1_; have BK128 := n2_; have BK139 := n3_; have HB := n4_; clear n0_ n1_ n2_ n3_ n4_; (try clear hb); (try clear hb2); (try clear hk); (try clear hi); have hcz52_0 : w51.cell? ⟨gb139, 0, none⟩ = some (.string t130) := (blk_cell BK139.out 0).trans rfl; have hcz52_1 : w51.cell? ⟨gb139, 1, none⟩ = some (.int .i64 t131) := (blk_cell BK139.out 1).trans rfl; have hcz52_2 : w51.cell? ⟨gb139, 2, none⟩ = some (.int .i64 t132) := (blk_cell BK139.out 2).trans rfl; have hcz52_3 : w51.cell? ⟨gb139, 3, none⟩ = some (.int .i64 t133) := (blk_cell BK139.out 3).trans rfl; have hcz52_4 : w51.cell? ⟨gb139, 4, none⟩ = some (.int .i64 t134) := (blk_cell BK139.out 4).trans rfl; have hcz52_5 : w51.cell? ⟨gb139, 5, none⟩ = some (.int .i64 t135) := (blk_cell BK139.out 5).trans rfl; have hcz52_6 : w51.cell? ⟨gb139, 6, none⟩ = some (u140006) := (blk_cell BK139.out 6).trans rfl; have hfz52_0 := blk_frozen BK139.out 0; have hfz52_1 := blk_frozen BK139.out 1; have hfz52_2 := blk_frozen BK139.out 2; have hfz52_3 := blk_frozen BK139.out 3; have hfz52_4 := blk_frozen BK139.out 4; have hfz52_5 := blk_frozen BK139.out 5; have hfz52_6 := blk_frozen BK139.out 6; obtain ⟨Ao53, co53, eo53⟩ := Kd.R_slice HO_140006.out; subst eo53) | ((with_reducible refine gate_callee (f := 15) rfl ?_); refine goesL_ (some 67) rfl rfl Try.func15 (by kernel_rfl) rfl #[.agg #[.string t130, .int .i64 t131, .int .i64 t132, .int .i64 t133, .int .i64 t134, .int .i64 t135, .slice Ao53 x140006_1.length co53], .int .i64 a1, .int .i64 a2] rfl (by (try simp only [List.map_toArray, List.map_cons, List.map_nil]); first | done | rfl | (simp only [List.length_drop, List.length_take]; rfl)) ?_; (with_reducible refine (vee_Check.calls k1 t130 t131 t132 t133 t134 t135 _ _ x140006_1 a1 a2 t155 t156 _ ?side1 ?side2 A37.out).mono ?_); (case side1 => repeat (first | exact (Kd.R_reads' HO_140006.out).2.2 | (with_reducible refine Kd.C_alloc ?_ _) | (with_reducible refine Kd.C_drewN ?_ _) | (with_reducible refine Kd.C_drew ?_))); (case side2 => exact (Kd.R_reads' HO_140006.out).2.1); rintro e w54 ⟨rfl, hb⟩; refine ⟨_, rfl, ?_⟩; have n0_ := Aside0.mk (Kd.R_below (by (with_reducible repeat (first | apply Kd.R_alloc | apply Kd.R_drewN | apply Kd.R_drew)); exact HO_140006.out) hb); have n1_ := Aside0.mk (Kd.R_below (by (with_reducible repeat (first | apply Kd.R_alloc | apply Kd.R_drewN | apply Kd.R_drew)); exact HO152.out) hb); have n2_ := Aside0.mk (blk_below (g := gb128) (o := .cells #[.string a0_0, .int .i64 a0_1, .int .i64 a0_2, .int .i64 a0_3, .int .i64 a0_4, .int .i64 a0_5, .slice A0_6 l0_6.length c0_6] 24 (0, 0)) (by (with_reducible repeat (first | refine blk_drewN ?_ _ | refine blk_drew ?_ | refine blk_alloc ?_ _)); exact BK128.out) hb); have n3_ := Aside0.mk (blk_below (g := gb139) (o := .cells #[.string t130, .int .i64 t131, .int .i64 t132, .int .i64 t133, .int .i64 t134, .int .i64 t135, .slice Ao53 x140006_1.length co53] 24 (0, 0)) (by (with_reducible repeat (first | refine blk_drewN ?_ _ | refine blk_drew ?_ | refine blk_alloc ?_ _)); exact BK139.out) hb); have n4_ := Aside0.mk (below_step (by repeat (first | (with_reducible first | exact HB.out | apply below_alloc | apply pw_below_drewN | apply below_drew1 | refine below_set ?_ GE128.out | refine below_set ?_ GE139.out) | exact HB.out)) hb); clear HO_140006; clear HO152; clear BK128; clear BK139; clear HB; have HO_140006 := n0_; have HO152 := n1_; have BK128 := n2_; have BK139 := n3_; have HB := n4_; clear n0_ n1_ n2_ n3_ n4_; (try clear hb); (try clear hb2); (try clear hk); (try clear hi)))
            go_ret
            exact ⟨by first | rfl | (simp [errW_none, errW_some] <;> rfl) | (simp [*, errW_none, errW_some] <;> rfl), by repeat (first | (with_reducible first | exact HB.out | apply below_alloc | apply pw_below_drewN | apply below_drew1 | refine below_set ?_ GE128.out | refine below_set ?_ GE139.out) | exact HB.out)⟩
  · replace c8 := Bool.eq_false_iff.mpr c8
    subst c8
    have H1 : (some false) = some r := by rw [if_neg (show ¬ (false = true) by decide)] at H; exact H
    clear H
    have H := H1
    clear H1
    obtain rfl := Option.some.inj H
    go_enter Try.func6, Try.ntmps6
    go_wp2_with (first | ((with_reducible refine gate_dst (N := 6) rfl ?_); refine box_event ?hg (N := 6) ?hd (cs := #[.string a0_0, .int .i64 a0_1, .int .i64 a0_2, .int .i64 a0_3, .int .i64 a0_4, .int .i64 a0_5, .slice A0_6 l0_6.length c0_6]) (t := 24) ?hr ?_; (case hd => rfl); (case hg => rfl); (case hr => first | (go_simp; done) | (go_simp; rfl)); intro gb128 hg w55 hbox hb; have n0_ := Aside0.mk (below_step (by repeat (first | (with_reducible first | exact HB.out | apply below_alloc | apply pw_below_drewN | apply below_drew1) | exact HB.out)) hb); have n1_ := Aside0.mk (hbox); have n2_ := Aside0.mk ((by rw [hg]; exact (below_size (by repeat (first | (with_reducible first | exact HB.out | apply below_alloc | apply pw_below_drewN | apply below_drew1) | exact HB.out))) : w.heap.size ≤ gb128)); have n3_ := Aside0.mk ((by rw [hg]; exact (below_size (by repeat (first | (with_reducible first | exact HB.out | apply below_alloc | apply pw_below_drewN | apply below_drew1) | exact HB.out))) : w.heap.size ≤ gb128)); clear HB; have HB := n0_; have BK128 := n1_; have GW128 := n2_; have GE128 := n3_; clear n0_ n1_ n2_ n3_; clear hb hbox hg) | ((with_reducible refine gate_callee (f := 13) rfl ?_); refine goesL_ (some 19) rfl rfl Try.func13 (by kernel_rfl) rfl #[] rfl (by (try simp only [List.map_toArray, List.map_cons, List.map_nil]); first | done | rfl | (simp only [List.length_drop, List.length_take]; rfl)) ?_; (with_reducible refine (pylonlaw10_awake.calls k  false _ A7.out).mono ?_); rintro e w56 ⟨rfl, hb⟩; refine ⟨_, rfl, ?_⟩; have n0_ := Aside0.mk (blk_below (g := gb128) (o := .cells #[.string a0_0, .int .i64 a0_1, .int .i64 a0_2, .int .i64 a0_3, .int .i64 a0_4, .int .i64 a0_5, .slice A0_6 l0_6.length c0_6] 24 (0, 0)) (by (with_reducible repeat (first | refine blk_drewN ?_ _ | refine blk_drew ?_ | refine blk_alloc ?_ _)); exact BK128.out) hb); have n1_ := Aside0.mk (below_step (by repeat (first | (with_reducible first | exact HB.out | apply below_alloc | apply pw_below_drewN | apply below_drew1 | refine below_set ?_ GE128.out) | exact HB.out)) hb); clear BK128; clear HB; have BK128 := n0_; have HB := n1_; clear n0_ n1_; (try clear hb); (try clear hb2); (try clear hk); (try clear hi)))
    go_ret
    exact ⟨by first | rfl | (simp [errW_none, errW_some] <;> rfl) | (simp [*, errW_none, errW_some] <;> rfl), by repeat (first | (with_reducible first | exact HB.out | apply below_alloc | apply pw_below_drewN | apply below_drew1 | refine below_set ?_ GE128.out) | exact HB.out)⟩
/-- THE ONE PURE STATEMENT of pylonlaw10_VeeSuspect. -/
def pylonlaw10_VeeSuspect.Pure : Prop := ∀ (a0_0 : ByteArray) (a0_1 : Int) (a0_2 : Int) (a0_3 : Int) (a0_4 : Int) (a0_5 : Int) (l0_6 : List (S32)) (a1 : Int) (a2 : Int) (a3 : Int) (a4 : Int) (a5 : Int), (a0_0.size ≤ 140737488351232) → ((Lit.int .i64 a0_1).wf = true) → ((Lit.int .i64 a0_2).wf = true) → ((Lit.int .i64 a0_3).wf = true) → ((Lit.int .i64 a0_4).wf = true) → ((Lit.int .i64 a0_5).wf = true) → (l0_6.length * 40 ≤ 140737488351232 ∧ ∀ y_ ∈ l0_6, okS32 y_) → ((Lit.int .i64 a1).wf = true) → ((Lit.int .i64 a2).wf = true) → ((Lit.int .i64 a3).wf = true) → ((Lit.int .i64 a4).wf = true) → ((Lit.int .i64 a5).wf = true) → ∃ k, pylonlaw10_VeeSuspect.f k a0_0 a0_1 a0_2 a0_3 a0_4 a0_5 l0_6 a1 a2 a3 a4 a5 = some true

end Go.Proofs.Ytbjkjakilpifhaa.PVS
