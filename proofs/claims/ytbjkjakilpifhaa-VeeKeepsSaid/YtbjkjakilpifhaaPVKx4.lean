-- Written by a program of this session for this claim (wip/print2.sh). Lean checks it.
import Derived.Test.YtbjkjakilpifhaaPVKx0
import Derived.Test.YtbjkjakilpifhaaPVKx2
import Derived.Test.YtbjkjakilpifhaaPVKx3
namespace Go.Proofs.Ytbjkjakilpifhaa.PVK
open Go.Proofs.YtbjkjakilpifhaaW.PrintWords
attribute [local go_sem high] fx_eql fx_neq fx_lss fx_leq fx_gtr fx_geq fx_add fx_sub fx_mul fx_neg fx_toint cxx_add cxx_sub cxx_mul cxx_eql cxx_neq cxx_pick st_float st_complex
open Go.RowKit Go.Proofs.YtbjkjakilpifhaaW.PrintWords Go.Proofs.YtbjkjakilpifhaaW.PrintLast Go.Proofs.YtbjkjakilpifhaaW.PrintMore
attribute [local go_sem] max2_int min2_int max_two min_two max_three min_three max_four min_four   -- for this text's walks alone
set_option linter.unusedVariables false
set_option linter.unusedSimpArgs false

/-! ### pylonlaw10_awake: function 13 -/
def pylonlaw10_awake.f (k : Nat)  : Option (Bool) := (vee_Check.f k (⟨#[]⟩ : ByteArray) 0 0 3 0 0 (([(⟨0, 0, 0, 0, 65⟩ : S32), (⟨1, 0, 0, 0, 65⟩ : S32), (⟨1, 0, 0, 0, 65⟩ : S32)] : List (S32))) 5 0).bind fun bt117 => (if bt117.1 = 2 then (if bt117.2 = 3 then ((vee_Good.f 0 0 0 0 69).bind fun t119 => (some t119)) else (some false)) else (some false))
theorem pylonlaw10_awake.mono : ∀ k, LeO (pylonlaw10_awake.f k ) (pylonlaw10_awake.f (k + 1) ) := by
  intro  k
  unfold pylonlaw10_awake.f
  repeat' first
      | (with_reducible exact vee_Check.mono _ _ _ _ _ _ _ _ _ _)
      | (with_reducible exact LeO.refl _)
      | (with_reducible exact LeO.none _)
      | (with_reducible refine LeO.ite ?_ ?_)
      | (with_reducible refine LeO.bind ?_ (fun _ => ?_))
      | exact vee_Check.mono _ _ _ _ _ _ _ _ _ _
      | exact LeO.none _
      | refine LeO.ite ?_ ?_
      | refine LeO.bind ?_ (fun _ => ?_)
set_option maxHeartbeats 8000000 in
set_option maxRecDepth 100000 in
theorem pylonlaw10_awake.calls (k : Nat)  (r : Bool) (w : World) (h : pylonlaw10_awake.f k  = some r) :
    Calls Try.prog 13 #[] w fun e w' => e = .returned (.bool r) ∧ Below w.heap.size w w' := by
  have hu32 := Try.underlying32
  have hu24 := Try.underlying24
  have HB := Aside0.mk (Below.refl w.heap.size w)
  have H : ((vee_Check.f k (⟨#[]⟩ : ByteArray) 0 0 3 0 0 (([(⟨0, 0, 0, 0, 65⟩ : S32), (⟨1, 0, 0, 0, 65⟩ : S32), (⟨1, 0, 0, 0, 65⟩ : S32)] : List (S32))) 5 0).bind fun bt117 => (if bt117.1 = 2 then (if bt117.2 = 3 then ((vee_Good.f 0 0 0 0 69).bind fun t119 => (some t119)) else (some false)) else (some false))) = some r := h
  clear h
  obtain ⟨y114, hy114⟩ : ∃ y_ : List (S32), y_ = (([(⟨0, 0, 0, 0, 65⟩ : S32), (⟨1, 0, 0, 0, 65⟩ : S32), (⟨1, 0, 0, 0, 65⟩ : S32)] : List (S32))) := ⟨_, rfl⟩
  replace H : ((vee_Check.f k (⟨#[]⟩ : ByteArray) 0 0 3 0 0 y114 5 0).bind fun bt117 => (if bt117.1 = 2 then (if bt117.2 = 3 then ((vee_Good.f 0 0 0 0 69).bind fun t119 => (some t119)) else (some false)) else (some false))) = some r := by first | (rw [hy114]; with_reducible exact H) | (have H2_ := (Option.bind_some _ _).symm.trans H; rw [hy114]; with_reducible exact H2_) | (have H2_ := (Option.bind_some _ _).symm.trans H; with_reducible exact H2_) | with_reducible exact H | (rw [hy114]; exact H) | exact H
  have Ny114 := Aside0.mk hy114
  clear hy114
  replace H := Option.bind_eq_some_iff.mp H
  obtain ⟨⟨t117, t118⟩, A10, H⟩ := H
  replace H : (if t117 = 2 then (if t118 = 3 then ((vee_Good.f 0 0 0 0 69).bind fun t119 => (some t119)) else (some false)) else (some false)) = some r := H
  have A1 := Aside0.mk A10
  clear A10
  by_cases c2 : t117 = 2
  · rw [if_pos c2] at H
    have c2b0 : (t117 == 2) = true := beq_iff_eq.mpr c2
    have c2b1 : (t117 != 2) = false := bne_eq_false_iff_eq.mpr c2
    clear c2
    by_cases c3 : t118 = 3
    · rw [if_pos c3] at H
      have c3b0 : (t118 == 3) = true := beq_iff_eq.mpr c3
      have c3b1 : (t118 != 3) = false := bne_eq_false_iff_eq.mpr c3
      clear c3
      replace H := Option.bind_eq_some_iff.mp H
      obtain ⟨t119, A40, H⟩ := H
      replace H : (some t119) = some r := H
      have A4 := Aside0.mk A40
      clear A40
      obtain rfl := Option.some.inj H
      go_enter Try.func13, Try.ntmps13
      go_wp2_with (first | ((with_reducible refine gate_dst (N := 7) rfl ?_); refine Kd.R_lit k32 _ 32 ?hg (N := 7) ?hd (xs := ([(⟨0, 0, 0, 0, 65⟩ : S32), (⟨1, 0, 0, 0, 65⟩ : S32), (⟨1, 0, 0, 0, 65⟩ : S32)] : List (S32))) (inner := [.int .i64 0, .int .i64 0, .int .i64 0, .int .i64 0, .int .u8 65, .int .i64 1, .int .i64 0, .int .i64 0, .int .i64 0, .int .u8 65, .int .i64 1, .int .i64 0, .int .i64 0, .int .i64 0, .int .u8 65]) (ok := fun _ => True) (okp := fun _ => True) ?hr ?hp (fun _ hk => hk) trivial (Below.refl _ _) (Nat.le_refl _) (by simp) ?_; (case hd => rfl); (case hg => rfl); (case hr => first | (go_simp; done) | (go_simp; rfl)); (case hp => exact (Reps.c5 (show Kd.M k32 _ _ _ (⟨0, 0, 0, 0, 65⟩ : S32) [.int .i64 0, .int .i64 0, .int .i64 0, .int .i64 0, .int .u8 65] from (k32_mkM _ _ _ (⟨0, 0, 0, 0, 65⟩ : S32) )) (Reps.c5 (show Kd.M k32 _ _ _ (⟨1, 0, 0, 0, 65⟩ : S32) [.int .i64 1, .int .i64 0, .int .i64 0, .int .i64 0, .int .u8 65] from (k32_mkM _ _ _ (⟨1, 0, 0, 0, 65⟩ : S32) )) (Reps.c5 (show Kd.M k32 _ _ _ (⟨1, 0, 0, 0, 65⟩ : S32) [.int .i64 1, .int .i64 0, .int .i64 0, .int .i64 0, .int .u8 65] from (k32_mkM _ _ _ (⟨1, 0, 0, 0, 65⟩ : S32) )) (Reps.none _ _))))); intro v115 w5 ho6 hb hg_ hnew_; clear hg_ hnew_; (first | rw [← Ny114.out] at ho6 | (simp only [Int.reduceToNat] at ho6; rw [← Ny114.out] at ho6)); have n0_ := Aside0.mk (Kd.R_lower ho6 (below_size (by repeat (first | (with_reducible first | exact HB.out | apply below_alloc | apply pw_below_drewN | apply below_drew1) | exact HB.out)))); have n1_ := Aside0.mk (below_step (by repeat (first | (with_reducible first | exact HB.out | apply below_alloc | apply pw_below_drewN | apply below_drew1) | exact HB.out)) hb); clear HB; have HO116 := n0_; have HB := n1_; clear n0_ n1_; clear hb ho6; obtain ⟨Ao7, co7, eo7⟩ := Kd.R_slice HO116.out; subst eo7) | ((with_reducible refine gate_callee (f := 15) rfl ?_); refine goesL_ (some 9) rfl rfl Try.func15 (by kernel_rfl) rfl #[.agg #[.string (⟨#[]⟩ : ByteArray), .int .i64 0, .int .i64 0, .int .i64 3, .int .i64 0, .int .i64 0, .slice Ao7 y114.length co7], .int .i64 5, .int .i64 0] rfl (by (try simp only [List.map_toArray, List.map_cons, List.map_nil]); first | done | rfl | (simp only [List.length_drop, List.length_take]; rfl)) ?_; (with_reducible refine (vee_Check.calls k (⟨#[]⟩ : ByteArray) 0 0 3 0 0 _ _ y114 5 0 t117 t118 _ ?side1 ?side2 A1.out).mono ?_); (case side1 => repeat (first | exact (Kd.R_reads' HO116.out).2.2 | (with_reducible refine Kd.C_alloc ?_ _) | (with_reducible refine Kd.C_drewN ?_ _) | (with_reducible refine Kd.C_drew ?_))); (case side2 => exact (Kd.R_reads' HO116.out).2.1); rintro e w8 ⟨rfl, hb⟩; refine ⟨_, rfl, ?_⟩; have n0_ := Aside0.mk (Kd.R_below (by (with_reducible repeat (first | apply Kd.R_alloc | apply Kd.R_drewN | apply Kd.R_drew)); exact HO116.out) hb); have n1_ := Aside0.mk (below_step (by repeat (first | (with_reducible first | exact HB.out | apply below_alloc | apply pw_below_drewN | apply below_drew1) | exact HB.out)) hb); clear HO116; clear HB; have HO116 := n0_; have HB := n1_; clear n0_ n1_; (try clear hb); (try clear hb2); (try clear hk); (try clear hi)) | (go_at_call 17; (with_reducible refine (vee_Good.calls 0 0 0 0 69 t119 _ A4.out).mono ?_); rintro e w9 ⟨rfl, hb⟩; have n0_ := Aside0.mk (Kd.R_below (by (with_reducible repeat (first | apply Kd.R_alloc | apply Kd.R_drewN | apply Kd.R_drew)); exact HO116.out) hb); have n1_ := Aside0.mk (below_step (by repeat (first | (with_reducible first | exact HB.out | apply below_alloc | apply pw_below_drewN | apply below_drew1) | exact HB.out)) hb); clear HO116; clear HB; have HO116 := n0_; have HB := n1_; clear n0_ n1_; (try clear hb); (try clear hb2); (try clear hk); (try clear hi)))
      go_ret
      exact ⟨by first | rfl | (simp [errW_none, errW_some] <;> rfl) | (simp [*, errW_none, errW_some] <;> rfl), by repeat (first | (with_reducible first | exact HB.out | apply below_alloc | apply pw_below_drewN | apply below_drew1) | exact HB.out)⟩
    · rw [if_neg c3] at H
      have c3b0 : (t118 == 3) = false := beq_eq_false_iff_ne.mpr c3
      have c3b1 : (t118 != 3) = true := bne_iff_ne.mpr c3
      obtain rfl := Option.some.inj H
      go_enter Try.func13, Try.ntmps13
      go_wp2_with (first | ((with_reducible refine gate_dst (N := 7) rfl ?_); refine Kd.R_lit k32 _ 32 ?hg (N := 7) ?hd (xs := ([(⟨0, 0, 0, 0, 65⟩ : S32), (⟨1, 0, 0, 0, 65⟩ : S32), (⟨1, 0, 0, 0, 65⟩ : S32)] : List (S32))) (inner := [.int .i64 0, .int .i64 0, .int .i64 0, .int .i64 0, .int .u8 65, .int .i64 1, .int .i64 0, .int .i64 0, .int .i64 0, .int .u8 65, .int .i64 1, .int .i64 0, .int .i64 0, .int .i64 0, .int .u8 65]) (ok := fun _ => True) (okp := fun _ => True) ?hr ?hp (fun _ hk => hk) trivial (Below.refl _ _) (Nat.le_refl _) (by simp) ?_; (case hd => rfl); (case hg => rfl); (case hr => first | (go_simp; done) | (go_simp; rfl)); (case hp => exact (Reps.c5 (show Kd.M k32 _ _ _ (⟨0, 0, 0, 0, 65⟩ : S32) [.int .i64 0, .int .i64 0, .int .i64 0, .int .i64 0, .int .u8 65] from (k32_mkM _ _ _ (⟨0, 0, 0, 0, 65⟩ : S32) )) (Reps.c5 (show Kd.M k32 _ _ _ (⟨1, 0, 0, 0, 65⟩ : S32) [.int .i64 1, .int .i64 0, .int .i64 0, .int .i64 0, .int .u8 65] from (k32_mkM _ _ _ (⟨1, 0, 0, 0, 65⟩ : S32) )) (Reps.c5 (show Kd.M k32 _ _ _ (⟨1, 0, 0, 0, 65⟩ : S32) [.int .i64 1, .int .i64 0, .int .i64 0, .int .i64 0, .int .u8 65] from (k32_mkM _ _ _ (⟨1, 0, 0, 0, 65⟩ : S32) )) (Reps.none _ _))))); intro v115 w10 ho11 hb hg_ hnew_; clear hg_ hnew_; (first | rw [← Ny114.out] at ho11 | (simp only [Int.reduceToNat] at ho11; rw [← Ny114.out] at ho11)); have n0_ := Aside0.mk (Kd.R_lower ho11 (below_size (by repeat (first | (with_reducible first | exact HB.out | apply below_alloc | apply pw_below_drewN | apply below_drew1) | exact HB.out)))); have n1_ := Aside0.mk (below_step (by repeat (first | (with_reducible first | exact HB.out | apply below_alloc | apply pw_below_drewN | apply below_drew1) | exact HB.out)) hb); clear HB; have HO116 := n0_; have HB := n1_; clear n0_ n1_; clear hb ho11; obtain ⟨Ao12, co12, eo12⟩ := Kd.R_slice HO116.out; subst eo12) | ((with_reducible refine gate_callee (f := 15) rfl ?_); refine goesL_ (some 9) rfl rfl Try.func15 (by kernel_rfl) rfl #[.agg #[.string (⟨#[]⟩ : ByteArray), .int .i64 0, .int .i64 0, .int .i64 3, .int .i64 0, .int .i64 0, .slice Ao12 y114.length co12], .int .i64 5, .int .i64 0] rfl (by (try simp only [List.map_toArray, List.map_cons, List.map_nil]); first | done | rfl | (simp only [List.length_drop, List.length_take]; rfl)) ?_; (with_reducible refine (vee_Check.calls k (⟨#[]⟩ : ByteArray) 0 0 3 0 0 _ _ y114 5 0 t117 t118 _ ?side1 ?side2 A1.out).mono ?_); (case side1 => repeat (first | exact (Kd.R_reads' HO116.out).2.2 | (with_reducible refine Kd.C_alloc ?_ _) | (with_reducible refine Kd.C_drewN ?_ _) | (with_reducible refine Kd.C_drew ?_))); (case side2 => exact (Kd.R_reads' HO116.out).2.1); rintro e w13 ⟨rfl, hb⟩; refine ⟨_, rfl, ?_⟩; have n0_ := Aside0.mk (Kd.R_below (by (with_reducible repeat (first | apply Kd.R_alloc | apply Kd.R_drewN | apply Kd.R_drew)); exact HO116.out) hb); have n1_ := Aside0.mk (below_step (by repeat (first | (with_reducible first | exact HB.out | apply below_alloc | apply pw_below_drewN | apply below_drew1) | exact HB.out)) hb); clear HO116; clear HB; have HO116 := n0_; have HB := n1_; clear n0_ n1_; (try clear hb); (try clear hb2); (try clear hk); (try clear hi)))
      go_ret
      exact ⟨by first | rfl | (simp [errW_none, errW_some] <;> rfl) | (simp [*, errW_none, errW_some] <;> rfl), by repeat (first | (with_reducible first | exact HB.out | apply below_alloc | apply pw_below_drewN | apply below_drew1) | exact HB.out)⟩
  · rw [if_neg c2] at H
    have c2b0 : (t117 == 2) = false := beq_eq_false_iff_ne.mpr c2
    have c2b1 : (t117 != 2) = true := bne_iff_ne.mpr c2
    obtain rfl := Option.some.inj H
    go_enter Try.func13, Try.ntmps13
    go_wp2_with (first | ((with_reducible refine gate_dst (N := 7) rfl ?_); refine Kd.R_lit k32 _ 32 ?hg (N := 7) ?hd (xs := ([(⟨0, 0, 0, 0, 65⟩ : S32), (⟨1, 0, 0, 0, 65⟩ : S32), (⟨1, 0, 0, 0, 65⟩ : S32)] : List (S32))) (inner := [.int .i64 0, .int .i64 0, .int .i64 0, .int .i64 0, .int .u8 65, .int .i64 1, .int .i64 0, .int .i64 0, .int .i64 0, .int .u8 65, .int .i64 1, .int .i64 0, .int .i64 0, .int .i64 0, .int .u8 65]) (ok := fun _ => True) (okp := fun _ => True) ?hr ?hp (fun _ hk => hk) trivial (Below.refl _ _) (Nat.le_refl _) (by simp) ?_; (case hd => rfl); (case hg => rfl); (case hr => first | (go_simp; done) | (go_simp; rfl)); (case hp => exact (Reps.c5 (show Kd.M k32 _ _ _ (⟨0, 0, 0, 0, 65⟩ : S32) [.int .i64 0, .int .i64 0, .int .i64 0, .int .i64 0, .int .u8 65] from (k32_mkM _ _ _ (⟨0, 0, 0, 0, 65⟩ : S32) )) (Reps.c5 (show Kd.M k32 _ _ _ (⟨1, 0, 0, 0, 65⟩ : S32) [.int .i64 1, .int .i64 0, .int .i64 0, .int .i64 0, .int .u8 65] from (k32_mkM _ _ _ (⟨1, 0, 0, 0, 65⟩ : S32) )) (Reps.c5 (show Kd.M k32 _ _ _ (⟨1, 0, 0, 0, 65⟩ : S32) [.int .i64 1, .int .i64 0, .int .i64 0, .int .i64 0, .int .u8 65] from (k32_mkM _ _ _ (⟨1, 0, 0, 0, 65⟩ : S32) )) (Reps.none _ _))))); intro v115 w14 ho15 hb hg_ hnew_; clear hg_ hnew_; (first | rw [← Ny114.out] at ho15 | (simp only [Int.reduceToNat] at ho15; rw [← Ny114.out] at ho15)); have n0_ := Aside0.mk (Kd.R_lower ho15 (below_size (by repeat (first | (with_reducible first | exact HB.out | apply below_alloc | apply pw_below_drewN | apply below_drew1) | exact HB.out)))); have n1_ := Aside0.mk (below_step (by repeat (first | (with_reducible first | exact HB.out | apply below_alloc | apply pw_below_drewN | apply below_drew1) | exact HB.out)) hb); clear HB; have HO116 := n0_; have HB := n1_; clear n0_ n1_; clear hb ho15; obtain ⟨Ao16, co16, eo16⟩ := Kd.R_slice HO116.out; subst eo16) | ((with_reducible refine gate_callee (f := 15) rfl ?_); refine goesL_ (some 9) rfl rfl Try.func15 (by kernel_rfl) rfl #[.agg #[.string (⟨#[]⟩ : ByteArray), .int .i64 0, .int .i64 0, .int .i64 3, .int .i64 0, .int .i64 0, .slice Ao16 y114.length co16], .int .i64 5, .int .i64 0] rfl (by (try simp only [List.map_toArray, List.map_cons, List.map_nil]); first | done | rfl | (simp only [List.length_drop, List.length_take]; rfl)) ?_; (with_reducible refine (vee_Check.calls k (⟨#[]⟩ : ByteArray) 0 0 3 0 0 _ _ y114 5 0 t117 t118 _ ?side1 ?side2 A1.out).mono ?_); (case side1 => repeat (first | exact (Kd.R_reads' HO116.out).2.2 | (with_reducible refine Kd.C_alloc ?_ _) | (with_reducible refine Kd.C_drewN ?_ _) | (with_reducible refine Kd.C_drew ?_))); (case side2 => exact (Kd.R_reads' HO116.out).2.1); rintro e w17 ⟨rfl, hb⟩; refine ⟨_, rfl, ?_⟩; have n0_ := Aside0.mk (Kd.R_below (by (with_reducible repeat (first | apply Kd.R_alloc | apply Kd.R_drewN | apply Kd.R_drew)); exact HO116.out) hb); have n1_ := Aside0.mk (below_step (by repeat (first | (with_reducible first | exact HB.out | apply below_alloc | apply pw_below_drewN | apply below_drew1) | exact HB.out)) hb); clear HO116; clear HB; have HO116 := n0_; have HB := n1_; clear n0_ n1_; (try clear hb); (try clear hb2); (try clear hk); (try clear hi)))
    go_ret
    exact ⟨by first | rfl | (simp [errW_none, errW_some] <;> rfl) | (simp [*, errW_none, errW_some] <;> rfl), by repeat (first | (with_reducible first | exact HB.out | apply below_alloc | apply pw_below_drewN | apply below_drew1) | exact HB.out)⟩

end Go.Proofs.Ytbjkjakilpifhaa.PVK
