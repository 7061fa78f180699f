-- Written by a program of this session for this claim (wip/print2.sh). Lean checks it.
import Derived.Test.YtbjkjakilpifhaaPVx0
import Derived.Test.YtbjkjakilpifhaaPVx2
import Derived.Test.YtbjkjakilpifhaaPVx3
namespace Go.Proofs.Ytbjkjakilpifhaa.PV
open Go.RowKit Go.Proofs.YtbjkjakilpifhaaW.PrintWords Go.Proofs.YtbjkjakilpifhaaW.PrintLast Go.Proofs.YtbjkjakilpifhaaW.PrintMore
attribute [local go_sem] max2_int min2_int max_two min_two max_three min_three max_four min_four   -- for this text's walks alone
set_option linter.unusedVariables false
set_option linter.unusedSimpArgs false

/-! ### pylonlaw10_awake: function 13 -/
def pylonlaw10_awake.f (k : Nat)  : Option (Bool) := (vee_Check.f k (⟨#[]⟩ : ByteArray) 0 0 3 0 0 (([(⟨0, 0, 0, 0, 65⟩ : S32), (⟨1, 0, 0, 0, 65⟩ : S32), (⟨1, 0, 0, 0, 65⟩ : S32)] : List (S32))) 5 0).bind fun bt117 => (if bt117.1 = 2 then (if bt117.2 = 3 then ((vee_Good.f 0 0 0 0 69).bind fun t119 => (some t119)) else (some false)) else (some false))
theorem pylonlaw10_awake.mono : ∀ k, LeO (pylonlaw10_awake.f k ) (pylonlaw10_awake.f (k + 1) ) := by
  intro  k
  unfold pylonlaw10_awake.f
  repeat' first
      | (with_reducible exact vee_Check.mono _ _ _ _ _ _ _ _ _ _)
      | (with_reducible exact LeO.refl _)
      | (with_reducible exact LeO.none _)
      | (with_reducible refine LeO.ite ?_ ?_)
      | (with_reducible refine LeO.bind ?_ (fun _ => ?_))
      | exact vee_Check.mono _ _ _ _ _ _ _ _ _ _
      | exact LeO.none _
      | refine LeO.ite ?_ ?_
      | refine LeO.bind ?_ (fun _ => ?_)
set_option maxHeartbeats 8000000 in
set_option maxRecDepth 100000 in
theorem pylonlaw10_awake.calls (k : Nat)  (r : Bool) (w : World) (h : pylonlaw10_awake.f k  = some r) :
    Calls Try.prog 13 #[] w fun e w' => e = .returned (.bool r) ∧ Below w.heap.size w w' := by
  have hu32 := Try.underlying32
  have hu24 := Try.underlying24
  have HB := Aside0.mk (Below.refl w.heap.size w)
  have H : ((vee_Check.f k (⟨#[]⟩ : ByteArray) 0 0 3 0 0 (([(⟨0, 0, 0, 0, 65⟩ : S32), (⟨1, 0, 0, 0, 65⟩ : S32), (⟨1, 0, 0, 0, 65⟩ : S32)] : List (S32))) 5 0).bind fun bt117 => (if bt117.1 = 2 then (if bt117.2 = 3 then ((vee_Good.f 0 0 0 0 69).bind fun t119 => (some t119)) else (some false)) else (some false))) = some r := h
  clear h
  obtain ⟨y114, hy114⟩ : ∃ y_ : List (S32), y_ = (([(⟨0, 0, 0, 0, 65⟩ : S32), (⟨1, 0, 0, 0, 65⟩ : S32), (⟨1, 0, 0, 0, 65⟩ : S32)] : List (S32))) := ⟨_, rfl⟩
  replace H : ((vee_Check.f k (⟨#[]⟩ : ByteArray) 0 0 3 0 0 y114 5 0).bind fun bt117 => (if bt117.1 = 2 then (if bt117.2 = 3 then ((vee_Good.f 0 0 0 0 69).bind fun t119 => (some t119)) else (some false)) else (some false))) = some r := by first | (rw [hy114]; with_reducible exact H) | (have H2_ := (Option.bind_some _ _).symm.trans H; rw [hy114]; with_reducible exact H2_) | (have H2_ := (Option.bind_some _ _).symm.trans H; with_reducible exact H2_) | with_reducible exact H | (rw [hy114]; exact H) | exact H
  have Ny114 := Aside0.mk hy114
  clear hy114
  replace H := Option.bind_eq_some_iff.mp H
  obtain ⟨⟨t117, t118⟩, A10, H⟩ := H
  replace H : (if t117 = 2 then (if t118 = 3 then ((vee_Good.f 0 0 0 0 69).bind fun t119 => (some t119)) else (some false)) else (some false)) = some r := H
  have A1 := Aside0.mk A10
  clear A10
  by_cases c2 : t117 = 2
  · rw [if_pos c2] at H
    have c2b0 : (t117 == 2) = true := beq_iff_eq.mpr c2
    have c2b1 : (t117 != 2) = false := bne_eq_false_iff_eq.mpr c2
    clear c2
    by_cases c3 : t118 = 3
    · rw [if_pos c3] at H
      have c3b0 : (t118 == 3) = true := beq_iff_eq.mpr c3
      have c3b1 : (t118 != 3) = false := bne_eq_false_iff_eq.mpr c3
      clear c3
      replace H := Option.bind_eq_some_iff.mp H
      obtain ⟨t119, A40, H⟩ := H
      replace H : (some t119) = some r := H
      have A4 := Aside0.mk A40
      clear A40
      obtain rfl := Option.some.inj H
      go_enter Try.func13, Try.ntmps13
      go_wp2_with (first | ((with_reducible refine gate_dst (N := 7) rfl ?_); refine Kd.R_lit k32 _ 32 ?hg (N := 7) ?hd (xs := ([(⟨0, 0, 0, 0, 65⟩ : S32), (⟨1, 0, 0, 0, 65⟩ : S32), (⟨1, 0, 0, 0, 65⟩ : S32)] : List (S32))) (inner := [.int .i64 0, .int .i64 0, .int .i64 0, .int .i64 0, .int .u8 65, .int .i64 1, .int .i64 0, .int .i64 0, .int .i64 0, .int .u8 65, .int .i64 1, .int .i64 0, .int .i64 0, .int .i64 0, .int .u8 65]) (ok := fun _ => True) (okp := fun _ => True) ?hr ?hp (fun _ hk => hk) trivial (Below.refl _ _) (Nat.le_refl _) (by simp) ?_; (case hd => rfl); (case hg => rfl); (case hr => first | (go_simp; done) | (go_simp; rfl)); (case hp => exact (Reps.c5 (show Kd.M k32 _ _ _ (⟨0, 0, 0, 0, 65⟩ : S32) [.int .i64 0, .int .i64 0, .int .i64 0, .int .i64 0, .int .u8 65] from (k32_mkM _ _ _ (⟨0, 0, 0, 0, 65⟩ : S32) )) (Reps.c5 (show Kd.M k32 _ _ _ (⟨1, 0, 0, 0, 65⟩ : S32) [.int .i64 1, .int .i64 0, .int .i64 0, .int .i64 0, .int .u8 65] from (k32_mkM _ _ _ (⟨1, 0, 0, 0, 65⟩ : S32) )) (Reps.c5 (show Kd.M k32 _ _ _ (⟨1, 0, 0, 0, 65⟩ : S32) [.int .i64 1, .int .i64 0, .int .i64 0, .int .i64 0, .int .u8 65] from (k32_mkM _ _ _ (⟨1, 0, 0, 0, 65⟩ : S32) )) (Reps.none _ _))))); intro v115 w5 ho6 hb hg_ hnew_; clear hg_ hnew_; (first | rw [← Ny114.out] at ho6 | (simp only [Int.reduceToNat] at ho6; rw [← Ny114.out] at ho6)); have n0_ := Aside0.mk (Kd.R_lower ho6 (below_size (by repeat (first | (with_reducible first | exact HB.out | apply below_alloc | apply pw_below_drewN | apply below_drew1) | exact HB.out)))); have n1_ := Aside0.mk (below_step (by repeat (first | (with_reducible first | exact HB.out | apply below_alloc | apply pw_below_drewN | apply below_drew1) | exact HB.out)) hb); clear HB; have HO116 := n0_; have HB := n1_; clear n0_ n1_; clear hb ho6; obtain ⟨Ao7, co7, eo7⟩ := Kd.R_slice HO116.out; subst eo7) | ((with_reducible refine gate_callee (f := 15) rfl ?_); refine goesL_ (some 9) rfl rfl Try.func15 (by kernel_rfl) rfl #[.agg #[.string (⟨#[]⟩ : ByteArray), .int .i64 0, .int .i64 0, .int .i64 3, .int .i64 0, .int .i64 0, .slice Ao7 y114.length co7], .int .i64 5, .int .i64 0] rfl (by (try simp only [List.map_toArray, List.map_cons, List.map_nil]); first | done | rfl | (simp only [List.length_drop, List.length_take]; rfl)) ?_; (with_reducible refine (vee_Check.calls k (⟨#[]⟩ : ByteArray) 0 0 3 0 0 _ _ y114 5 0 t117 t118 _ ?side1 ?side2 A1.out).mono ?_); (case side1 => repeat (first | exact (Kd.R_reads' HO116.out).2.2 | (with_reducible refine Kd.C_alloc ?_ _) | (with_reducible refine Kd.C_drewN ?_ _) | (with_reducible refine Kd.C_drew ?_))); (case side2 => exact (Kd.R_reads' HO116.out).2.1); rintro e w8 ⟨rfl, hb⟩; refine ⟨_, rfl, ?_⟩; have n0_ := Aside0.mk (Kd.R_below (by (with_reducible repeat (first | apply Kd.R_alloc | apply Kd.R_drewN | apply Kd.R_drew)); exact HO116.out) hb); have n1_ := Aside0.mk (below_step (by repeat (first | (with_reducible first | exact HB.out | apply below_alloc | apply pw_below_drewN | apply below_drew1) | exact HB.out)) hb); clear HO116; clear HB; have HO116 := n0_; have HB := n1_; clear n0_ n1_; (try clear hb); (try clear hb2); (try clear hk); (try clear hi)) | (go_at_call 17; (with_reducible refine (vee_Good.calls 0 0 0 0 69 t119 _ A4.out).mono ?_); rintro e w9 ⟨rfl, hb⟩; have n0_ := Aside0.mk (Kd.R_below (by (with_reducible repeat (first | apply Kd.R_alloc | apply Kd.R_drewN | apply Kd.R_drew)); exact HO116.out) hb); have n1_ := Aside0.mk (below_step (by repeat (first | (with_reducible first | exact HB.out | apply below_alloc | apply pw_below_drewN | apply below_drew1) | exact HB.out)) hb); clear HO116; clear HB; have HO116 := n0_; have HB := n1_; clear n0_ n1_; (try clear hb); (try clear hb2); (try clear hk); (try clear hi)))
      go_ret
      exact ⟨by first | rfl | (simp [errW_none, errW_some] <;> rfl) | (simp [*, errW_none, errW_some] <;> rfl), by repeat (first | (with_reducible first | exact HB.out | apply below_alloc | apply pw_below_drewN | apply below_drew1) | exact HB.out)⟩
    · rw [if_neg c3] at H
      have c3b0 : (t118 == 3) = false := beq_eq_false_iff_ne.mpr c3
      have c3b1 : (t118 != 3) = true := bne_iff_ne.mpr c3
      obtain rfl := Option.some.inj H
      go_enter Try.func13, Try.ntmps13
      go_wp2_with (first | ((with_reducible refine gate_dst (N := 7) rfl ?_); refine Kd.R_lit k32 _ 32 ?hg (N := 7) ?hd (xs := ([(⟨0, 0, 0, 0, 65⟩ : S32), (⟨1, 0, 0, 0, 65⟩ : S32), (⟨1, 0, 0, 0, 65⟩ : S32)] : List (S32))) (inner := [.int .i64 0, .int .i64 0, .int .i64 0, .int .i64 0, .int .u8 65, .int .i64 1, .int .i64 0, .int .i64 0, .int .i64 0, .int .u8 65, .int .i64 1, .int .i64 0, .int .i64 0, .int .i64 0, .int .u8 65]) (ok := fun _ => True) (okp := fun _ => True) ?hr ?hp (fun _ hk => hk) trivial (Below.refl _ _) (Nat.le_refl _) (by simp) ?_; (case hd => rfl); (case hg => rfl); (case hr => first | (go_simp; done) | (go_simp; rfl)); (case hp => exact (Reps.c5 (show Kd.M k32 _ _ _ (⟨0, 0, 0, 0, 65⟩ : S32) [.int .i64 0, .int .i64 0, .int .i64 0, .int .i64 0, .int .u8 65] from (k32_mkM _ _ _ (⟨0, 0, 0, 0, 65⟩ : S32) )) (Reps.c5 (show Kd.M k32 _ _ _ (⟨1, 0, 0, 0, 65⟩ : S32) [.int .i64 1, .int .i64 0, .int .i64 0, .int .i64 0, .int .u8 65] from (k32_mkM _ _ _ (⟨1, 0, 0, 0, 65⟩ : S32) )) (Reps.c5 (show Kd.M k32 _ _ _ (⟨1, 0, 0, 0, 65⟩ : S32) [.int .i64 1, .int .i64 0, .int .i64 0, .int .i64 0, .int .u8 65] from (k32_mkM _ _ _ (⟨1, 0, 0, 0, 65⟩ : S32) )) (Reps.none _ _))))); intro v115 w10 ho11 hb hg_ hnew_; clear hg_ hnew_; (first | rw [← Ny114.out] at ho11 | (simp only [Int.reduceToNat] at ho11; rw [← Ny114.out] at ho11)); have n0_ := Aside0.mk (Kd.R_lower ho11 (below_size (by repeat (first | (with_reducible first | exact HB.out | apply below_alloc | apply pw_below_drewN | apply below_drew1) | exact HB.out)))); have n1_ := Aside0.mk (below_step (by repeat (first | (with_reducible first | exact HB.out | apply below_alloc | apply pw_below_drewN | apply below_drew1) | exact HB.out)) hb); clear HB; have HO116 := n0_; have HB := n1_; clear n0_ n1_; clear hb ho11; obtain ⟨Ao12, co12, eo12⟩ := Kd.R_slice HO116.out; subst eo12) | ((with_reducible refine gate_callee (f := 15) rfl ?_); refine goesL_ (some 9) rfl rfl Try.func15 (by kernel_rfl) rfl #[.agg #[.string (⟨#[]⟩ : ByteArray), .int .i64 0, .int .i64 0, .int .i64 3, .int .i64 0, .int .i64 0, .slice Ao12 y114.length co12], .int .i64 5, .int .i64 0] rfl (by (try simp only [List.map_toArray, List.map_cons, List.map_nil]); first | done | rfl | (simp only [List.length_drop, List.length_take]; rfl)) ?_; (with_reducible refine (vee_Check.calls k (⟨#[]⟩ : ByteArray) 0 0 3 0 0 _ _ y114 5 0 t117 t118 _ ?side1 ?side2 A1.out).mono ?_); (case side1 => repeat (first | exact (Kd.R_reads' HO116.out).2.2 | (with_reducible refine Kd.C_alloc ?_ _) | (with_reducible refine Kd.C_drewN ?_ _) | (with_reducible refine Kd.C_drew ?_))); (case side2 => exact (Kd.R_reads' HO116.out).2.1); rintro e w13 ⟨rfl, hb⟩; refine ⟨_, rfl, ?_⟩; have n0_ := Aside0.mk (Kd.R_below (by (with_reducible repeat (first | apply Kd.R_alloc | apply Kd.R_drewN | apply Kd.R_drew)); exact HO116.out) hb); have n1_ := Aside0.mk (below_step (by repeat (first | (with_reducible first | exact HB.out | apply below_alloc | apply pw_below_drewN | apply below_drew1) | exact HB.out)) hb); clear HO116; clear HB; have HO116 := n0_; have HB := n1_; clear n0_ n1_; (try clear hb); (try clear hb2); (try clear hk); (try clear hi)))
      go_ret
      exact ⟨by first | rfl | (simp [errW_none, errW_some] <;> rfl) | (simp [*, errW_none, errW_some] <;> rfl), by repeat (first | (with_reducible first | exact HB.out | apply below_alloc | apply pw_below_drewN | apply below_drew1) | exact HB.out)⟩
  · rw [if_neg c2] at H
    have c2b0 : (t117 == 2) = false := beq_eq_false_iff_ne.mpr c2
    have c2b1 : (t117 != 2) = true := bne_iff_ne.mpr c2
    obtain rfl := Option.some.inj H
    go_enter Try.func13, Try.ntmps13
    go_wp2_with (first | ((with_reducible refine gate_dst (N := 7) rfl ?_); refine Kd.R_lit k32 _ 32 ?hg (N := 7) ?hd (xs := ([(⟨0, 0, 0, 0, 65⟩ : S32), (⟨1, 0, 0, 0, 65⟩ : S32), (⟨1, 0, 0, 0, 65⟩ : S32)] : List (S32))) (inner := [.int .i64 0, .int .i64 0, .int .i64 0, .int .i64 0, .int .u8 65, .int .i64 1, .int .i64 0, .int .i64 0, .int .i64 0, .int .u8 65, .int .i64 1, .int .i64 0, .int .i64 0, .int .i64 0, .int .u8 65]) (ok := fun _ => True) (okp := fun _ => True) ?hr ?hp (fun _ hk => hk) trivial (Below.refl _ _) (Nat.le_refl _) (by simp) ?_; (case hd => rfl); (case hg => rfl); (case hr => first | (go_simp; done) | (go_simp; rfl)); (case hp => exact (Reps.c5 (show Kd.M k32 _ _ _ (⟨0, 0, 0, 0, 65⟩ : S32) [.int .i64 0, .int .i64 0, .int .i64 0, .int .i64 0, .int .u8 65] from (k32_mkM _ _ _ (⟨0, 0, 0, 0, 65⟩ : S32) )) (Reps.c5 (show Kd.M k32 _ _ _ (⟨1, 0, 0, 0, 65⟩ : S32) [.int .i64 1, .int .i64 0, .int .i64 0, .int .i64 0, .int .u8 65] from (k32_mkM _ _ _ (⟨1, 0, 0, 0, 65⟩ : S32) )) (Reps.c5 (show Kd.M k32 _ _ _ (⟨1, 0, 0, 0, 65⟩ : S32) [.int .i64 1, .int .i64 0, .int .i64 0, .int .i64 0, .int .u8 65] from (k32_mkM _ _ _ (⟨1, 0, 0, 0, 65⟩ : S32) )) (Reps.none _ _))))); intro v115 w14 ho15 hb hg_ hnew_; clear hg_ hnew_; (first | rw [← Ny114.out] at ho15 | (simp only [Int.reduceToNat] at ho15; rw [← Ny114.out] at ho15)); have n0_ := Aside0.mk (Kd.R_lower ho15 (below_size (by repeat (first | (with_reducible first | exact HB.out | apply below_alloc | apply pw_below_drewN | apply below_drew1) | exact HB.out)))); have n1_ := Aside0.mk (below_step (by repeat (first | (with_reducible first | exact HB.out | apply below_alloc | apply pw_below_drewN | apply below_drew1) | exact HB.out)) hb); clear HB; have HO116 := n0_; have HB := n1_; clear n0_ n1_; clear hb ho15; obtain ⟨Ao16, co16, eo16⟩ := Kd.R_slice HO116.out; subst eo16) | ((with_reducible refine gate_callee (f := 15) rfl ?_); refine goesL_ (some 9) rfl rfl Try.func15 (by kernel_rfl) rfl #[.agg #[.string (⟨#[]⟩ : ByteArray), .int .i64 0, .int .i64 0, .int .i64 3, .int .i64 0, .int .i64 0, .slice Ao16 y114.length co16], .int .i64 5, .int .i64 0] rfl (by (try simp only [List.map_toArray, List.map_cons, List.map_nil]); first | done | rfl | (simp only [List.length_drop, List.length_take]; rfl)) ?_; (with_reducible refine (vee_Check.calls k (⟨#[]⟩ : ByteArray) 0 0 3 0 0 _ _ y114 5 0 t117 t118 _ ?side1 ?side2 A1.out).mono ?_); (case side1 => repeat (first | exact (Kd.R_reads' HO116.out).2.2 | (with_reducible refine Kd.C_alloc ?_ _) | (with_reducible refine Kd.C_drewN ?_ _) | (with_reducible refine Kd.C_drew ?_))); (case side2 => exact (Kd.R_reads' HO116.out).2.1); rintro e w17 ⟨rfl, hb⟩; refine ⟨_, rfl, ?_⟩; have n0_ := Aside0.mk (Kd.R_below (by (with_reducible repeat (first | apply Kd.R_alloc | apply Kd.R_drewN | apply Kd.R_drew)); exact HO116.out) hb); have n1_ := Aside0.mk (below_step (by repeat (first | (with_reducible first | exact HB.out | apply below_alloc | apply pw_below_drewN | apply below_drew1) | exact HB.out)) hb); clear HO116; clear HB; have HO116 := n0_; have HB := n1_; clear n0_ n1_; (try clear hb); (try clear hb2); (try clear hk); (try clear hi)))
    go_ret
    exact ⟨by first | rfl | (simp [errW_none, errW_some] <;> rfl) | (simp [*, errW_none, errW_some] <;> rfl), by repeat (first | (with_reducible first | exact HB.out | apply below_alloc | apply pw_below_drewN | apply below_drew1) | exact HB.out)⟩

/-! ### pylonref10_Good: function 18 -/
def pylonref10_Good.f (a0_0 : Int) (a0_1 : Int) (a0_2 : Int) (a0_3 : Int) (a0_4 : Int) : Option (Bool) := if a0_4 = 65 then (some true) else (some (a0_4 == 69))
set_option maxHeartbeats 8000000 in
set_option maxRecDepth 100000 in
theorem pylonref10_Good.calls (a0_0 : Int) (a0_1 : Int) (a0_2 : Int) (a0_3 : Int) (a0_4 : Int) (r : Bool) (w : World) (h : pylonref10_Good.f a0_0 a0_1 a0_2 a0_3 a0_4 = some r) :
    Calls Try.prog 18 #[.agg #[.int .i64 a0_0, .int .i64 a0_1, .int .i64 a0_2, .int .i64 a0_3, .int .u8 a0_4]] w fun e w' => e = .returned (.bool r) ∧ Below w.heap.size w w' := by
  have hu32 := Try.underlying32
  have HB := Aside0.mk (Below.refl w.heap.size w)
  have H : (if a0_4 = 65 then (some true) else (some (a0_4 == 69))) = some r := h
  clear h
  by_cases c2 : a0_4 = 65
  · rw [if_pos c2] at H
    have c2b0 : (a0_4 == 65) = true := beq_iff_eq.mpr c2
    have c2b1 : (a0_4 != 65) = false := bne_eq_false_iff_eq.mpr c2
    clear c2
    obtain rfl := Option.some.inj H
    go_enter Try.func18, Try.ntmps18
    go_wp2_with (first | ((with_reducible refine gate_dst (N := 1) rfl ?_); refine box_event ?hg (N := 1) ?hd (cs := #[.int .i64 a0_0, .int .i64 a0_1, .int .i64 a0_2, .int .i64 a0_3, .int .u8 a0_4]) (t := 32) ?hr ?_; (case hd => rfl); (case hg => rfl); (case hr => first | (go_simp; done) | (go_simp; rfl)); intro gb120 hg w3 hbox hb; have n0_ := Aside0.mk (below_step (by repeat (first | (with_reducible first | exact HB.out | apply below_alloc | apply pw_below_drewN | apply below_drew1) | exact HB.out)) hb); have n1_ := Aside0.mk (hbox); have n2_ := Aside0.mk ((by rw [hg]; exact (below_size (by repeat (first | (with_reducible first | exact HB.out | apply below_alloc | apply pw_below_drewN | apply below_drew1) | exact HB.out))) : w.heap.size ≤ gb120)); have n3_ := Aside0.mk ((by rw [hg]; exact (below_size (by repeat (first | (with_reducible first | exact HB.out | apply below_alloc | apply pw_below_drewN | apply below_drew1) | exact HB.out))) : w.heap.size ≤ gb120)); clear HB; have HB := n0_; have BK120 := n1_; have GW120 := n2_; have GE120 := n3_; clear n0_ n1_ n2_ n3_; clear hb hbox hg; have hcz4_0 : w3.cell? ⟨gb120, 0, none⟩ = some (.int .i64 a0_0) := (blk_cell BK120.out 0).trans rfl; have hcz4_1 : w3.cell? ⟨gb120, 1, none⟩ = some (.int .i64 a0_1) := (blk_cell BK120.out 1).trans rfl; have hcz4_2 : w3.cell? ⟨gb120, 2, none⟩ = some (.int .i64 a0_2) := (blk_cell BK120.out 2).trans rfl; have hcz4_3 : w3.cell? ⟨gb120, 3, none⟩ = some (.int .i64 a0_3) := (blk_cell BK120.out 3).trans rfl; have hcz4_4 : w3.cell? ⟨gb120, 4, none⟩ = some (.int .u8 a0_4) := (blk_cell BK120.out 4).trans rfl; have hfz4_0 := blk_frozen BK120.out 0; have hfz4_1 := blk_frozen BK120.out 1; have hfz4_2 := blk_frozen BK120.out 2; have hfz4_3 := blk_frozen BK120.out 3; have hfz4_4 := blk_frozen BK120.out 4))
    go_ret
    exact ⟨by first | rfl | (simp [errW_none, errW_some] <;> rfl) | (simp [*, errW_none, errW_some] <;> rfl), by repeat (first | (with_reducible first | exact HB.out | apply below_alloc | apply pw_below_drewN | apply below_drew1 | refine below_set ?_ GE120.out) | exact HB.out)⟩
  · rw [if_neg c2] at H
    have c2b0 : (a0_4 == 65) = false := beq_eq_false_iff_ne.mpr c2
    have c2b1 : (a0_4 != 65) = true := bne_iff_ne.mpr c2
    obtain rfl := Option.some.inj H
    go_enter Try.func18, Try.ntmps18
    go_wp2_with (first | ((with_reducible refine gate_dst (N := 1) rfl ?_); refine box_event ?hg (N := 1) ?hd (cs := #[.int .i64 a0_0, .int .i64 a0_1, .int .i64 a0_2, .int .i64 a0_3, .int .u8 a0_4]) (t := 32) ?hr ?_; (case hd => rfl); (case hg => rfl); (case hr => first | (go_simp; done) | (go_simp; rfl)); intro gb120 hg w5 hbox hb; have n0_ := Aside0.mk (below_step (by repeat (first | (with_reducible first | exact HB.out | apply below_alloc | apply pw_below_drewN | apply below_drew1) | exact HB.out)) hb); have n1_ := Aside0.mk (hbox); have n2_ := Aside0.mk ((by rw [hg]; exact (below_size (by repeat (first | (with_reducible first | exact HB.out | apply below_alloc | apply pw_below_drewN | apply below_drew1) | exact HB.out))) : w.heap.size ≤ gb120)); have n3_ := Aside0.mk ((by rw [hg]; exact (below_size (by repeat (first | (with_reducible first | exact HB.out | apply below_alloc | apply pw_below_drewN | apply below_drew1) | exact HB.out))) : w.heap.size ≤ gb120)); clear HB; have HB := n0_; have BK120 := n1_; have GW120 := n2_; have GE120 := n3_; clear n0_ n1_ n2_ n3_; clear hb hbox hg; have hcz6_0 : w5.cell? ⟨gb120, 0, none⟩ = some (.int .i64 a0_0) := (blk_cell BK120.out 0).trans rfl; have hcz6_1 : w5.cell? ⟨gb120, 1, none⟩ = some (.int .i64 a0_1) := (blk_cell BK120.out 1).trans rfl; have hcz6_2 : w5.cell? ⟨gb120, 2, none⟩ = some (.int .i64 a0_2) := (blk_cell BK120.out 2).trans rfl; have hcz6_3 : w5.cell? ⟨gb120, 3, none⟩ = some (.int .i64 a0_3) := (blk_cell BK120.out 3).trans rfl; have hcz6_4 : w5.cell? ⟨gb120, 4, none⟩ = some (.int .u8 a0_4) := (blk_cell BK120.out 4).trans rfl; have hfz6_0 := blk_frozen BK120.out 0; have hfz6_1 := blk_frozen BK120.out 1; have hfz6_2 := blk_frozen BK120.out 2; have hfz6_3 := blk_frozen BK120.out 3; have hfz6_4 := blk_frozen BK120.out 4))
    go_ret
    exact ⟨by first | rfl | (simp [errW_none, errW_some] <;> rfl) | (simp [*, errW_none, errW_some] <;> rfl), by repeat (first | (with_reducible first | exact HB.out | apply below_alloc | apply pw_below_drewN | apply below_drew1 | refine below_set ?_ GE120.out) | exact HB.out)⟩

/-! ### pylonref10_farther: function 27 -/
def pylonref10_farther.f : Nat → Int → Int → Int → Option (Bool)
  | 0, _, _, _ => none
  | k + 1, a0, a1, a2 => if a0 < a1 then ((pylonref10_farther.f k a1 a0 a2).bind fun t121 => (some t121)) else (if a1 < 0 then (if a0 ≥ 0 then (if a0 > a2 then (some true) else (some (decide ((wrap64 (-(wrap64 (a1 + 1)))) ≥ (wrap64 (a2 - a0)))))) else (some (decide ((wrap64 (a0 - a1)) > a2)))) else (some (decide ((wrap64 (a0 - a1)) > a2))))
theorem pylonref10_farther.mono_l : ∀ k, (∀ y0 y1 y2, LeO (pylonref10_farther.f k y0 y1 y2) (pylonref10_farther.f (k + 1) y0 y1 y2))
  | 0 => fun _ _ _ r h => by simp [pylonref10_farther.f] at h
  | k + 1 => by
    have ih0 := pylonref10_farther.mono_l k
    · intro y0 y1 y2
      unfold pylonref10_farther.f
      repeat' first
      | (with_reducible exact ih0 _ _ _)
      | (with_reducible exact LeO.refl _)
      | (with_reducible exact LeO.none _)
      | (with_reducible refine LeO.ite ?_ ?_)
      | (with_reducible refine LeO.bind ?_ (fun _ => ?_))
      | exact ih0 _ _ _
      | exact LeO.none _
      | refine LeO.ite ?_ ?_
      | refine LeO.bind ?_ (fun _ => ?_)
theorem pylonref10_farther.mono : ∀ a0 a1 a2 k, LeO (pylonref10_farther.f k a0 a1 a2) (pylonref10_farther.f (k + 1) a0 a1 a2) := by
  intro a0 a1 a2 k
  have ih0 := pylonref10_farther.mono_l k
  exact ih0 a0 a1 a2
set_option maxHeartbeats 8000000 in
set_option maxRecDepth 100000 in
theorem pylonref10_farther.calls (k : Nat) : ∀ (a0 : Int) (a1 : Int) (a2 : Int) (r : Bool) (w : World) (h : pylonref10_farther.f k a0 a1 a2 = some r),
    Calls Try.prog 27 #[.int .i64 a0, .int .i64 a1, .int .i64 a2] w fun e w' => e = .returned (.bool r) ∧ Drawn0 w w' := by
  induction k using Nat.strongRecOn with
  | _ k ih =>
  intro a0 a1 a2 r w h
  cases k with
  | zero => exact absurd h (by simp [pylonref10_farther.f])
  | succ k =>
  simp only [pylonref10_farther.f] at h
  have H : (if a0 < a1 then ((pylonref10_farther.f k a1 a0 a2).bind fun t121 => (some t121)) else (if a1 < 0 then (if a0 ≥ 0 then (if a0 > a2 then (some true) else (some (decide ((wrap64 (-(wrap64 (a1 + 1)))) ≥ (wrap64 (a2 - a0)))))) else (some (decide ((wrap64 (a0 - a1)) > a2)))) else (some (decide ((wrap64 (a0 - a1)) > a2))))) = some r := h
  clear h
  by_cases c4 : a0 < a1
  · rw [if_pos c4] at H
    have c4b0 : decide (a0 < a1) = true := decide_eq_true c4
    clear c4
    replace H := Option.bind_eq_some_iff.mp H
    obtain ⟨t121, A50, H⟩ := H
    replace H : (some t121) = some r := H
    have A5 := Aside0.mk A50
    clear A50
    obtain rfl := Option.some.inj H
    go_enter Try.func27, Try.ntmps27
    go_wp2_with (first | ((with_reducible refine gate_callee (f := 27) rfl ?_); refine goesL_ (some 13) rfl rfl Try.func27 (by kernel_rfl) rfl #[.int .i64 a1, .int .i64 a0, .int .i64 a2] rfl (by (try simp only [List.map_toArray, List.map_cons, List.map_nil]); first | done | rfl | (simp only [List.length_drop, List.length_take]; rfl)) ?_; (with_reducible refine (ih k (by omega) a1 a0 a2 t121 _ A5.out).mono ?_); rintro e w' ⟨rfl, ⟨nd, rfl⟩⟩; refine ⟨_, rfl, ?_⟩))
    go_ret
    exact ⟨by first | rfl | (simp; done) | (simp [*]; done), by repeat (first | exact Drawn0.refl _ | apply Drawn0.step)⟩
  · rw [if_neg c4] at H
    have c4b0 : decide (a0 < a1) = false := decide_eq_false c4
    clear c4
    by_cases c6 : a1 < 0
    · rw [if_pos c6] at H
      have c6b0 : decide (a1 < 0) = true := decide_eq_true c6
      clear c6
      by_cases c7 : a0 ≥ 0
      · rw [if_pos c7] at H
        have c7b0 : decide (0 ≤ a0) = true := decide_eq_true c7
        clear c7
        by_cases c8 : a0 > a2
        · rw [if_pos c8] at H
          have c8b0 : decide (a2 < a0) = true := decide_eq_true c8
          clear c8
          obtain rfl := Option.some.inj H
          go_enter Try.func27, Try.ntmps27
          go_wp2
          go_ret
          exact ⟨by first | rfl | (simp; done) | (simp [*]; done), by repeat (first | exact Drawn0.refl _ | apply Drawn0.step)⟩
        · rw [if_neg c8] at H
          have c8b0 : decide (a2 < a0) = false := decide_eq_false c8
          clear c8
          obtain rfl := Option.some.inj H
          go_enter Try.func27, Try.ntmps27
          go_wp2
          go_ret
          exact ⟨by first | rfl | (simp; done) | (simp [*]; done), by repeat (first | exact Drawn0.refl _ | apply Drawn0.step)⟩
      · rw [if_neg c7] at H
        have c7b0 : decide (0 ≤ a0) = false := decide_eq_false c7
        clear c7
        obtain rfl := Option.some.inj H
        go_enter Try.func27, Try.ntmps27
        go_wp2
        go_ret
        exact ⟨by first | rfl | (simp; done) | (simp [*]; done), by repeat (first | exact Drawn0.refl _ | apply Drawn0.step)⟩
    · rw [if_neg c6] at H
      have c6b0 : decide (a1 < 0) = false := decide_eq_false c6
      clear c6
      obtain rfl := Option.some.inj H
      go_enter Try.func27, Try.ntmps27
      go_wp2
      go_ret
      exact ⟨by first | rfl | (simp; done) | (simp [*]; done), by repeat (first | exact Drawn0.refl _ | apply Drawn0.step)⟩

-- NOT PRINTED: function 14 (pylonref10_Check)

/-! ### pylonlaw10_copyFile: function 16 -/
def pylonlaw10_copyFile.f (a0_0 : ByteArray) (a0_1 : Int) (a0_2 : Int) (a0_3 : Int) (a0_4 : Int) (a0_5 : Int) (l0_6 : List (S32)) : Option (ByteArray × Int × Int × Int × Int × Int × (List (S32))) := (some (([] : List (S32)) : List (S32))).bind fun y141 => (if y141.length + l0_6.length < 3518437208883 then (some (a0_0, a0_1, a0_2, a0_3, a0_4, a0_5, (y141 ++ l0_6))) else (none))
set_option maxHeartbeats 8000000 in
set_option maxRecDepth 100000 in
theorem pylonlaw10_copyFile.calls (a0_0 : ByteArray) (a0_1 : Int) (a0_2 : Int) (a0_3 : Int) (a0_4 : Int) (a0_5 : Int) (A0_6 : Option Addr) (c0_6 : Nat) (l0_6 : List (S32)) (r1 : ByteArray) (r2 : Int) (r3 : Int) (r4 : Int) (r5 : Int) (r6 : Int) (r7 : List (S32)) (w : World) (hr0_6 : Kd.C k32 w A0_6 l0_6.length l0_6) (hc0_6 : l0_6.length ≤ c0_6) (h : pylonlaw10_copyFile.f a0_0 a0_1 a0_2 a0_3 a0_4 a0_5 l0_6 = some (r1, r2, r3, r4, r5, r6, r7)) :
    Calls Try.prog 16 #[.agg #[.string a0_0, .int .i64 a0_1, .int .i64 a0_2, .int .i64 a0_3, .int .i64 a0_4, .int .i64 a0_5, .slice A0_6 l0_6.length c0_6]] w fun e w' => ∃ v6_ : Value, e = .returned (.agg #[.string r1, .int .i64 r2, .int .i64 r3, .int .i64 r4, .int .i64 r5, .int .i64 r6, v6_]) ∧ Kd.R k32 32 w' w.heap.size (fun _ => True) v6_ r7 ∧ Below w.heap.size w w' := by
  have hu24 := Try.underlying24
  have HR0_6 := Aside0.mk hr0_6
  have HC0_6 := Aside0.mk hc0_6
  clear hr0_6 hc0_6
  have HB := Aside0.mk (Below.refl w.heap.size w)
  have H : ((some (([] : List (S32)) : List (S32))).bind fun y141 => (if y141.length + l0_6.length < 3518437208883 then (some (a0_0, a0_1, a0_2, a0_3, a0_4, a0_5, (y141 ++ l0_6))) else (none))) = some (r1, r2, r3, r4, r5, r6, r7) := h
  clear h
  obtain ⟨y141, hy141⟩ : ∃ y_ : List (S32), y_ = (([] : List (S32))) := ⟨_, rfl⟩
  replace H : (if y141.length + l0_6.length < 3518437208883 then (some (a0_0, a0_1, a0_2, a0_3, a0_4, a0_5, (y141 ++ l0_6))) else (none)) = some (r1, r2, r3, r4, r5, r6, r7) := by first | (rw [hy141]; with_reducible exact H) | (have H2_ := (Option.bind_some _ _).symm.trans H; rw [hy141]; with_reducible exact H2_) | (have H2_ := (Option.bind_some _ _).symm.trans H; with_reducible exact H2_) | with_reducible exact H | (rw [hy141]; exact H) | exact H
  have Ny141 := Aside0.mk hy141
  clear hy141
  by_cases c2 : y141.length + l0_6.length < 3518437208883
  · rw [if_pos c2] at H
    have LMc2 := Aside0.mk c2
    clear c2
    obtain ⟨y144, hy144⟩ : ∃ y_ : List (S32), y_ = (y141 ++ l0_6) := ⟨_, rfl⟩
    replace H : (some (a0_0, a0_1, a0_2, a0_3, a0_4, a0_5, y144)) = some (r1, r2, r3, r4, r5, r6, r7) := by first | (rw [hy144]; with_reducible exact H) | (have H2_ := (Option.bind_some _ _).symm.trans H; rw [hy144]; with_reducible exact H2_) | (have H2_ := (Option.bind_some _ _).symm.trans H; with_reducible exact H2_) | with_reducible exact H | (rw [hy144]; exact H) | exact H
    have Ny144 := Aside0.mk hy144
    clear hy144
    simp only [Option.some.injEq, Prod.mk.injEq] at H
    obtain ⟨rfl, rfl, rfl, rfl, rfl, rfl, rfl⟩ := H
    go_enter Try.func16, Try.ntmps16
    go_wp2_with (first | ((with_reducible refine gate_dst (N := 1) rfl ?_); refine box_event ?hg (N := 1) ?hd (cs := #[.string a0_0, .int .i64 a0_1, .int .i64 a0_2, .int .i64 a0_3, .int .i64 a0_4, .int .i64 a0_5, .slice A0_6 l0_6.length c0_6]) (t := 24) ?hr ?_; (case hd => rfl); (case hg => rfl); (case hr => first | (go_simp; done) | (go_simp; rfl)); intro gb139 hg w3 hbox hb; have n0_ := Aside0.mk (below_step (by repeat (first | (with_reducible first | exact HB.out | apply below_alloc | apply pw_below_drewN | apply below_drew1) | exact HB.out)) hb); have n1_ := Aside0.mk (hbox); have n2_ := Aside0.mk ((by rw [hg]; exact (below_size (by repeat (first | (with_reducible first | exact HB.out | apply below_alloc | apply pw_below_drewN | apply below_drew1) | exact HB.out))) : w.heap.size ≤ gb139)); have n3_ := Aside0.mk ((by rw [hg]; exact (below_size (by repeat (first | (with_reducible first | exact HB.out | apply below_alloc | apply pw_below_drewN | apply below_drew1) | exact HB.out))) : w.heap.size ≤ gb139)); clear HB; have HB := n0_; have BK139 := n1_; have GW139 := n2_; have GE139 := n3_; clear n0_ n1_ n2_ n3_; clear hb hbox hg) | ((with_reducible refine gate_dst (N := 2) rfl ?_); refine box_event ?hg (N := 2) ?hd (cs := #[.string (⟨#[]⟩ : ByteArray), .int .i64 0, .int .i64 0, .int .i64 0, .int .i64 0, .int .i64 0, .slice none 0 0]) (t := 24) ?hr ?_; (case hd => rfl); (case hg => rfl); (case hr => first | (go_simp; done) | (go_simp; rfl)); intro gb140 hg w4 hbox hb; have n0_ := Aside0.mk (blk_below (g := gb139) (o := .cells #[.string a0_0, .int .i64 a0_1, .int .i64 a0_2, .int .i64 a0_3, .int .i64 a0_4, .int .i64 a0_5, .slice A0_6 l0_6.length c0_6] 24 (0, 0)) (by (with_reducible repeat (first | refine blk_drewN ?_ _ | refine blk_drew ?_ | refine blk_alloc ?_ _)); exact BK139.out) hb); have n1_ := Aside0.mk (below_step (by repeat (first | (with_reducible first | exact HB.out | apply below_alloc | apply pw_below_drewN | apply below_drew1 | refine below_set ?_ GE139.out) | exact HB.out)) hb); have n2_ := Aside0.mk (hbox); have n3_ := Aside0.mk ((by rw [hg]; exact (below_size (by repeat (first | (with_reducible first | exact HB.out | apply below_alloc | apply pw_below_drewN | apply below_drew1 | refine below_set ?_ GE139.out) | exact HB.out))) : w.heap.size ≤ gb140)); have n4_ := Aside0.mk ((by rw [hg]; exact (below_size (by repeat (first | (with_reducible first | exact HB.out | apply below_alloc | apply pw_below_drewN | apply below_drew1 | refine below_set ?_ GE139.out) | exact HB.out))) : w.heap.size ≤ gb140)); have n5_ := Aside0.mk ((by rw [hg]; exact Nat.ne_of_lt (blk_lt (g := gb139) (o := .cells #[.string a0_0, .int .i64 a0_1, .int .i64 a0_2, .int .i64 a0_3, .int .i64 a0_4, .int .i64 a0_5, .slice A0_6 l0_6.length c0_6] 24 (0, 0)) (by (with_reducible repeat (first | refine blk_drewN ?_ _ | refine blk_drew ?_ | refine blk_alloc ?_ _)); exact BK139.out)) : gb139 ≠ gb140)); have n6_ := Aside0.mk ((by rw [hg]; exact Nat.ne_of_gt (blk_lt (g := gb139) (o := .cells #[.string a0_0, .int .i64 a0_1, .int .i64 a0_2, .int .i64 a0_3, .int .i64 a0_4, .int .i64 a0_5, .slice A0_6 l0_6.length c0_6] 24 (0, 0)) (by (with_reducible repeat (first | refine blk_drewN ?_ _ | refine blk_drew ?_ | refine blk_alloc ?_ _)); exact BK139.out)) : gb140 ≠ gb139)); clear BK139; clear HB; have BK139 := n0_; have HB := n1_; have BK140 := n2_; have GW140 := n3_; have GE140 := n4_; have NB139_140 := n5_; have NB140_139 := n6_; clear n0_ n1_ n2_ n3_ n4_ n5_ n6_; clear hb hbox hg) | ((with_reducible refine gate_dst (N := 3) rfl ?_); refine Kd.R_lit k32 _ 32 ?hg (N := 3) ?hd (xs := ([] : List (S32))) (inner := []) (ok := fun _ => True) (okp := fun _ => True) ?hr ?hp (fun _ hk => hk) trivial (Below.refl _ _) (Nat.le_refl _) (by simp) ?_; (case hd => rfl); (case hg => rfl); (case hr => first | (go_simp; done) | (go_simp; rfl)); (case hp => exact (Reps.none _ _)); intro v142 w5 ho6 hb hg_ hnew_; clear hg_ hnew_; (first | rw [← Ny141.out] at ho6 | (simp only [Int.reduceToNat] at ho6; rw [← Ny141.out] at ho6)); have n0_ := Aside0.mk (Kd.R_lower ho6 (below_size (by repeat (first | (with_reducible first | exact HB.out | apply below_alloc | apply pw_below_drewN | apply below_drew1 | refine below_set ?_ GE139.out | refine below_set ?_ GE140.out) | exact HB.out)))); have n1_ := Aside0.mk (blk_below (g := gb139) (o := .cells #[.string a0_0, .int .i64 a0_1, .int .i64 a0_2, .int .i64 a0_3, .int .i64 a0_4, .int .i64 a0_5, .slice A0_6 l0_6.length c0_6] 24 (0, 0)) (by (with_reducible repeat (first | refine blk_drewN ?_ _ | refine blk_drew ?_ | refine blk_alloc ?_ _)); exact BK139.out) hb); have n2_ := Aside0.mk (blk_below (g := gb140) (o := .cells #[.string (⟨#[]⟩ : ByteArray), .int .i64 0, .int .i64 0, .int .i64 0, .int .i64 0, .int .i64 0, .slice none 0 0] 24 (0, 0)) (by (with_reducible repeat (first | refine blk_drewN ?_ _ | refine blk_drew ?_ | refine blk_alloc ?_ _)); exact BK140.out) hb); have n3_ := Aside0.mk (below_step (by repeat (first | (with_reducible first | exact HB.out | apply below_alloc | apply pw_below_drewN | apply below_drew1 | refine below_set ?_ GE139.out | refine below_set ?_ GE140.out) | exact HB.out)) hb); clear BK139; clear BK140; clear HB; have HO143 := n0_; have BK139 := n1_; have BK140 := n2_; have HB := n3_; clear n0_ n1_ n2_ n3_; clear hb ho6; have hnb7 := NB139_140.out; have hnc7 := NB140_139.out; have hcz8_0 : w5.cell? ⟨gb139, 0, none⟩ = some (.string a0_0) := (blk_cell BK139.out 0).trans rfl; have hcz8_1 : w5.cell? ⟨gb139, 1, none⟩ = some (.int .i64 a0_1) := (blk_cell BK139.out 1).trans rfl; have hcz8_2 : w5.cell? ⟨gb139, 2, none⟩ = some (.int .i64 a0_2) := (blk_cell BK139.out 2).trans rfl; have hcz8_3 : w5.cell? ⟨gb139, 3, none⟩ = some (.int .i64 a0_3) := (blk_cell BK139.out 3).trans rfl; have hcz8_4 : w5.cell? ⟨gb139, 4, none⟩ = some (.int .i64 a0_4) := (blk_cell BK139.out 4).trans rfl; have hcz8_5 : w5.cell? ⟨gb139, 5, none⟩ = some (.int .i64 a0_5) := (blk_cell BK139.out 5).trans rfl; have hcz8_6 : w5.cell? ⟨gb139, 6, none⟩ = some (.slice A0_6 l0_6.length c0_6) := (blk_cell BK139.out 6).trans rfl; have hfz8_0 := blk_frozen BK139.out 0; have hfz8_1 := blk_frozen BK139.out 1; have hfz8_2 := blk_frozen BK139.out 2; have hfz8_3 := blk_frozen BK139.out 3; have hfz8_4 := blk_frozen BK139.out 4; have hfz8_5 := blk_frozen BK139.out 5; have hfz8_6 := blk_frozen BK139.out 6) | ((with_reducible refine gate_builtin (b := .append) (xs := #[.tmp 3, .tmp 5]) rfl ?_); at_builtin; refine Kd.R_append_rows k32 (w0 := w) w.heap.size rfl (.tmp 3) (.tmp 5) 22 32 (.agg #[(.int .i64 0), (.int .i64 0), (.int .i64 0), (.int .i64 0), (.int .u8 0)]) 40 rfl Try.underlying22 info32 rfl (by decide) (by omega) v142 y141 l0_6 _ _ _ (fun _ => True) (fun _ => False) rfl rfl ?aO ?aR (fun _ _ h => h) (fun _ h => h.elim) ?aF ?aB ?aS ?aL ?_; (case aR => repeat (first | exact (Kd.C_below HR0_6.out HB.out) | (with_reducible refine Kd.C_alloc ?_ _) | (with_reducible refine Kd.C_drewN ?_ _) | (with_reducible refine Kd.C_drew ?_))); (case aB => exact (by repeat (first | (with_reducible first | exact HB.out | apply below_alloc | apply pw_below_drewN | apply below_drew1 | refine below_set ?_ GE139.out | refine below_set ?_ GE140.out) | exact HB.out))); (case aF => exact (fun _ _ => trivial)); (case aO => exact (by (with_reducible repeat (first | apply Kd.R_alloc | apply Kd.R_drewN | apply Kd.R_drew)); exact HO143.out)); (case aS => exact (below_size (by repeat (first | (with_reducible first | exact HB.out | apply below_alloc | apply pw_below_drewN | apply below_drew1 | refine below_set ?_ GE139.out | refine below_set ?_ GE140.out) | exact HB.out)))); (case aL => have := LMc2.out; omega); intro v145 w9 ho hb hg hat; rw [← Ny144.out] at ho; have n0_ := Aside0.mk (blk_grown (g := gb139) (o := .cells #[.string a0_0, .int .i64 a0_1, .int .i64 a0_2, .int .i64 a0_3, .int .i64 a0_4, .int .i64 a0_5, .slice A0_6 l0_6.length c0_6] 24 (0, 0)) (by (with_reducible repeat (first | refine blk_drewN ?_ _ | refine blk_drew ?_ | refine blk_alloc ?_ _)); exact BK139.out) hg (Kd.R_ne HO143.out BK139.out (by decide))); have n1_ := Aside0.mk (blk_grown (g := gb140) (o := .cells #[.string (⟨#[]⟩ : ByteArray), .int .i64 0, .int .i64 0, .int .i64 0, .int .i64 0, .int .i64 0, .slice none 0 0] 24 (0, 0)) (by (with_reducible repeat (first | refine blk_drewN ?_ _ | refine blk_drew ?_ | refine blk_alloc ?_ _)); exact BK140.out) hg (Kd.R_ne HO143.out BK140.out (by decide))); have n2_ := Aside0.mk (hb); have n3_ := Aside0.mk (ho); clear BK139; clear BK140; clear HB; clear HO143; have BK139 := n0_; have BK140 := n1_; have HB := n2_; have HO146 := n3_; clear n0_ n1_ n2_ n3_; clear ho hb hg hat; obtain ⟨Ao10, co10, eo10⟩ := Kd.R_slice HO146.out; subst eo10; have hcz11_0 : w9.cell? ⟨gb139, 0, none⟩ = some (.string a0_0) := (blk_cell BK139.out 0).trans rfl; have hcz11_1 : w9.cell? ⟨gb139, 1, none⟩ = some (.int .i64 a0_1) := (blk_cell BK139.out 1).trans rfl; have hcz11_2 : w9.cell? ⟨gb139, 2, none⟩ = some (.int .i64 a0_2) := (blk_cell BK139.out 2).trans rfl; have hcz11_3 : w9.cell? ⟨gb139, 3, none⟩ = some (.int .i64 a0_3) := (blk_cell BK139.out 3).trans rfl; have hcz11_4 : w9.cell? ⟨gb139, 4, none⟩ = some (.int .i64 a0_4) := (blk_cell BK139.out 4).trans rfl; have hcz11_5 : w9.cell? ⟨gb139, 5, none⟩ = some (.int .i64 a0_5) := (blk_cell BK139.out 5).trans rfl; have hcz11_6 : w9.cell? ⟨gb139, 6, none⟩ = some (.slice A0_6 l0_6.length c0_6) := (blk_cell BK139.out 6).trans rfl; have hfz11_0 := blk_frozen BK139.out 0; have hfz11_1 := blk_frozen BK139.out 1; have hfz11_2 := blk_frozen BK139.out 2; have hfz11_3 := blk_frozen BK139.out 3; have hfz11_4 := blk_frozen BK139.out 4; have hfz11_5 := blk_frozen BK139.out 5; have hfz11_6 := blk_frozen BK139.out 6; have hcz12_0 : w9.cell? ⟨gb140, 0, none⟩ = some (.string (⟨#[]⟩ : ByteArray)) := (blk_cell BK140.out 0).trans rfl; have hcz12_1 : w9.cell? ⟨gb140, 1, none⟩ = some (.int .i64 0) := (blk_cell BK140.out 1).trans rfl; have hcz12_2 : w9.cell? ⟨gb140, 2, none⟩ = some (.int .i64 0) := (blk_cell BK140.out 2).trans rfl; have hcz12_3 : w9.cell? ⟨gb140, 3, none⟩ = some (.int .i64 0) := (blk_cell BK140.out 3).trans rfl; have hcz12_4 : w9.cell? ⟨gb140, 4, none⟩ = some (.int .i64 0) := (blk_cell BK140.out 4).trans rfl; have hcz12_5 : w9.cell? ⟨gb140, 5, none⟩ = some (.int .i64 0) := (blk_cell BK140.out 5).trans rfl; have hcz12_6 : w9.cell? ⟨gb140, 6, none⟩ = some (.slice none 0 0) := (blk_cell BK140.out 6).trans rfl; have hfz12_0 := blk_frozen BK140.out 0; have hfz12_1 := blk_frozen BK140.out 1; have hfz12_2 := blk_frozen BK140.out 2; have hfz12_3 := blk_frozen BK140.out 3; have hfz12_4 := blk_frozen BK140.out 4; have hfz12_5 := blk_frozen BK140.out 5; have hfz12_6 := blk_frozen BK140.out 6))
    refine bodyPost_ret (results_cell_row rfl _ _ gb140 24 #[.string a0_0, .int .i64 a0_1, .int .i64 a0_2, .int .i64 a0_3, .int .i64 a0_4, .int .i64 a0_5, .slice Ao10 y144.length co10] (0, 0) _ rfl (by (with_reducible repeat (first | refine blk_drewN ?_ _ | refine blk_drew ?_ | refine blk_alloc ?_ _)); refine blk_put (cs := #[.string a0_0, .int .i64 a0_1, .int .i64 a0_2, .int .i64 a0_3, .int .i64 a0_4, .int .i64 a0_5, .slice none 0 0]) ?_ 6 _ rfl; (with_reducible repeat (first | refine blk_drewN ?_ _ | refine blk_drew ?_ | refine blk_alloc ?_ _)); refine blk_put (cs := #[.string a0_0, .int .i64 a0_1, .int .i64 a0_2, .int .i64 a0_3, .int .i64 a0_4, .int .i64 0, .slice none 0 0]) ?_ 5 _ rfl; (with_reducible repeat (first | refine blk_drewN ?_ _ | refine blk_drew ?_ | refine blk_alloc ?_ _)); refine blk_put (cs := #[.string a0_0, .int .i64 a0_1, .int .i64 a0_2, .int .i64 a0_3, .int .i64 0, .int .i64 0, .slice none 0 0]) ?_ 4 _ rfl; (with_reducible repeat (first | refine blk_drewN ?_ _ | refine blk_drew ?_ | refine blk_alloc ?_ _)); refine blk_put (cs := #[.string a0_0, .int .i64 a0_1, .int .i64 a0_2, .int .i64 0, .int .i64 0, .int .i64 0, .slice none 0 0]) ?_ 3 _ rfl; (with_reducible repeat (first | refine blk_drewN ?_ _ | refine blk_drew ?_ | refine blk_alloc ?_ _)); refine blk_put (cs := #[.string a0_0, .int .i64 a0_1, .int .i64 0, .int .i64 0, .int .i64 0, .int .i64 0, .slice none 0 0]) ?_ 2 _ rfl; (with_reducible repeat (first | refine blk_drewN ?_ _ | refine blk_drew ?_ | refine blk_alloc ?_ _)); refine blk_put (cs := #[.string a0_0, .int .i64 0, .int .i64 0, .int .i64 0, .int .i64 0, .int .i64 0, .slice none 0 0]) ?_ 1 _ rfl; (with_reducible repeat (first | refine blk_drewN ?_ _ | refine blk_drew ?_ | refine blk_alloc ?_ _)); refine blk_put (cs := #[.string (⟨#[]⟩ : ByteArray), .int .i64 0, .int .i64 0, .int .i64 0, .int .i64 0, .int .i64 0, .slice none 0 0]) ?_ 0 _ rfl; (with_reducible repeat (first | refine blk_drewN ?_ _ | refine blk_drew ?_ | refine blk_alloc ?_ _)); refine blk_far ?_ NB140_139.out _; (with_reducible repeat (first | refine blk_drewN ?_ _ | refine blk_drew ?_ | refine blk_alloc ?_ _)); exact BK140.out) Try.underlying24 rfl (by kernel_rfl)) rfl ?_
    exact ⟨_, by first | rfl | (simp [errW_none, errW_some] <;> rfl) | (simp [*, errW_none, errW_some] <;> rfl), by (with_reducible repeat (first | apply Kd.R_alloc | apply Kd.R_drewN | apply Kd.R_drew)); exact Kd.R_mono (Kd.R_far (p := ⟨gb140, 6, none⟩) (Kd.R_far (p := ⟨gb140, 5, none⟩) (Kd.R_far (p := ⟨gb140, 4, none⟩) (Kd.R_far (p := ⟨gb140, 3, none⟩) (Kd.R_far (p := ⟨gb140, 2, none⟩) (Kd.R_far (p := ⟨gb140, 1, none⟩) (Kd.R_far (p := ⟨gb140, 0, none⟩) (Kd.R_far (p := ⟨gb139, 6, none⟩) (Kd.R_types (Kd.R_types HO146.out BK139.out (by decide)) BK140.out (by decide)) (fun _ hk => hk.1.2) (.slice Ao10 y144.length co10)) (fun _ hk => hk.2) (.string a0_0)) (fun _ hk => hk.2) (.int .i64 a0_1)) (fun _ hk => hk.2) (.int .i64 a0_2)) (fun _ hk => hk.2) (.int .i64 a0_3)) (fun _ hk => hk.2) (.int .i64 a0_4)) (fun _ hk => hk.2) (.int .i64 a0_5)) (fun _ hk => hk.2) (.slice Ao10 y144.length co10)) (fun _ hk => trivial), by repeat (first | (with_reducible first | exact HB.out | apply below_alloc | apply pw_below_drewN | apply below_drew1 | refine below_set ?_ GE139.out | refine below_set ?_ GE140.out) | exact HB.out)⟩
  · rw [if_neg c2] at H
    exact absurd H (by simp)

-- NOT PRINTED: function 3 (pylonlaw10_VeeChecks)

/-! ### pylonlaw10_VeeFirst: function 4 -/
mutual
def pylonlaw10_VeeFirst.j0 : Nat → Int → Int → Int → Bool → ByteArray → Int → Int → Int → Int → Int → List (S32) → Option (Bool)
  | 0, _, _, _, _, _, _, _, _, _, _, _ => none
  | k + 1, x1, x2, x7, x40, x150000, x150001, x150002, x150003, x150004, x150005, x150006 => if x40 = true then (some false) else ((pylonlaw10_copyFile.f x150000 x150001 x150002 x150003 x150004 x150005 x150006).bind fun bt162 => (if 0 ≤ x7 then (if x7 ≤ (bt162.2.2.2.2.2.2.length : Int) then ((vee_Check.f k bt162.1 bt162.2.1 bt162.2.2.1 bt162.2.2.2.1 bt162.2.2.2.2.1 bt162.2.2.2.2.2.1 (bt162.2.2.2.2.2.2.take (x7 : Int).toNat) x1 x2).bind fun bt175 => (pylonlaw10_VeeFirst.l0 k x7 bt175.1 bt175.2 false x7 0 x150000 x150001 x150002 x150003 x150004 x150005 x150006)) else (none)) else (none)))
def pylonlaw10_VeeFirst.l0 : Nat → Int → Int → Int → Bool → Int → Int → ByteArray → Int → Int → Int → Int → Int → List (S32) → Option (Bool)
  | 0, _, _, _, _, _, _, _, _, _, _, _, _, _ => none
  | k + 1, x7, x10, x11, x12, x55, x56, x150000, x150001, x150002, x150003, x150004, x150005, x150006 => if x56 < x55 then (if x12 = true then (pylonlaw10_VeeFirst.l0 k x7 x10 x11 true x55 (wrap64 (x56 + 1)) x150000 x150001 x150002 x150003 x150004 x150005 x150006) else (if 0 ≤ x56 then (if x56 < (x150006.length : Int) then ((vee_Good.f ((rd_T32 x150006 x56).f0) ((rd_T32 x150006 x56).f1) ((rd_T32 x150006 x56).f2) ((rd_T32 x150006 x56).f3) ((rd_T32 x150006 x56).f4)).bind fun t178 => (pylonlaw10_VeeFirst.l0 k x7 x10 x11 t178 x55 (wrap64 (x56 + 1)) x150000 x150001 x150002 x150003 x150004 x150005 x150006)) else (none)) else (none))) else (if x12 = true then (if x11 = 0 then (if x10 = 0 then (some (decide (x7 < (x150006.length : Int)))) else (some false)) else (some false)) else (if x11 = 3 then (some (x10 == x7)) else (some false)))
end
def pylonlaw10_VeeFirst.f (k : Nat) (a0_0 : ByteArray) (a0_1 : Int) (a0_2 : Int) (a0_3 : Int) (a0_4 : Int) (a0_5 : Int) (l0_6 : List (S32)) (a1 : Int) (a2 : Int) : Option (Bool) := (pylonlaw10_awake.f k).bind fun t150 => (if t150 = true then ((pylonlaw10_copyFile.f a0_0 a0_1 a0_2 a0_3 a0_4 a0_5 l0_6).bind fun bt151 => ((vee_Check.f k bt151.1 bt151.2.1 bt151.2.2.1 bt151.2.2.2.1 bt151.2.2.2.2.1 bt151.2.2.2.2.2.1 bt151.2.2.2.2.2.2 a1 a2).bind fun bt160 => (if bt160.2 = 0 then (some (bt160.1 == 0)) else (if bt160.2 = 3 then (if bt160.1 < 0 then (pylonlaw10_VeeFirst.j0 k a1 a2 bt160.1 true a0_0 a0_1 a0_2 a0_3 a0_4 a0_5 l0_6) else (pylonlaw10_VeeFirst.j0 k a1 a2 bt160.1 (decide (bt160.1 > (l0_6.length : Int))) a0_0 a0_1 a0_2 a0_3 a0_4 a0_5 l0_6)) else (pylonlaw10_VeeFirst.j0 k a1 a2 bt160.1 true a0_0 a0_1 a0_2 a0_3 a0_4 a0_5 l0_6))))) else (some false))
theorem pylonlaw10_VeeFirst.mono_l : ∀ k, (∀ y0 y1 y2 y3 y4 y5 y6 y7 y8 y9 y10, LeO (pylonlaw10_VeeFirst.j0 k y0 y1 y2 y3 y4 y5 y6 y7 y8 y9 y10) (pylonlaw10_VeeFirst.j0 (k + 1) y0 y1 y2 y3 y4 y5 y6 y7 y8 y9 y10)) ∧ (∀ y0 y1 y2 y3 y4 y5 y6 y7 y8 y9 y10 y11 y12, LeO (pylonlaw10_VeeFirst.l0 k y0 y1 y2 y3 y4 y5 y6 y7 y8 y9 y10 y11 y12) (pylonlaw10_VeeFirst.l0 (k + 1) y0 y1 y2 y3 y4 y5 y6 y7 y8 y9 y10 y11 y12))
  | 0 => ⟨fun _ _ _ _ _ _ _ _ _ _ _ r h => by simp [pylonlaw10_VeeFirst.j0] at h, fun _ _ _ _ _ _ _ _ _ _ _ _ _ r h => by simp [pylonlaw10_VeeFirst.l0] at h⟩
  | k + 1 => by
    obtain ⟨ih0, ih1⟩ := pylonlaw10_VeeFirst.mono_l k
    refine ⟨?_, ?_⟩
    · intro y0 y1 y2 y3 y4 y5 y6 y7 y8 y9 y10
      unfold pylonlaw10_VeeFirst.j0
      repeat' first
      | (with_reducible exact ih0 _ _ _ _ _ _ _ _ _ _ _)
      | (with_reducible exact ih1 _ _ _ _ _ _ _ _ _ _ _ _ _)
      | (with_reducible exact pylonlaw10_awake.mono _)
      | (with_reducible exact vee_Check.mono _ _ _ _ _ _ _ _ _ _)
      | (with_reducible exact LeO.refl _)
      | (with_reducible exact LeO.none _)
      | (with_reducible refine LeO.ite ?_ ?_)
      | (with_reducible refine LeO.bind ?_ (fun _ => ?_))
      | exact ih0 _ _ _ _ _ _ _ _ _ _ _
      | exact ih1 _ _ _ _ _ _ _ _ _ _ _ _ _
      | exact pylonlaw10_awake.mono _
      | exact vee_Check.mono _ _ _ _ _ _ _ _ _ _
      | exact LeO.none _
      | refine LeO.ite ?_ ?_
      | refine LeO.bind ?_ (fun _ => ?_)
    · intro y0 y1 y2 y3 y4 y5 y6 y7 y8 y9 y10 y11 y12
      unfold pylonlaw10_VeeFirst.l0
      repeat' first
      | (with_reducible exact ih0 _ _ _ _ _ _ _ _ _ _ _)
      | (with_reducible exact ih1 _ _ _ _ _ _ _ _ _ _ _ _ _)
      | (with_reducible exact pylonlaw10_awake.mono _)
      | (with_reducible exact vee_Check.mono _ _ _ _ _ _ _ _ _ _)
      | (with_reducible exact LeO.refl _)
      | (with_reducible exact LeO.none _)
      | (with_reducible refine LeO.ite ?_ ?_)
      | (with_reducible refine LeO.bind ?_ (fun _ => ?_))
      | exact ih0 _ _ _ _ _ _ _ _ _ _ _
      | exact ih1 _ _ _ _ _ _ _ _ _ _ _ _ _
      | exact pylonlaw10_awake.mono _
      | exact vee_Check.mono _ _ _ _ _ _ _ _ _ _
      | exact LeO.none _
      | refine LeO.ite ?_ ?_
      | refine LeO.bind ?_ (fun _ => ?_)
theorem pylonlaw10_VeeFirst.mono : ∀ a0 a1 a2 a3 a4 a5 a6 a7 a8 k, LeO (pylonlaw10_VeeFirst.f k a0 a1 a2 a3 a4 a5 a6 a7 a8) (pylonlaw10_VeeFirst.f (k + 1) a0 a1 a2 a3 a4 a5 a6 a7 a8) := by
  intro a0 a1 a2 a3 a4 a5 a6 a7 a8 k
  obtain ⟨ih0, ih1⟩ := pylonlaw10_VeeFirst.mono_l k
  unfold pylonlaw10_VeeFirst.f
  repeat' first
      | (with_reducible exact ih0 _ _ _ _ _ _ _ _ _ _ _)
      | (with_reducible exact ih1 _ _ _ _ _ _ _ _ _ _ _ _ _)
      | (with_reducible exact pylonlaw10_awake.mono _)
      | (with_reducible exact vee_Check.mono _ _ _ _ _ _ _ _ _ _)
      | (with_reducible exact LeO.refl _)
      | (with_reducible exact LeO.none _)
      | (with_reducible refine LeO.ite ?_ ?_)
      | (with_reducible refine LeO.bind ?_ (fun _ => ?_))
      | exact ih0 _ _ _ _ _ _ _ _ _ _ _
      | exact ih1 _ _ _ _ _ _ _ _ _ _ _ _ _
      | exact pylonlaw10_awake.mono _
      | exact vee_Check.mono _ _ _ _ _ _ _ _ _ _
      | exact LeO.none _
      | refine LeO.ite ?_ ?_
      | refine LeO.bind ?_ (fun _ => ?_)
set_option maxHeartbeats 8000000 in
set_option maxRecDepth 100000 in
theorem pylonlaw10_VeeFirst.calls (k : Nat) (a0_0 : ByteArray) (a0_1 : Int) (a0_2 : Int) (a0_3 : Int) (a0_4 : Int) (a0_5 : Int) (A0_6 : Option Addr) (c0_6 : Nat) (l0_6 : List (S32)) (a1 : Int) (a2 : Int) (r : Bool) (w : World) (hr0_6 : Kd.C k32 w A0_6 l0_6.length l0_6) (hc0_6 : l0_6.length ≤ c0_6) (h : pylonlaw10_VeeFirst.f k a0_0 a0_1 a0_2 a0_3 a0_4 a0_5 l0_6 a1 a2 = some r) :
    Calls Try.prog 4 #[.agg #[.string a0_0, .int .i64 a0_1, .int .i64 a0_2, .int .i64 a0_3, .int .i64 a0_4, .int .i64 a0_5, .slice A0_6 l0_6.length c0_6], .int .i64 a1, .int .i64 a2] w fun e w' => e = .returned (.bool r) ∧ Below w.heap.size w w' := by
  have hu24 := Try.underlying24
  have hu32 := Try.underlying32
  have HR0_6 := Aside0.mk hr0_6
  have HC0_6 := Aside0.mk hc0_6
  clear hr0_6 hc0_6
  have HB := Aside0.mk (Below.refl w.heap.size w)
  have H : ((pylonlaw10_awake.f k).bind fun t150 => (if t150 = true then ((pylonlaw10_copyFile.f a0_0 a0_1 a0_2 a0_3 a0_4 a0_5 l0_6).bind fun bt151 => ((vee_Check.f k bt151.1 bt151.2.1 bt151.2.2.1 bt151.2.2.2.1 bt151.2.2.2.2.1 bt151.2.2.2.2.2.1 bt151.2.2.2.2.2.2 a1 a2).bind fun bt160 => (if bt160.2 = 0 then (some (bt160.1 == 0)) else (if bt160.2 = 3 then (if bt160.1 < 0 then (pylonlaw10_VeeFirst.j0 k a1 a2 bt160.1 true a0_0 a0_1 a0_2 a0_3 a0_4 a0_5 l0_6) else (pylonlaw10_VeeFirst.j0 k a1 a2 bt160.1 (decide (bt160.1 > (l0_6.length : Int))) a0_0 a0_1 a0_2 a0_3 a0_4 a0_5 l0_6)) else (pylonlaw10_VeeFirst.j0 k a1 a2 bt160.1 true a0_0 a0_1 a0_2 a0_3 a0_4 a0_5 l0_6))))) else (some false))) = some r := h
  clear h
  replace H := Option.bind_eq_some_iff.mp H
  obtain ⟨t150, A40, H⟩ := H
  replace H : (if t150 = true then ((pylonlaw10_copyFile.f a0_0 a0_1 a0_2 a0_3 a0_4 a0_5 l0_6).bind fun bt151 => ((vee_Check.f k bt151.1 bt151.2.1 bt151.2.2.1 bt151.2.2.2.1 bt151.2.2.2.2.1 bt151.2.2.2.2.2.1 bt151.2.2.2.2.2.2 a1 a2).bind fun bt160 => (if bt160.2 = 0 then (some (bt160.1 == 0)) else (if bt160.2 = 3 then (if bt160.1 < 0 then (pylonlaw10_VeeFirst.j0 k a1 a2 bt160.1 true a0_0 a0_1 a0_2 a0_3 a0_4 a0_5 l0_6) else (pylonlaw10_VeeFirst.j0 k a1 a2 bt160.1 (decide (bt160.1 > (l0_6.length : Int))) a0_0 a0_1 a0_2 a0_3 a0_4 a0_5 l0_6)) else (pylonlaw10_VeeFirst.j0 k a1 a2 bt160.1 true a0_0 a0_1 a0_2 a0_3 a0_4 a0_5 l0_6))))) else (some false)) = some r := H
  have A4 := Aside0.mk A40
  clear A40
  by_cases c5 : t150 = true
  · subst c5
    have H1 : ((pylonlaw10_copyFile.f a0_0 a0_1 a0_2 a0_3 a0_4 a0_5 l0_6).bind fun bt151 => ((vee_Check.f k bt151.1 bt151.2.1 bt151.2.2.1 bt151.2.2.2.1 bt151.2.2.2.2.1 bt151.2.2.2.2.2.1 bt151.2.2.2.2.2.2 a1 a2).bind fun bt160 => (if bt160.2 = 0 then (some (bt160.1 == 0)) else (if bt160.2 = 3 then (if bt160.1 < 0 then (pylonlaw10_VeeFirst.j0 k a1 a2 bt160.1 true a0_0 a0_1 a0_2 a0_3 a0_4 a0_5 l0_6) else (pylonlaw10_VeeFirst.j0 k a1 a2 bt160.1 (decide (bt160.1 > (l0_6.length : Int))) a0_0 a0_1 a0_2 a0_3 a0_4 a0_5 l0_6)) else (pylonlaw10_VeeFirst.j0 k a1 a2 bt160.1 true a0_0 a0_1 a0_2 a0_3 a0_4 a0_5 l0_6))))) = some r := by rw [if_pos rfl] at H; exact H
    clear H
    have H := H1
    clear H1
    replace H := Option.bind_eq_some_iff.mp H
    obtain ⟨⟨t151, t152, t153, t154, t155, t156, t157⟩, A60, H⟩ := H
    replace H : ((vee_Check.f k t151 t152 t153 t154 t155 t156 t157 a1 a2).bind fun bt160 => (if bt160.2 = 0 then (some (bt160.1 == 0)) else (if bt160.2 = 3 then (if bt160.1 < 0 then (pylonlaw10_VeeFirst.j0 k a1 a2 bt160.1 true a0_0 a0_1 a0_2 a0_3 a0_4 a0_5 l0_6) else (pylonlaw10_VeeFirst.j0 k a1 a2 bt160.1 (decide (bt160.1 > (l0_6.length : Int))) a0_0 a0_1 a0_2 a0_3 a0_4 a0_5 l0_6)) else (pylonlaw10_VeeFirst.j0 k a1 a2 bt160.1 true a0_0 a0_1 a0_2 a0_3 a0_4 a0_5 l0_6)))) = some r := H
    have A6 := Aside0.mk A60
    clear A60
    replace H := Option.bind_eq_some_iff.mp H
    obtain ⟨⟨t160, t161⟩, A70, H⟩ := H
    replace H : (if t161 = 0 then (some (t160 == 0)) else (if t161 = 3 then (if t160 < 0 then (pylonlaw10_VeeFirst.j0 k a1 a2 t160 true a0_0 a0_1 a0_2 a0_3 a0_4 a0_5 l0_6) else (pylonlaw10_VeeFirst.j0 k a1 a2 t160 (decide (t160 > (l0_6.length : Int))) a0_0 a0_1 a0_2 a0_3 a0_4 a0_5 l0_6)) else (pylonlaw10_VeeFirst.j0 k a1 a2 t160 true a0_0 a0_1 a0_2 a0_3 a0_4 a0_5 l0_6))) = some r := H
    have A7 := Aside0.mk A70
    clear A70
    by_cases c8 : t161 = 0
    · rw [if_pos c8] at H
      have c8b0 : (t161 == 0) = true := beq_iff_eq.mpr c8
      have c8b1 : (t161 != 0) = false := bne_eq_false_iff_eq.mpr c8
      clear c8
      obtain rfl := Option.some.inj H
      go_enter Try.func4, Try.ntmps4
      go_wp2_with (first | ((with_reducible refine gate_dst (N := 3) rfl ?_); (try (refine gate_guard (by rfl) ?_; dsimp only)); refine box_event ?hg (N := 3) ?hd (cs := #[.string a0_0, .int .i64 a0_1, .int .i64 a0_2, .int .i64 a0_3, .int .i64 a0_4, .int .i64 a0_5, .slice A0_6 l0_6.length c0_6]) (t := 24) ?hr ?_; (case hd => rfl); (case hg => rfl); (case hr => first | (go_simp; done) | (go_simp; rfl)); intro gb149 hg w9 hbox hb; have n0_ := Aside0.mk (below_step (by repeat (first | (with_reducible first | exact HB.out | apply below_alloc | apply pw_below_drewN | apply below_drew1) | exact HB.out)) hb); have n1_ := Aside0.mk (hbox); have n2_ := Aside0.mk ((by rw [hg]; exact (below_size (by repeat (first | (with_reducible first | exact HB.out | apply below_alloc | apply pw_below_drewN | apply below_drew1) | exact HB.out))) : w.heap.size ≤ gb149)); have n3_ := Aside0.mk ((by rw [hg]; exact (below_size (by repeat (first | (with_reducible first | exact HB.out | apply below_alloc | apply pw_below_drewN | apply below_drew1) | exact HB.out))) : w.heap.size ≤ gb149)); clear HB; have HB := n0_; have BK149 := n1_; have GW149 := n2_; have GE149 := n3_; clear n0_ n1_ n2_ n3_; clear hb hbox hg) | ((with_reducible refine gate_callee (f := 13) rfl ?_); refine goesL_ (some 14) rfl rfl Try.func13 (by kernel_rfl) rfl #[] rfl (by (try simp only [List.map_toArray, List.map_cons, List.map_nil]); first | done | rfl | (simp only [List.length_drop, List.length_take]; rfl)) ?_; (with_reducible refine (pylonlaw10_awake.calls k  true _ A4.out).mono ?_); rintro e w10 ⟨rfl, hb⟩; refine ⟨_, rfl, ?_⟩; have n0_ := Aside0.mk (blk_below (g := gb149) (o := .cells #[.string a0_0, .int .i64 a0_1, .int .i64 a0_2, .int .i64 a0_3, .int .i64 a0_4, .int .i64 a0_5, .slice A0_6 l0_6.length c0_6] 24 (0, 0)) (by (with_reducible repeat (first | refine blk_drewN ?_ _ | refine blk_drew ?_ | refine blk_alloc ?_ _)); exact BK149.out) hb); have n1_ := Aside0.mk (below_step (by repeat (first | (with_reducible first | exact HB.out | apply below_alloc | apply pw_below_drewN | apply below_drew1 | refine below_set ?_ GE149.out) | exact HB.out)) hb); clear BK149; clear HB; have BK149 := n0_; have HB := n1_; clear n0_ n1_; (try clear hb); (try clear hb2); (try clear hk); (try clear hi); have hcz11_0 : w10.cell? ⟨gb149, 0, none⟩ = some (.string a0_0) := (blk_cell BK149.out 0).trans rfl; have hcz11_1 : w10.cell? ⟨gb149, 1, none⟩ = some (.int .i64 a0_1) := (blk_cell BK149.out 1).trans rfl; have hcz11_2 : w10.cell? ⟨gb149, 2, none⟩ = some (.int .i64 a0_2) := (blk_cell BK149.out 2).trans rfl; have hcz11_3 : w10.cell? ⟨gb149, 3, none⟩ = some (.int .i64 a0_3) := (blk_cell BK149.out 3).trans rfl; have hcz11_4 : w10.cell? ⟨gb149, 4, none⟩ = some (.int .i64 a0_4) := (blk_cell BK149.out 4).trans rfl; have hcz11_5 : w10.cell? ⟨gb149, 5, none⟩ = some (.int .i64 a0_5) := (blk_cell BK149.out 5).trans rfl; have hcz11_6 : w10.cell? ⟨gb149, 6, none⟩ = some (.slice A0_6 l0_6.length c0_6) := (blk_cell BK149.out 6).trans rfl; have hfz11_0 := blk_frozen BK149.out 0; have hfz11_1 := blk_frozen BK149.out 1; have hfz11_2 := blk_frozen BK149.out 2; have hfz11_3 := blk_frozen BK149.out 3; have hfz11_4 := blk_frozen BK149.out 4; have hfz11_5 := blk_frozen BK149.out 5; have hfz11_6 := blk_frozen BK149.out 6) | ((with_reducible refine gate_callee (f := 16) rfl ?_); refine goesL_ (some 18) rfl rfl Try.func16 (by kernel_rfl) rfl #[.agg #[.string a0_0, .int .i64 a0_1, .int .i64 a0_2, .int .i64 a0_3, .int .i64 a0_4, .int .i64 a0_5, .slice A0_6 l0_6.length c0_6]] rfl (by (try simp only [List.map_toArray, List.map_cons, List.map_nil]); first | done | rfl | (simp only [List.length_drop, List.length_take]; rfl)) ?_; (with_reducible refine (pylonlaw10_copyFile.calls a0_0 a0_1 a0_2 a0_3 a0_4 a0_5 _ _ l0_6 t151 t152 t153 t154 t155 t156 t157 _ ?side1 ?side2 A6.out).mono ?_); (case side1 => repeat (first | exact (Kd.C_below HR0_6.out HB.out) | (with_reducible refine Kd.C_alloc ?_ _) | (with_reducible refine Kd.C_drewN ?_ _) | (with_reducible refine Kd.C_drew ?_))); (case side2 => exact HC0_6.out); rintro e w12 ⟨v158, rfl, ho0, hb⟩; refine ⟨_, rfl, ?_⟩; have n0_ := Aside0.mk (Kd.R_lower ho0 (below_size (by repeat (first | (with_reducible first | exact HB.out | apply below_alloc | apply pw_below_drewN | apply below_drew1 | refine below_set ?_ GE149.out) | exact HB.out)))); have n1_ := Aside0.mk (blk_below (g := gb149) (o := .cells #[.string a0_0, .int .i64 a0_1, .int .i64 a0_2, .int .i64 a0_3, .int .i64 a0_4, .int .i64 a0_5, .slice A0_6 l0_6.length c0_6] 24 (0, 0)) (by (with_reducible repeat (first | refine blk_drewN ?_ _ | refine blk_drew ?_ | refine blk_alloc ?_ _)); exact BK149.out) hb); have n2_ := Aside0.mk (below_step (by repeat (first | (with_reducible first | exact HB.out | apply below_alloc | apply pw_below_drewN | apply below_drew1 | refine below_set ?_ GE149.out) | exact HB.out)) hb); clear BK149; clear HB; have HO159 := n0_; have BK149 := n1_; have HB := n2_; clear n0_ n1_ n2_; (try clear hb); (try clear hb2); (try clear hk); (try clear hi); (try clear ho0); obtain ⟨Ao13, co13, eo13⟩ := Kd.R_slice HO159.out; subst eo13) | ((with_reducible refine gate_callee (f := 15) rfl ?_); refine goesL_ (some 21) rfl rfl Try.func15 (by kernel_rfl) rfl #[.agg #[.string t151, .int .i64 t152, .int .i64 t153, .int .i64 t154, .int .i64 t155, .int .i64 t156, .slice Ao13 t157.length co13], .int .i64 a1, .int .i64 a2] rfl (by (try simp only [List.map_toArray, List.map_cons, List.map_nil]); first | done | rfl | (simp only [List.length_drop, List.length_take]; rfl)) ?_; (with_reducible refine (vee_Check.calls k t151 t152 t153 t154 t155 t156 _ _ t157 a1 a2 t160 t161 _ ?side1 ?side2 A7.out).mono ?_); (case side1 => repeat (first | exact (Kd.R_reads' HO159.out).2.2 | (with_reducible refine Kd.C_alloc ?_ _) | (with_reducible refine Kd.C_drewN ?_ _) | (with_reducible refine Kd.C_drew ?_))); (case side2 => exact (Kd.R_reads' HO159.out).2.1); rintro e w14 ⟨rfl, hb⟩; refine ⟨_, rfl, ?_⟩; have n0_ := Aside0.mk (Kd.R_below (by (with_reducible repeat (first | apply Kd.R_alloc | apply Kd.R_drewN | apply Kd.R_drew)); exact HO159.out) hb); have n1_ := Aside0.mk (blk_below (g := gb149) (o := .cells #[.string a0_0, .int .i64 a0_1, .int .i64 a0_2, .int .i64 a0_3, .int .i64 a0_4, .int .i64 a0_5, .slice A0_6 l0_6.length c0_6] 24 (0, 0)) (by (with_reducible repeat (first | refine blk_drewN ?_ _ | refine blk_drew ?_ | refine blk_alloc ?_ _)); exact BK149.out) hb); have n2_ := Aside0.mk (below_step (by repeat (first | (with_reducible first | exact HB.out | apply below_alloc | apply pw_below_drewN | apply below_drew1 | refine below_set ?_ GE149.out) | exact HB.out)) hb); clear HO159; clear BK149; clear HB; have HO159 := n0_; have BK149 := n1_; have HB := n2_; clear n0_ n1_ n2_; (try clear hb); (try clear hb2); (try clear hk); (try clear hi)))
      go_ret
      exact ⟨by first | rfl | (simp [errW_none, errW_some] <;> rfl) | (simp [*, errW_none, errW_some] <;> rfl), by repeat (first | (with_reducible first | exact HB.out | apply below_alloc | apply pw_below_drewN | apply below_drew1 | refine below_set ?_ GE149.out) | exact HB.out)⟩
    · rw [if_neg c8] at H
      have c8b0 : (t161 == 0) = false := beq_eq_false_iff_ne.mpr c8
      have c8b1 : (t161 != 0) = true := bne_iff_ne.mpr c8
      have HC15 := Aside0.mk H
      clear H
      go_enter Try.func4, Try.ntmps4
      go_upto_region 6 with (first | ((with_reducible refine gate_dst (N := 3) rfl ?_); (try (refine gate_guard (by rfl) ?_; dsimp only)); refine box_event ?hg (N := 3) ?hd (cs := #[.string a0_0, .int .i64 a0_1, .int .i64 a0_2, .int .i64 a0_3, .int .i64 a0_4, .int .i64 a0_5, .slice A0_6 l0_6.length c0_6]) (t := 24) ?hr ?_; (case hd => rfl); (case hg => rfl); (case hr => first | (go_simp; done) | (go_simp; rfl)); intro gb149 hg w16 hbox hb; have n0_ := Aside0.mk (below_step (by repeat (first | (with_reducible first | exact HB.out | apply below_alloc | apply pw_below_drewN | apply below_drew1) | exact HB.out)) hb); have n1_ := Aside0.mk (hbox); have n2_ := Aside0.mk ((by rw [hg]; exact (below_size (by repeat (first | (with_reducible first | exact HB.out | apply below_alloc | apply pw_below_drewN | apply below_drew1) | exact HB.out))) : w.heap.size ≤ gb149)); have n3_ := Aside0.mk ((by rw [hg]; exact (below_size (by repeat (first | (with_reducible first | exact HB.out | apply below_alloc | apply pw_below_drewN | apply below_drew1) | exact HB.out))) : w.heap.size ≤ gb149)); clear HB; have HB := n0_; have BK149 := n1_; have GW149 := n2_; have GE149 := n3_; clear n0_ n1_ n2_ n3_; clear hb hbox hg) | ((with_reducible refine gate_callee (f := 13) rfl ?_); refine goesL_ (some 14) rfl rfl Try.func13 (by kernel_rfl) rfl #[] rfl (by (try simp only [List.map_toArray, List.map_cons, List.map_nil]); first | done | rfl | (simp only [List.length_drop, List.length_take]; rfl)) ?_; (with_reducible refine (pylonlaw10_awake.calls k  true _ A4.out).mono ?_); rintro e w17 ⟨rfl, hb⟩; refine ⟨_, rfl, ?_⟩; have n0_ := Aside0.mk (blk_below (g := gb149) (o := .cells #[.string a0_0, .int .i64 a0_1, .int .i64 a0_2, .int .i64 a0_3, .int .i64 a0_4, .int .i64 a0_5, .slice A0_6 l0_6.length c0_6] 24 (0, 0)) (by (with_reducible repeat (first | refine blk_drewN ?_ _ | refine blk_drew ?_ | refine blk_alloc ?_ _)); exact BK149.out) hb); have n1_ := Aside0.mk (below_step (by repeat (first | (with_reducible first | exact HB.out | apply below_alloc | apply pw_below_drewN | apply below_drew1 | refine below_set ?_ GE149.out) | exact HB.out)) hb); clear BK149; clear HB; have BK149 := n0_; have HB := n1_; clear n0_ n1_; (try clear hb); (try clear hb2); (try clear hk); (try clear hi); have hcz18_0 : w17.cell? ⟨gb149, 0, none⟩ = some (.string a0_0) := (blk_cell BK149.out 0).trans rfl; have hcz18_1 : w17.cell? ⟨gb149, 1, none⟩ = some (.int .i64 a0_1) := (blk_cell BK149.out 1).trans rfl; have hcz18_2 : w17.cell? ⟨gb149, 2, none⟩ = some (.int .i64 a0_2) := (blk_cell BK149.out 2).trans rfl; have hcz18_3 : w17.cell? ⟨gb149, 3, none⟩ = some (.int .i64 a0_3) := (blk_cell BK149.out 3).trans rfl; have hcz18_4 : w17.cell? ⟨gb149, 4, none⟩ = some (.int .i64 a0_4) := (blk_cell BK149.out 4).trans rfl; have hcz18_5 : w17.cell? ⟨gb149, 5, none⟩ = some (.int .i64 a0_5) := (blk_cell BK149.out 5).trans rfl; have hcz18_6 : w17.cell? ⟨gb149, 6, none⟩ = some (.slice A0_6 l0_6.length c0_6) := (blk_cell BK149.out 6).trans rfl; have hfz18_0 := blk_frozen BK149.out 0; have hfz18_1 := blk_frozen BK149.out 1; have hfz18_2 := blk_frozen BK149.out 2; have hfz18_3 := blk_frozen BK149.out 3; have hfz18_4 := blk_frozen BK149.out 4; have hfz18_5 := blk_frozen BK149.out 5; have hfz18_6 := blk_frozen BK149.out 6) | ((with_reducible refine gate_callee (f := 16) rfl ?_); refine goesL_ (some 18) rfl rfl Try.func16 (by kernel_rfl) rfl #[.agg #[.string a0_0, .int .i64 a0_1, .int .i64 a0_2, .int .i64 a0_3, .int .i64 a0_4, .int .i64 a0_5, .slice A0_6 l0_6.length c0_6]] rfl (by (try simp only [List.map_toArray, List.map_cons, List.map_nil]); first | done | rfl | (simp only [List.length_drop, List.length_take]; rfl)) ?_; (with_reducible refine (pylonlaw10_copyFile.calls a0_0 a0_1 a0_2 a0_3 a0_4 a0_5 _ _ l0_6 t151 t152 t153 t154 t155 t156 t157 _ ?side1 ?side2 A6.out).mono ?_); (case side1 => repeat (first | exact (Kd.C_below HR0_6.out HB.out) | (with_reducible refine Kd.C_alloc ?_ _) | (with_reducible refine Kd.C_drewN ?_ _) | (with_reducible refine Kd.C_drew ?_))); (case side2 => exact HC0_6.out); rintro e w19 ⟨v158, rfl, ho0, hb⟩; refine ⟨_, rfl, ?_⟩; have n0_ := Aside0.mk (Kd.R_lower ho0 (below_size (by repeat (first | (with_reducible first | exact HB.out | apply below_alloc | apply pw_below_drewN | apply below_drew1 | refine below_set ?_ GE149.out) | exact HB.out)))); have n1_ := Aside0.mk (blk_below (g := gb149) (o := .cells #[.string a0_0, .int .i64 a0_1, .int .i64 a0_2, .int .i64 a0_3, .int .i64 a0_4, .int .i64 a0_5, .slice A0_6 l0_6.length c0_6] 24 (0, 0)) (by (with_reducible repeat (first | refine blk_drewN ?_ _ | refine blk_drew ?_ | refine blk_alloc ?_ _)); exact BK149.out) hb); have n2_ := Aside0.mk (below_step (by repeat (first | (with_reducible first | exact HB.out | apply below_alloc | apply pw_below_drewN | apply below_drew1 | refine below_set ?_ GE149.out) | exact HB.out)) hb); clear BK149; clear HB; have HO159 := n0_; have BK149 := n1_; have HB := n2_; clear n0_ n1_ n2_; (try clear hb); (try clear hb2); (try clear hk); (try clear hi); (try clear ho0); obtain ⟨Ao20, co20, eo20⟩ := Kd.R_slice HO159.out; subst eo20) | ((with_reducible refine gate_callee (f := 15) rfl ?_); refine goesL_ (some 21) rfl rfl Try.func15 (by kernel_rfl) rfl #[.agg #[.string t151, .int .i64 t152, .int .i64 t153, .int .i64 t154, .int .i64 t155, .int .i64 t156, .slice Ao20 t157.length co20], .int .i64 a1, .int .i64 a2] rfl (by (try simp only [List.map_toArray, List.map_cons, List.map_nil]); first | done | rfl | (simp only [List.length_drop, List.length_take]; rfl)) ?_; (with_reducible refine (vee_Check.calls k t151 t152 t153 t154 t155 t156 _ _ t157 a1 a2 t160 t161 _ ?side1 ?side2 A7.out).mono ?_); (case side1 => repeat (first | exact (Kd.R_reads' HO159.out).2.2 | (with_reducible refine Kd.C_alloc ?_ _) | (with_reducible refine Kd.C_drewN ?_ _) | (with_reducible refine Kd.C_drew ?_))); (case side2 => exact (Kd.R_reads' HO159.out).2.1); rintro e w21 ⟨rfl, hb⟩; refine ⟨_, rfl, ?_⟩; have n0_ := Aside0.mk (Kd.R_below (by (with_reducible repeat (first | apply Kd.R_alloc | apply Kd.R_drewN | apply Kd.R_drew)); exact HO159.out) hb); have n1_ := Aside0.mk (blk_below (g := gb149) (o := .cells #[.string a0_0, .int .i64 a0_1, .int .i64 a0_2, .int .i64 a0_3, .int .i64 a0_4, .int .i64 a0_5, .slice A0_6 l0_6.length c0_6] 24 (0, 0)) (by (with_reducible repeat (first | refine blk_drewN ?_ _ | refine blk_drew ?_ | refine blk_alloc ?_ _)); exact BK149.out) hb); have n2_ := Aside0.mk (below_step (by repeat (first | (with_reducible first | exact HB.out | apply below_alloc | apply pw_below_drewN | apply below_drew1 | refine below_set ?_ GE149.out) | exact HB.out)) hb); clear HO159; clear BK149; clear HB; have HO159 := n0_; have BK149 := n1_; have HB := n2_; clear n0_ n1_ n2_; (try clear hb); (try clear hb2); (try clear hk); (try clear hi)))
      (try simp only [Act.put, List.setIfInBounds_toArray, List.set_cons_zero, List.set_cons_succ])
      go_cut [40] (fun v40 wc => ∃ (kq : Nat) (x40_14 : Bool), v40 = .bool x40_14 ∧ Aside0 (pylonlaw10_VeeFirst.j0 kq a1 a2 t160 x40_14 a0_0 a0_1 a0_2 a0_3 a0_4 a0_5 l0_6 = some r) ∧ Aside0 (kq ≤ k) ∧ Aside0 (wc.heap[gb149]? = some (.cells #[.string a0_0, .int .i64 a0_1, .int .i64 a0_2, .int .i64 a0_3, .int .i64 a0_4, .int .i64 a0_5, (.slice A0_6 l0_6.length c0_6)] 24 (0, 0))) ∧ Aside0 (Below w.heap.size w wc))
      case first =>
        have H := HC15.out
        clear HC15
        by_cases c22 : t161 = 3
        · rw [if_pos c22] at H
          have c22b0 : (t161 == 3) = true := beq_iff_eq.mpr c22
          have c22b1 : (t161 != 3) = false := bne_eq_false_iff_eq.mpr c22
          clear c22
          (first | rw [c22b0] | (simp only [i64_w, i32_w]; rw [c22b0]) | skip)
          by_cases c23 : t160 < 0
          · rw [if_pos c23] at H
            have c23b0 : decide (t160 < 0) = true := decide_eq_true c23
            clear c23
            have H' := Aside0.mk H
            clear H
            go_wp2
            go_meet
            case rel => exact ⟨_, (true), (by first | rfl | (simp; done) | (simp [*]; done)), H', ⟨by first | omega | exact Nat.le_refl _⟩, ⟨by (with_reducible repeat (first | refine blk_drewN ?_ _ | refine blk_drew ?_ | refine blk_alloc ?_ _)); exact BK149.out⟩, ⟨by repeat (first | (with_reducible first | exact HB.out | apply below_alloc | apply pw_below_drewN | apply below_drew1 | refine below_set ?_ GE149.out) | exact HB.out)⟩⟩
          · rw [if_neg c23] at H
            have c23b0 : decide (t160 < 0) = false := decide_eq_false c23
            clear c23
            have H' := Aside0.mk H
            clear H
            have hcz24_0 : w21.cell? ⟨gb149, 0, none⟩ = some (.string a0_0) := (blk_cell BK149.out 0).trans rfl
            have hcz24_1 : w21.cell? ⟨gb149, 1, none⟩ = some (.int .i64 a0_1) := (blk_cell BK149.out 1).trans rfl
            have hcz24_2 : w21.cell? ⟨gb149, 2, none⟩ = some (.int .i64 a0_2) := (blk_cell BK149.out 2).trans rfl
            have hcz24_3 : w21.cell? ⟨gb149, 3, none⟩ = some (.int .i64 a0_3) := (blk_cell BK149.out 3).trans rfl
            have hcz24_4 : w21.cell? ⟨gb149, 4, none⟩ = some (.int .i64 a0_4) := (blk_cell BK149.out 4).trans rfl
            have hcz24_5 : w21.cell? ⟨gb149, 5, none⟩ = some (.int .i64 a0_5) := (blk_cell BK149.out 5).trans rfl
            have hcz24_6 : w21.cell? ⟨gb149, 6, none⟩ = some (.slice A0_6 l0_6.length c0_6) := (blk_cell BK149.out 6).trans rfl
            have hfz24_0 := blk_frozen BK149.out 0
            have hfz24_1 := blk_frozen BK149.out 1
            have hfz24_2 := blk_frozen BK149.out 2
            have hfz24_3 := blk_frozen BK149.out 3
            have hfz24_4 := blk_frozen BK149.out 4
            have hfz24_5 := blk_frozen BK149.out 5
            have hfz24_6 := blk_frozen BK149.out 6
            go_wp2
            go_meet
            case rel => exact ⟨_, (decide (t160 > (l0_6.length : Int))), (by first | rfl | (simp; done) | (simp [*]; done) | (by_cases hdp0_ : t160 > (l0_6.length : Int) <;> simp [*] <;> done)), H', ⟨by first | omega | exact Nat.le_refl _⟩, ⟨by (with_reducible repeat (first | refine blk_drewN ?_ _ | refine blk_drew ?_ | refine blk_alloc ?_ _)); exact BK149.out⟩, ⟨by repeat (first | (with_reducible first | exact HB.out | apply below_alloc | apply pw_below_drewN | apply below_drew1 | refine below_set ?_ GE149.out) | exact HB.out)⟩⟩
        · rw [if_neg c22] at H
          have c22b0 : (t161 == 3) = false := beq_eq_false_iff_ne.mpr c22
          have c22b1 : (t161 != 3) = true := bne_iff_ne.mpr c22
          (first | rw [c22b0] | (simp only [i64_w, i32_w]; rw [c22b0]) | skip)
          have H' := Aside0.mk H
          clear H
          go_wp2
          go_meet
          case rel => exact ⟨_, (true), (by first | rfl | (simp; done) | (simp [*]; done)), H', ⟨by first | omega | exact Nat.le_refl _⟩, ⟨by (with_reducible repeat (first | refine blk_drewN ?_ _ | refine blk_drew ?_ | refine blk_alloc ?_ _)); exact BK149.out⟩, ⟨by repeat (first | (with_reducible first | exact HB.out | apply below_alloc | apply pw_below_drewN | apply below_drew1 | refine below_set ?_ GE149.out) | exact HB.out)⟩⟩
      case rest =>
        clear HC15
        try clear c1
        try clear c2
        try clear p2
        try clear c4
        try clear c5
        try clear c8
        try clear c8b0
        try clear c8b1
        try clear c13
        try clear c15
        try clear c16
        try clear c22
        try clear c22b0
        try clear c22b1
        try clear c23
        try clear c23b0
        try clear hcz11_0
        try clear hcz11_1
        try clear hcz11_2
        try clear hcz11_3
        try clear hcz11_4
        try clear hcz11_5
        try clear hcz11_6
        try clear hcz18_0
        try clear hcz18_1
        try clear hcz18_2
        try clear hcz18_3
        try clear hcz18_4
        try clear hcz18_5
        try clear hcz18_6
        try clear hcz24_0
        try clear hcz24_1
        try clear hcz24_2
        try clear hcz24_3
        try clear hcz24_4
        try clear hcz24_5
        try clear hcz24_6
        try clear hfz11_0
        try clear hfz11_1
        try clear hfz11_2
        try clear hfz11_3
        try clear hfz11_4
        try clear hfz11_5
        try clear hfz11_6
        try clear hfz18_0
        try clear hfz18_1
        try clear hfz18_2
        try clear hfz18_3
        try clear hfz18_4
        try clear hfz18_5
        try clear hfz18_6
        try clear hfz24_0
        try clear hfz24_1
        try clear hfz24_2
        try clear hfz24_3
        try clear hfz24_4
        try clear hfz24_5
        try clear hfz24_6
        obtain ⟨kq, x40_14, rfl, HA, HJ14, BK149, HB⟩ := hcut
        cases kq with
        | zero => exact absurd HA.out (by simp [pylonlaw10_VeeFirst.j0])
        | succ kj14 =>
          have H := HA.out
          clear HA
          simp only [pylonlaw10_VeeFirst.j0] at H
          by_cases c25 : x40_14 = true
          · subst c25
            have H1 : (some false) = some r := by rw [if_pos rfl] at H; exact H
            clear H
            have H := H1
            clear H1
            obtain rfl := Option.some.inj H
            go_wp2
            go_ret
            exact ⟨by first | rfl | (simp [errW_none, errW_some] <;> rfl) | (simp [*, errW_none, errW_some] <;> rfl), by repeat (first | (with_reducible first | exact HB.out | apply below_alloc | apply pw_below_drewN | apply below_drew1 | refine below_set ?_ GE149.out) | exact HB.out)⟩
          · replace c25 := Bool.eq_false_iff.mpr c25
            subst c25
            have H1 : ((pylonlaw10_copyFile.f a0_0 a0_1 a0_2 a0_3 a0_4 a0_5 l0_6).bind fun bt162 => (if 0 ≤ t160 then (if t160 ≤ (bt162.2.2.2.2.2.2.length : Int) then ((vee_Check.f kj14 bt162.1 bt162.2.1 bt162.2.2.1 bt162.2.2.2.1 bt162.2.2.2.2.1 bt162.2.2.2.2.2.1 (bt162.2.2.2.2.2.2.take (t160 : Int).toNat) a1 a2).bind fun bt175 => (pylonlaw10_VeeFirst.l0 kj14 t160 bt175.1 bt175.2 false t160 0 a0_0 a0_1 a0_2 a0_3 a0_4 a0_5 l0_6)) else (none)) else (none))) = some r := by rw [if_neg (show ¬ (false = true) by decide)] at H; exact H
            clear H
            have H := H1
            clear H1
            replace H := Option.bind_eq_some_iff.mp H
            obtain ⟨⟨t162, t163, t164, t165, t166, t167, t168⟩, A260, H⟩ := H
            replace H : (if 0 ≤ t160 then (if t160 ≤ (t168.length : Int) then ((vee_Check.f kj14 t162 t163 t164 t165 t166 t167 (t168.take (t160 : Int).toNat) a1 a2).bind fun bt175 => (pylonlaw10_VeeFirst.l0 kj14 t160 bt175.1 bt175.2 false t160 0 a0_0 a0_1 a0_2 a0_3 a0_4 a0_5 l0_6)) else (none)) else (none)) = some r := H
            have A26 := Aside0.mk A260
            clear A260
            by_cases c27 : 0 ≤ t160
            · rw [if_pos c27] at H
              have c27b0 := eq_true c27
              have c27b1 : decide (0 ≤ t160) = true := decide_eq_true c27
              clear c27
              by_cases c28 : t160 ≤ (t168.length : Int)
              · rw [if_pos c28] at H
                have c28b0 := eq_true c28
                have c28b1 : decide (t160 ≤ (t168.length : Int)) = true := decide_eq_true c28
                clear c28
                obtain ⟨y172, hy172⟩ : ∃ y_ : List (S32), y_ = (t168.take (t160 : Int).toNat) := ⟨_, rfl⟩
                replace H : ((vee_Check.f kj14 t162 t163 t164 t165 t166 t167 y172 a1 a2).bind fun bt175 => (pylonlaw10_VeeFirst.l0 kj14 t160 bt175.1 bt175.2 false t160 0 a0_0 a0_1 a0_2 a0_3 a0_4 a0_5 l0_6)) = some r := by first | (rw [hy172]; with_reducible exact H) | (have H2_ := (Option.bind_some _ _).symm.trans H; rw [hy172]; with_reducible exact H2_) | (have H2_ := (Option.bind_some _ _).symm.trans H; with_reducible exact H2_) | with_reducible exact H | (rw [hy172]; exact H) | exact H
                have Ny172 := Aside0.mk hy172
                clear hy172
                replace H := Option.bind_eq_some_iff.mp H
                obtain ⟨⟨t175, t176⟩, A290, H⟩ := H
                replace H : (pylonlaw10_VeeFirst.l0 kj14 t160 t175 t176 false t160 0 a0_0 a0_1 a0_2 a0_3 a0_4 a0_5 l0_6) = some r := H
                have A29 := Aside0.mk A290
                clear A290
                have H' := Aside0.mk H
                clear H
                have hcz30_0 : wc.cell? ⟨gb149, 0, none⟩ = some (.string a0_0) := (blk_cell BK149.out 0).trans rfl
                have hcz30_1 : wc.cell? ⟨gb149, 1, none⟩ = some (.int .i64 a0_1) := (blk_cell BK149.out 1).trans rfl
                have hcz30_2 : wc.cell? ⟨gb149, 2, none⟩ = some (.int .i64 a0_2) := (blk_cell BK149.out 2).trans rfl
                have hcz30_3 : wc.cell? ⟨gb149, 3, none⟩ = some (.int .i64 a0_3) := (blk_cell BK149.out 3).trans rfl
                have hcz30_4 : wc.cell? ⟨gb149, 4, none⟩ = some (.int .i64 a0_4) := (blk_cell BK149.out 4).trans rfl
                have hcz30_5 : wc.cell? ⟨gb149, 5, none⟩ = some (.int .i64 a0_5) := (blk_cell BK149.out 5).trans rfl
                have hcz30_6 : wc.cell? ⟨gb149, 6, none⟩ = some (.slice A0_6 l0_6.length c0_6) := (blk_cell BK149.out 6).trans rfl
                have hfz30_0 := blk_frozen BK149.out 0
                have hfz30_1 := blk_frozen BK149.out 1
                have hfz30_2 := blk_frozen BK149.out 2
                have hfz30_3 := blk_frozen BK149.out 3
                have hfz30_4 := blk_frozen BK149.out 4
                have hfz30_5 := blk_frozen BK149.out 5
                have hfz30_6 := blk_frozen BK149.out 6
                go_wp2_with (first | ((with_reducible refine gate_callee (f := 16) rfl ?_); refine goesL_ (some 42) rfl rfl Try.func16 (by kernel_rfl) rfl #[.agg #[.string a0_0, .int .i64 a0_1, .int .i64 a0_2, .int .i64 a0_3, .int .i64 a0_4, .int .i64 a0_5, .slice A0_6 l0_6.length c0_6]] rfl (by (try simp only [List.map_toArray, List.map_cons, List.map_nil]); first | done | rfl | (simp only [List.length_drop, List.length_take]; rfl)) ?_; (with_reducible refine (pylonlaw10_copyFile.calls a0_0 a0_1 a0_2 a0_3 a0_4 a0_5 _ _ l0_6 t162 t163 t164 t165 t166 t167 t168 _ ?side1 ?side2 A26.out).mono ?_); (case side1 => repeat (first | exact (Kd.C_below HR0_6.out HB.out) | (with_reducible refine Kd.C_alloc ?_ _) | (with_reducible refine Kd.C_drewN ?_ _) | (with_reducible refine Kd.C_drew ?_))); (case side2 => exact HC0_6.out); rintro e w31 ⟨v169, rfl, ho0, hb⟩; refine ⟨_, rfl, ?_⟩; have n0_ := Aside0.mk (Kd.R_lower ho0 (below_size (by repeat (first | (with_reducible first | exact HB.out | apply below_alloc | apply pw_below_drewN | apply below_drew1 | refine below_set ?_ GE149.out) | exact HB.out)))); have n1_ := Aside0.mk (blk_below (g := gb149) (o := .cells #[.string a0_0, .int .i64 a0_1, .int .i64 a0_2, .int .i64 a0_3, .int .i64 a0_4, .int .i64 a0_5, .slice A0_6 l0_6.length c0_6] 24 (0, 0)) (by (with_reducible repeat (first | refine blk_drewN ?_ _ | refine blk_drew ?_ | refine blk_alloc ?_ _)); exact BK149.out) hb); have n2_ := Aside0.mk (below_step (by repeat (first | (with_reducible first | exact HB.out | apply below_alloc | apply pw_below_drewN | apply below_drew1 | refine below_set ?_ GE149.out) | exact HB.out)) hb); clear BK149; clear HB; have HO170 := n0_; have BK149 := n1_; have HB := n2_; clear n0_ n1_ n2_; (try clear hb); (try clear hb2); (try clear hk); (try clear hi); (try clear ho0)) | ((with_reducible refine gate_dst (N := 9) rfl ?_); (try (refine gate_guard (by rfl) ?_; dsimp only)); refine box_event ?hg (N := 9) ?hd (cs := #[.string (⟨#[]⟩ : ByteArray), .int .i64 0, .int .i64 0, .int .i64 0, .int .i64 0, .int .i64 0, .slice none 0 0]) (t := 24) ?hr ?_; (case hd => rfl); (case hg => rfl); (case hr => first | (go_simp; done) | (go_simp; rfl)); intro gb171 hg w32 hbox hb; have n0_ := Aside0.mk (Kd.R_below (by (with_reducible repeat (first | apply Kd.R_alloc | apply Kd.R_drewN | apply Kd.R_drew)); exact HO170.out) hb); have n1_ := Aside0.mk (blk_below (g := gb149) (o := .cells #[.string a0_0, .int .i64 a0_1, .int .i64 a0_2, .int .i64 a0_3, .int .i64 a0_4, .int .i64 a0_5, .slice A0_6 l0_6.length c0_6] 24 (0, 0)) (by (with_reducible repeat (first | refine blk_drewN ?_ _ | refine blk_drew ?_ | refine blk_alloc ?_ _)); exact BK149.out) hb); have n2_ := Aside0.mk (below_step (by repeat (first | (with_reducible first | exact HB.out | apply below_alloc | apply pw_below_drewN | apply below_drew1 | refine below_set ?_ GE149.out) | exact HB.out)) hb); have n3_ := Aside0.mk (hbox); have n4_ := Aside0.mk ((by rw [hg]; exact (below_size (by repeat (first | (with_reducible first | exact HB.out | apply below_alloc | apply pw_below_drewN | apply below_drew1 | refine below_set ?_ GE149.out) | exact HB.out))) : w.heap.size ≤ gb171)); have n5_ := Aside0.mk ((by rw [hg]; exact (below_size (by repeat (first | (with_reducible first | exact HB.out | apply below_alloc | apply pw_below_drewN | apply below_drew1 | refine below_set ?_ GE149.out) | exact HB.out))) : w.heap.size ≤ gb171)); have n6_ := Aside0.mk ((by rw [hg]; exact Nat.ne_of_lt (blk_lt (g := gb149) (o := .cells #[.string a0_0, .int .i64 a0_1, .int .i64 a0_2, .int .i64 a0_3, .int .i64 a0_4, .int .i64 a0_5, .slice A0_6 l0_6.length c0_6] 24 (0, 0)) (by (with_reducible repeat (first | refine blk_drewN ?_ _ | refine blk_drew ?_ | refine blk_alloc ?_ _)); exact BK149.out)) : gb149 ≠ gb171)); have n7_ := Aside0.mk ((by rw [hg]; exact Nat.ne_of_gt (blk_lt (g := gb149) (o := .cells #[.string a0_0, .int .i64 a0_1, .int .i64 a0_2, .int .i64 a0_3, .int .i64 a0_4, .int .i64 a0_5, .slice A0_6 l0_6.length c0_6] 24 (0, 0)) (by (with_reducible repeat (first | refine blk_drewN ?_ _ | refine blk_drew ?_ | refine blk_alloc ?_ _)); exact BK149.out)) : gb171 ≠ gb149)); clear HO170; clear BK149; clear HB; have HO170 := n0_; have BK149 := n1_; have HB := n2_; have BK171 := n3_; have GW171 := n4_; have GE171 := n5_; have NB149_171 := n6_; have NB171_149 := n7_; clear n0_ n1_ n2_ n3_ n4_ n5_ n6_ n7_; clear hb hbox hg; have hnb33 := NB171_149.out; have hnc33 := NB149_171.out; have hcz34_0 : w32.cell? ⟨gb171, 0, none⟩ = some (.string (⟨#[]⟩ : ByteArray)) := (blk_cell BK171.out 0).trans rfl; have hcz34_1 : w32.cell? ⟨gb171, 1, none⟩ = some (.int .i64 0) := (blk_cell BK171.out 1).trans rfl; have hcz34_2 : w32.cell? ⟨gb171, 2, none⟩ = some (.int .i64 0) := (blk_cell BK171.out 2).trans rfl; have hcz34_3 : w32.cell? ⟨gb171, 3, none⟩ = some (.int .i64 0) := (blk_cell BK171.out 3).trans rfl; have hcz34_4 : w32.cell? ⟨gb171, 4, none⟩ = some (.int .i64 0) := (blk_cell BK171.out 4).trans rfl; have hcz34_5 : w32.cell? ⟨gb171, 5, none⟩ = some (.int .i64 0) := (blk_cell BK171.out 5).trans rfl; have hcz34_6 : w32.cell? ⟨gb171, 6, none⟩ = some (.slice none 0 0) := (blk_cell BK171.out 6).trans rfl; have hfz34_0 := blk_frozen BK171.out 0; have hfz34_1 := blk_frozen BK171.out 1; have hfz34_2 := blk_frozen BK171.out 2; have hfz34_3 := blk_frozen BK171.out 3; have hfz34_4 := blk_frozen BK171.out 4; have hfz34_5 := blk_frozen BK171.out 5; have hfz34_6 := blk_frozen BK171.out 6; obtain ⟨Ao35, co35, eo35⟩ := Kd.R_slice HO170.out; subst eo35) | ((with_reducible refine gate_store (t := 24) (p := 9) rfl ?_); refine store_event (t := 24) (p := 9) (v := ?vo_w36) (w1 := (((((((w32.setCell ⟨gb171, 0, none⟩ (.string t162)).setCell ⟨gb171, 1, none⟩ (.int .i64 t163)).setCell ⟨gb171, 2, none⟩ (.int .i64 t164)).setCell ⟨gb171, 3, none⟩ (.int .i64 t165)).setCell ⟨gb171, 4, none⟩ (.int .i64 t166)).setCell ⟨gb171, 5, none⟩ (.int .i64 t167)).setCell ⟨gb171, 6, none⟩ (.slice Ao35 t168.length co35))) ?hg ?ho ?hn ?hr ?_; (case ho => rfl); (case hg => rfl); (case hn => rfl); (case hr => first | (go_simp; done) | (go_simp; rfl)); intro w36 hw; have n0_ : Aside0 (Kd.R k32 32 w36 w.heap.size (fun _ => True) (.slice Ao35 t168.length co35) t168) := ⟨(by rw [hw]; exact (by (with_reducible repeat (first | apply Kd.R_alloc | apply Kd.R_drewN | apply Kd.R_drew)); exact Kd.R_mono (Kd.R_far (p := ⟨gb171, 6, none⟩) (Kd.R_far (p := ⟨gb171, 5, none⟩) (Kd.R_far (p := ⟨gb171, 4, none⟩) (Kd.R_far (p := ⟨gb171, 3, none⟩) (Kd.R_far (p := ⟨gb171, 2, none⟩) (Kd.R_far (p := ⟨gb171, 1, none⟩) (Kd.R_far (p := ⟨gb171, 0, none⟩) (Kd.R_types HO170.out BK171.out (by decide)) (fun _ hk => hk.2) (.string t162)) (fun _ hk => hk.2) (.int .i64 t163)) (fun _ hk => hk.2) (.int .i64 t164)) (fun _ hk => hk.2) (.int .i64 t165)) (fun _ hk => hk.2) (.int .i64 t166)) (fun _ hk => hk.2) (.int .i64 t167)) (fun _ hk => hk.2) (.slice Ao35 t168.length co35)) (fun _ hk => trivial)))⟩; have n1_ : Aside0 (w36.heap[gb149]? = some (.cells #[.string a0_0, .int .i64 a0_1, .int .i64 a0_2, .int .i64 a0_3, .int .i64 a0_4, .int .i64 a0_5, .slice A0_6 l0_6.length c0_6] 24 (0, 0))) := ⟨(by rw [hw]; exact (by (with_reducible repeat (first | refine blk_drewN ?_ _ | refine blk_drew ?_ | refine blk_alloc ?_ _)); refine blk_far ?_ NB149_171.out _; (with_reducible repeat (first | refine blk_drewN ?_ _ | refine blk_drew ?_ | refine blk_alloc ?_ _)); refine blk_far ?_ NB149_171.out _; (with_reducible repeat (first | refine blk_drewN ?_ _ | refine blk_drew ?_ | refine blk_alloc ?_ _)); refine blk_far ?_ NB149_171.out _; (with_reducible repeat (first | refine blk_drewN ?_ _ | refine blk_drew ?_ | refine blk_alloc ?_ _)); refine blk_far ?_ NB149_171.out _; (with_reducible repeat (first | refine blk_drewN ?_ _ | refine blk_drew ?_ | refine blk_alloc ?_ _)); refine blk_far ?_ NB149_171.out _; (with_reducible repeat (first | refine blk_drewN ?_ _ | refine blk_drew ?_ | refine blk_alloc ?_ _)); refine blk_far ?_ NB149_171.out _; (with_reducible repeat (first | refine blk_drewN ?_ _ | refine blk_drew ?_ | refine blk_alloc ?_ _)); refine blk_far ?_ NB149_171.out _; (with_reducible repeat (first | refine blk_drewN ?_ _ | refine blk_drew ?_ | refine blk_alloc ?_ _)); exact BK149.out))⟩; have n2_ : Aside0 (w36.heap[gb171]? = some (.cells #[.string t162, .int .i64 t163, .int .i64 t164, .int .i64 t165, .int .i64 t166, .int .i64 t167, .slice Ao35 t168.length co35] 24 (0, 0))) := ⟨(by rw [hw]; exact (by (with_reducible repeat (first | refine blk_drewN ?_ _ | refine blk_drew ?_ | refine blk_alloc ?_ _)); refine blk_put (cs := #[.string t162, .int .i64 t163, .int .i64 t164, .int .i64 t165, .int .i64 t166, .int .i64 t167, .slice none 0 0]) ?_ 6 _ rfl; (with_reducible repeat (first | refine blk_drewN ?_ _ | refine blk_drew ?_ | refine blk_alloc ?_ _)); refine blk_put (cs := #[.string t162, .int .i64 t163, .int .i64 t164, .int .i64 t165, .int .i64 t166, .int .i64 0, .slice none 0 0]) ?_ 5 _ rfl; (with_reducible repeat (first | refine blk_drewN ?_ _ | refine blk_drew ?_ | refine blk_alloc ?_ _)); refine blk_put (cs := #[.string t162, .int .i64 t163, .int .i64 t164, .int .i64 t165, .int .i64 0, .int .i64 0, .slice none 0 0]) ?_ 4 _ rfl; (with_reducible repeat (first | refine blk_drewN ?_ _ | refine blk_drew ?_ | refine blk_alloc ?_ _)); refine blk_put (cs := #[.string t162, .int .i64 t163, .int .i64 t164, .int .i64 0, .int .i64 0, .int .i64 0, .slice none 0 0]) ?_ 3 _ rfl; (with_reducible repeat (first | refine blk_drewN ?_ _ | refine blk_drew ?_ | refine blk_alloc ?_ _)); refine blk_put (cs := #[.string t162, .int .i64 t163, .int .i64 0, .int .i64 0, .int .i64 0, .int .i64 0, .slice none 0 0]) ?_ 2 _ rfl; (with_reducible repeat (first | refine blk_drewN ?_ _ | refine blk_drew ?_ | refine blk_alloc ?_ _)); refine blk_put (cs := #[.string t162, .int .i64 0, .int .i64 0, .int .i64 0, .int .i64 0, .int .i64 0, .slice none 0 0]) ?_ 1 _ rfl; (with_reducible repeat (first | refine blk_drewN ?_ _ | refine blk_drew ?_ | refine blk_alloc ?_ _)); refine blk_put (cs := #[.string (⟨#[]⟩ : ByteArray), .int .i64 0, .int .i64 0, .int .i64 0, .int .i64 0, .int .i64 0, .slice none 0 0]) ?_ 0 _ rfl; (with_reducible repeat (first | refine blk_drewN ?_ _ | refine blk_drew ?_ | refine blk_alloc ?_ _)); exact BK171.out))⟩; have n3_ : Aside0 (Below w.heap.size w w36) := ⟨(by rw [hw]; exact (by repeat (first | (with_reducible first | exact HB.out | apply below_alloc | apply pw_below_drewN | apply below_drew1 | refine below_set ?_ GE149.out | refine below_set ?_ GE171.out) | exact HB.out)))⟩; clear hw; clear HO170; clear BK149; clear BK171; clear HB; have HO170 := n0_; have BK149 := n1_; have BK171 := n2_; have HB := n3_; clear n0_ n1_ n2_ n3_; have hcz37_0 : w36.cell? ⟨gb171, 0, none⟩ = some (.string t162) := (blk_cell BK171.out 0).trans rfl; have hcz37_1 : w36.cell? ⟨gb171, 1, none⟩ = some (.int .i64 t163) := (blk_cell BK171.out 1).trans rfl; have hcz37_2 : w36.cell? ⟨gb171, 2, none⟩ = some (.int .i64 t164) := (blk_cell BK171.out 2).trans rfl; have hcz37_3 : w36.cell? ⟨gb171, 3, none⟩ = some (.int .i64 t165) := (blk_cell BK171.out 3).trans rfl; have hcz37_4 : w36.cell? ⟨gb171, 4, none⟩ = some (.int .i64 t166) := (blk_cell BK171.out 4).trans rfl; have hcz37_5 : w36.cell? ⟨gb171, 5, none⟩ = some (.int .i64 t167) := (blk_cell BK171.out 5).trans rfl; have hcz37_6 : w36.cell? ⟨gb171, 6, none⟩ = some (.slice Ao35 t168.length co35) := (blk_cell BK171.out 6).trans rfl; have hfz37_0 := blk_frozen BK171.out 0; have hfz37_1 := blk_frozen BK171.out 1; have hfz37_2 := blk_frozen BK171.out 2; have hfz37_3 := blk_frozen BK171.out 3; have hfz37_4 := blk_frozen BK171.out 4; have hfz37_5 := blk_frozen BK171.out 5; have hfz37_6 := blk_frozen BK171.out 6; have q38 : (t160 : Int) ≤ ((t168.length : Int) : Int) := of_decide_eq_true (by first | (with_reducible assumption) | assumption); obtain ⟨i038, hi038, _, hsz38, _⟩ := info_parts info32; have hcut38 := cut_to (P := Try.prog) 22 32 .i64 Try.underlying22 hi038 Ao35 t168.length co35 t160 (of_decide_eq_true (by first | (with_reducible assumption) | assumption)) q38 (Kd.R_reads' HO170.out).2.1; have hr38 := Kd.R_take (m := (t160 : Int).toNat) HO170.out (by omega); have hy38 : y172.length = (t160 : Int).toNat := (by rw [Ny172.out, List.length_take]; omega); rw [← Ny172.out] at hr38; rw [← hy38] at hr38 hcut38; clear hy38 hi038 hsz38 HO170; have HO174 := Aside0.mk hr38; clear hr38; replace q38 := eq_true q38) | ((with_reducible refine gate_callee (f := 15) rfl ?_); refine goesL_ (some 52) rfl rfl Try.func15 (by kernel_rfl) rfl #[.agg #[.string t162, .int .i64 t163, .int .i64 t164, .int .i64 t165, .int .i64 t166, .int .i64 t167, .slice Ao35 y172.length co35], .int .i64 a1, .int .i64 a2] rfl (by (try simp only [List.map_toArray, List.map_cons, List.map_nil]); first | done | rfl | (simp only [List.length_drop, List.length_take]; rfl)) ?_; (with_reducible refine (vee_Check.calls kj14 t162 t163 t164 t165 t166 t167 _ _ y172 a1 a2 t175 t176 _ ?side1 ?side2 A29.out).mono ?_); (case side1 => refine (Kd.R_reads' (e := 32) (base := w.heap.size) (ok := fun k_ => True) (n := y172.length) (c := co35) ?_).2.2; exact (by (with_reducible repeat (first | apply Kd.R_alloc | apply Kd.R_drewN | apply Kd.R_drew)); exact (Kd.R_mono (Kd.R_far (p := ⟨gb171, 6, none⟩) (Kd.R_types HO174.out BK171.out (by decide)) (fun _ hk => hk.2) (.slice Ao35 y172.length co35)) (fun _ h_ => h_.1)))); (case side2 => exact (Kd.R_reads' HO174.out).2.1); rintro e w39 ⟨rfl, hb⟩; refine ⟨_, rfl, ?_⟩; have n0_ := Aside0.mk (Kd.R_below (by (with_reducible repeat (first | apply Kd.R_alloc | apply Kd.R_drewN | apply Kd.R_drew)); exact (Kd.R_mono (Kd.R_far (p := ⟨gb171, 6, none⟩) (Kd.R_types HO174.out BK171.out (by decide)) (fun _ hk => hk.2) (.slice Ao35 y172.length co35)) (fun _ h_ => h_.1))) hb); have n1_ := Aside0.mk (blk_below (g := gb149) (o := .cells #[.string a0_0, .int .i64 a0_1, .int .i64 a0_2, .int .i64 a0_3, .int .i64 a0_4, .int .i64 a0_5, .slice A0_6 l0_6.length c0_6] 24 (0, 0)) (by (with_reducible repeat (first | refine blk_drewN ?_ _ | refine blk_drew ?_ | refine blk_alloc ?_ _)); refine blk_far ?_ NB149_171.out _; (with_reducible repeat (first | refine blk_drewN ?_ _ | refine blk_drew ?_ | refine blk_alloc ?_ _)); exact BK149.out) hb); have n2_ := Aside0.mk (blk_below (g := gb171) (o := .cells #[.string t162, .int .i64 t163, .int .i64 t164, .int .i64 t165, .int .i64 t166, .int .i64 t167, .slice Ao35 y172.length co35] 24 (0, 0)) (by (with_reducible repeat (first | refine blk_drewN ?_ _ | refine blk_drew ?_ | refine blk_alloc ?_ _)); refine blk_put (cs := #[.string t162, .int .i64 t163, .int .i64 t164, .int .i64 t165, .int .i64 t166, .int .i64 t167, .slice Ao35 t168.length co35]) ?_ 6 _ rfl; (with_reducible repeat (first | refine blk_drewN ?_ _ | refine blk_drew ?_ | refine blk_alloc ?_ _)); exact BK171.out) hb); have n3_ := Aside0.mk (below_step (by repeat (first | (with_reducible first | exact HB.out | apply below_alloc | apply pw_below_drewN | apply below_drew1 | refine below_set ?_ GE149.out | refine below_set ?_ GE171.out) | exact HB.out)) hb); clear HO174; clear BK149; clear BK171; clear HB; have HO174 := n0_; have BK149 := n1_; have BK171 := n2_; have HB := n3_; clear n0_ n1_ n2_ n3_; (try clear hb); (try clear hb2); (try clear hk); (try clear hi)))
                go_loopg [12, 56] kj14 (fun kq v12 v56 w' => ∃ (x12_2 : Bool) (x56_2 : Int), v12 = .bool x12_2 ∧ v56 = .int .i64 x56_2 ∧ Aside0 (pylonlaw10_VeeFirst.l0 kq t160 t175 t176 x12_2 t160 x56_2 a0_0 a0_1 a0_2 a0_3 a0_4 a0_5 l0_6 = some r) ∧ Aside0 (kq ≤ kj14) ∧ Aside0 (Kd.R k32 32 w' w.heap.size (fun _ => True) (.slice Ao35 y172.length co35) y172) ∧ Aside0 (w'.heap[gb149]? = some (.cells #[.string a0_0, .int .i64 a0_1, .int .i64 a0_2, .int .i64 a0_3, .int .i64 a0_4, .int .i64 a0_5, (.slice A0_6 l0_6.length c0_6)] 24 (0, 0))) ∧ Aside0 (w'.heap[gb171]? = some (.cells #[.string t162, .int .i64 t163, .int .i64 t164, .int .i64 t165, .int .i64 t166, .int .i64 t167, (.slice Ao35 y172.length co35)] 24 (0, 0))) ∧ Aside0 (Below w.heap.size w w'))
                case atStart => exact ⟨(false), (0), (by first | rfl | (simp; done) | (simp [*]; done)), (by first | rfl | (simp; done) | (simp [*]; done)), H', ⟨Nat.le_refl _⟩, ⟨by (with_reducible repeat (first | apply Kd.R_alloc | apply Kd.R_drewN | apply Kd.R_drew)); exact HO174.out⟩, ⟨by (with_reducible repeat (first | refine blk_drewN ?_ _ | refine blk_drew ?_ | refine blk_alloc ?_ _)); exact BK149.out⟩, ⟨by (with_reducible repeat (first | refine blk_drewN ?_ _ | refine blk_drew ?_ | refine blk_alloc ?_ _)); exact BK171.out⟩, ⟨by repeat (first | (with_reducible first | exact HB.out | apply below_alloc | apply pw_below_drewN | apply below_drew1 | refine below_set ?_ GE149.out | refine below_set ?_ GE171.out) | exact HB.out)⟩⟩
                case round =>
                  clear H'
                  try clear c1
                  try clear c2
                  try clear p2
                  try clear c3
                  try clear q3
                  try clear c4
                  try clear c5
                  try clear c8
                  try clear c8b0
                  try clear c8b1
                  try clear c13
                  try clear c15
                  try clear c16
                  try clear c22
                  try clear c22b0
                  try clear c22b1
                  try clear c23
                  try clear c23b0
                  try clear c25
                  try clear c27
                  try clear c27b0
                  try clear c27b1
                  try clear c28
                  try clear c28b0
                  try clear c28b1
                  try clear c33
                  try clear q38
                  try clear hcz11_0
                  try clear hcz11_1
                  try clear hcz11_2
                  try clear hcz11_3
                  try clear hcz11_4
                  try clear hcz11_5
                  try clear hcz11_6
                  try clear hcz18_0
                  try clear hcz18_1
                  try clear hcz18_2
                  try clear hcz18_3
                  try clear hcz18_4
                  try clear hcz18_5
                  try clear hcz18_6
                  try clear hcz24_0
                  try clear hcz24_1
                  try clear hcz24_2
                  try clear hcz24_3
                  try clear hcz24_4
                  try clear hcz24_5
                  try clear hcz24_6
                  try clear hcz30_0
                  try clear hcz30_1
                  try clear hcz30_2
                  try clear hcz30_3
                  try clear hcz30_4
                  try clear hcz30_5
                  try clear hcz30_6
                  try clear hcz34_0
                  try clear hcz34_1
                  try clear hcz34_2
                  try clear hcz34_3
                  try clear hcz34_4
                  try clear hcz34_5
                  try clear hcz34_6
                  try clear hcz37_0
                  try clear hcz37_1
                  try clear hcz37_2
                  try clear hcz37_3
                  try clear hcz37_4
                  try clear hcz37_5
                  try clear hcz37_6
                  try clear hfz11_0
                  try clear hfz11_1
                  try clear hfz11_2
                  try clear hfz11_3
                  try clear hfz11_4
                  try clear hfz11_5
                  try clear hfz11_6
                  try clear hfz18_0
                  try clear hfz18_1
                  try clear hfz18_2
                  try clear hfz18_3
                  try clear hfz18_4
                  try clear hfz18_5
                  try clear hfz18_6
                  try clear hfz24_0
                  try clear hfz24_1
                  try clear hfz24_2
                  try clear hfz24_3
                  try clear hfz24_4
                  try clear hfz24_5
                  try clear hfz24_6
                  try clear hfz30_0
                  try clear hfz30_1
                  try clear hfz30_2
                  try clear hfz30_3
                  try clear hfz30_4
                  try clear hfz30_5
                  try clear hfz30_6
                  try clear hfz34_0
                  try clear hfz34_1
                  try clear hfz34_2
                  try clear hfz34_3
                  try clear hfz34_4
                  try clear hfz34_5
                  try clear hfz34_6
                  try clear hfz37_0
                  try clear hfz37_1
                  try clear hfz37_2
                  try clear hfz37_3
                  try clear hfz37_4
                  try clear hfz37_5
                  try clear hfz37_6
                  try clear p2
                  try clear q38
                  obtain ⟨x12_2, x56_2, rfl, rfl, HA, HK2, HO_172006, BK149, BK171, HB⟩ := hrel
                  cases gk with
                  | zero => exact absurd HA.out (by simp [pylonlaw10_VeeFirst.l0])
                  | succ k2 =>
                    have H := HA.out
                    clear HA
                    simp only [pylonlaw10_VeeFirst.l0] at H
                    by_cases c40 : x56_2 < t160
                    · rw [if_pos c40] at H
                      have c40b0 : decide (x56_2 < t160) = true := decide_eq_true c40
                      clear c40
                      by_cases c41 : x12_2 = true
                      · subst c41
                        have H1 : (pylonlaw10_VeeFirst.l0 k2 t160 t175 t176 true t160 (wrap64 (x56_2 + 1)) a0_0 a0_1 a0_2 a0_3 a0_4 a0_5 l0_6) = some r := by rw [if_pos rfl] at H; exact H
                        clear H
                        have H := H1
                        clear H1
                        have H' := Aside0.mk H
                        clear H
                        go_wp2
                        go_roundg k2
                        case measure => have := HJ14.out; have := HK2.out; omega
                        case rel => exact ⟨(true), (wrap64 (x56_2 + 1)), (by first | rfl | (simp; done) | (simp [*]; done)), (by first | rfl | (simp; done) | (simp [*]; done)), H', ⟨by have := HJ14.out; have := HK2.out; omega⟩, ⟨by (with_reducible repeat (first | apply Kd.R_alloc | apply Kd.R_drewN | apply Kd.R_drew)); exact HO_172006.out⟩, ⟨by (with_reducible repeat (first | refine blk_drewN ?_ _ | refine blk_drew ?_ | refine blk_alloc ?_ _)); exact BK149.out⟩, ⟨by (with_reducible repeat (first | refine blk_drewN ?_ _ | refine blk_drew ?_ | refine blk_alloc ?_ _)); exact BK171.out⟩, ⟨by repeat (first | (with_reducible first | exact HB.out | apply below_alloc | apply pw_below_drewN | apply below_drew1 | refine below_set ?_ GE149.out | refine below_set ?_ GE171.out) | exact HB.out)⟩⟩
                      · replace c41 := Bool.eq_false_iff.mpr c41
                        subst c41
                        have H1 : (if 0 ≤ x56_2 then (if x56_2 < (l0_6.length : Int) then ((vee_Good.f ((rd_T32 l0_6 x56_2).f0) ((rd_T32 l0_6 x56_2).f1) ((rd_T32 l0_6 x56_2).f2) ((rd_T32 l0_6 x56_2).f3) ((rd_T32 l0_6 x56_2).f4)).bind fun t178 => (pylonlaw10_VeeFirst.l0 k2 t160 t175 t176 t178 t160 (wrap64 (x56_2 + 1)) a0_0 a0_1 a0_2 a0_3 a0_4 a0_5 l0_6)) else (none)) else (none)) = some r := by rw [if_neg (show ¬ (false = true) by decide)] at H; exact H
                        clear H
                        have H := H1
                        clear H1
                        by_cases c42 : 0 ≤ x56_2
                        · rw [if_pos c42] at H
                          have c42b0 : decide (0 ≤ x56_2) = true := decide_eq_true c42
                          clear c42
                          by_cases c43 : x56_2 < (l0_6.length : Int)
                          · rw [if_pos c43] at H
                            have c43b0 : decide (x56_2 < (l0_6.length : Int)) = true := decide_eq_true c43
                            clear c43
                            replace H := Option.bind_eq_some_iff.mp H
                            obtain ⟨t178, A440, H⟩ := H
                            replace H : (pylonlaw10_VeeFirst.l0 k2 t160 t175 t176 t178 t160 (wrap64 (x56_2 + 1)) a0_0 a0_1 a0_2 a0_3 a0_4 a0_5 l0_6) = some r := H
                            have A44 := Aside0.mk A440
                            clear A440
                            have H' := Aside0.mk H
                            clear H
                            have hnb45 := NB149_171.out
                            have hnc45 := NB171_149.out
                            have hcz46_0 : wr.cell? ⟨gb149, 0, none⟩ = some (.string a0_0) := (blk_cell BK149.out 0).trans rfl
                            have hcz46_1 : wr.cell? ⟨gb149, 1, none⟩ = some (.int .i64 a0_1) := (blk_cell BK149.out 1).trans rfl
                            have hcz46_2 : wr.cell? ⟨gb149, 2, none⟩ = some (.int .i64 a0_2) := (blk_cell BK149.out 2).trans rfl
                            have hcz46_3 : wr.cell? ⟨gb149, 3, none⟩ = some (.int .i64 a0_3) := (blk_cell BK149.out 3).trans rfl
                            have hcz46_4 : wr.cell? ⟨gb149, 4, none⟩ = some (.int .i64 a0_4) := (blk_cell BK149.out 4).trans rfl
                            have hcz46_5 : wr.cell? ⟨gb149, 5, none⟩ = some (.int .i64 a0_5) := (blk_cell BK149.out 5).trans rfl
                            have hcz46_6 : wr.cell? ⟨gb149, 6, none⟩ = some (.slice A0_6 l0_6.length c0_6) := (blk_cell BK149.out 6).trans rfl
                            have hfz46_0 := blk_frozen BK149.out 0
                            have hfz46_1 := blk_frozen BK149.out 1
                            have hfz46_2 := blk_frozen BK149.out 2
                            have hfz46_3 := blk_frozen BK149.out 3
                            have hfz46_4 := blk_frozen BK149.out 4
                            have hfz46_5 := blk_frozen BK149.out 5
                            have hfz46_6 := blk_frozen BK149.out 6
                            have p177 : 0 ≤ (x56_2 : Int) := of_decide_eq_true (by first | (with_reducible assumption) | assumption)
                            have q177 : x56_2 < (l0_6.length : Int) := of_decide_eq_true (by first | (with_reducible assumption) | assumption)
                            obtain ⟨ad177, e177, hx177_0, hx177_1, hx177_2, hx177_3, hx177_4⟩ := at_T32 HR0_6.out x56_2 p177 q177
                            cases e177
                            replace hx177_0 := (HB.out.cell (World.block_lt_of_cell? w _ hx177_0)).trans hx177_0
                            replace hx177_1 := (HB.out.cell (World.block_lt_of_cell? w _ hx177_1)).trans hx177_1
                            replace hx177_2 := (HB.out.cell (World.block_lt_of_cell? w _ hx177_2)).trans hx177_2
                            replace hx177_3 := (HB.out.cell (World.block_lt_of_cell? w _ hx177_3)).trans hx177_3
                            replace hx177_4 := (HB.out.cell (World.block_lt_of_cell? w _ hx177_4)).trans hx177_4
                            replace p177 := eq_true p177
                            replace q177 := eq_true q177
                            go_wp2_with (first | (go_at_call 17; (with_reducible refine (vee_Good.calls ((rd_T32 l0_6 x56_2).f0) ((rd_T32 l0_6 x56_2).f1) ((rd_T32 l0_6 x56_2).f2) ((rd_T32 l0_6 x56_2).f3) ((rd_T32 l0_6 x56_2).f4) t178 _ A44.out).mono ?_); rintro e w47 ⟨rfl, hb⟩; have n0_ := Aside0.mk (Kd.R_below (by (with_reducible repeat (first | apply Kd.R_alloc | apply Kd.R_drewN | apply Kd.R_drew)); exact HO_172006.out) hb); have n1_ := Aside0.mk (blk_below (g := gb149) (o := .cells #[.string a0_0, .int .i64 a0_1, .int .i64 a0_2, .int .i64 a0_3, .int .i64 a0_4, .int .i64 a0_5, .slice (some ad177) l0_6.length c0_6] 24 (0, 0)) (by (with_reducible repeat (first | refine blk_drewN ?_ _ | refine blk_drew ?_ | refine blk_alloc ?_ _)); exact BK149.out) hb); have n2_ := Aside0.mk (blk_below (g := gb171) (o := .cells #[.string t162, .int .i64 t163, .int .i64 t164, .int .i64 t165, .int .i64 t166, .int .i64 t167, .slice Ao35 y172.length co35] 24 (0, 0)) (by (with_reducible repeat (first | refine blk_drewN ?_ _ | refine blk_drew ?_ | refine blk_alloc ?_ _)); exact BK171.out) hb); have n3_ := Aside0.mk (below_step (by repeat (first | (with_reducible first | exact HB.out | apply below_alloc | apply pw_below_drewN | apply below_drew1 | refine below_set ?_ GE149.out | refine below_set ?_ GE171.out) | exact HB.out)) hb); clear HO_172006; clear BK149; clear BK171; clear HB; have HO_172006 := n0_; have BK149 := n1_; have BK171 := n2_; have HB := n3_; clear n0_ n1_ n2_ n3_; (try clear hb); (try clear hb2); (try clear hk); (try clear hi)))
                            go_roundg k2
                            case measure => have := HJ14.out; have := HK2.out; omega
                            case rel => exact ⟨(t178), (wrap64 (x56_2 + 1)), (by first | rfl | (simp; done) | (simp [*]; done)), (by first | rfl | (simp; done) | (simp [*]; done)), H', ⟨by have := HJ14.out; have := HK2.out; omega⟩, ⟨by (with_reducible repeat (first | apply Kd.R_alloc | apply Kd.R_drewN | apply Kd.R_drew)); exact HO_172006.out⟩, ⟨by (with_reducible repeat (first | refine blk_drewN ?_ _ | refine blk_drew ?_ | refine blk_alloc ?_ _)); exact BK149.out⟩, ⟨by (with_reducible repeat (first | refine blk_drewN ?_ _ | refine blk_drew ?_ | refine blk_alloc ?_ _)); exact BK171.out⟩, ⟨by repeat (first | (with_reducible first | exact HB.out | apply below_alloc | apply pw_below_drewN | apply below_drew1 | refine below_set ?_ GE149.out | refine below_set ?_ GE171.out) | exact HB.out)⟩⟩
                          · rw [if_neg c43] at H
                            exact absurd H (by simp)
                        · rw [if_neg c42] at H
                          exact absurd H (by simp)
                    · rw [if_neg c40] at H
                      have c40b0 : decide (x56_2 < t160) = false := decide_eq_false c40
                      clear c40
                      by_cases c48 : x12_2 = true
                      · subst c48
                        have H1 : (if t176 = 0 then (if t175 = 0 then (some (decide (t160 < (l0_6.length : Int)))) else (some false)) else (some false)) = some r := by rw [if_pos rfl] at H; exact H
                        clear H
                        have H := H1
                        clear H1
                        by_cases c49 : t176 = 0
                        · rw [if_pos c49] at H
                          have c49b0 : (t176 == 0) = true := beq_iff_eq.mpr c49
                          have c49b1 : (t176 != 0) = false := bne_eq_false_iff_eq.mpr c49
                          clear c49
                          by_cases c50 : t175 = 0
                          · rw [if_pos c50] at H
                            have c50b0 : (t175 == 0) = true := beq_iff_eq.mpr c50
                            have c50b1 : (t175 != 0) = false := bne_eq_false_iff_eq.mpr c50
                            clear c50
                            obtain rfl := Option.some.inj H
                            have hnb51 := NB149_171.out
                            have hnc51 := NB171_149.out
                            have hcz52_0 : wr.cell? ⟨gb149, 0, none⟩ = some (.string a0_0) := (blk_cell BK149.out 0).trans rfl
                            have hcz52_1 : wr.cell? ⟨gb149, 1, none⟩ = some (.int .i64 a0_1) := (blk_cell BK149.out 1).trans rfl
                            have hcz52_2 : wr.cell? ⟨gb149, 2, none⟩ = some (.int .i64 a0_2) := (blk_cell BK149.out 2).trans rfl
                            have hcz52_3 : wr.cell? ⟨gb149, 3, none⟩ = some (.int .i64 a0_3) := (blk_cell BK149.out 3).trans rfl
                            have hcz52_4 : wr.cell? ⟨gb149, 4, none⟩ = some (.int .i64 a0_4) := (blk_cell BK149.out 4).trans rfl
                            have hcz52_5 : wr.cell? ⟨gb149, 5, none⟩ = some (.int .i64 a0_5) := (blk_cell BK149.out 5).trans rfl
                            have hcz52_6 : wr.cell? ⟨gb149, 6, none⟩ = some (.slice A0_6 l0_6.length c0_6) := (blk_cell BK149.out 6).trans rfl
                            have hfz52_0 := blk_frozen BK149.out 0
                            have hfz52_1 := blk_frozen BK149.out 1
                            have hfz52_2 := blk_frozen BK149.out 2
                            have hfz52_3 := blk_frozen BK149.out 3
                            have hfz52_4 := blk_frozen BK149.out 4
                            have hfz52_5 := blk_frozen BK149.out 5
                            have hfz52_6 := blk_frozen BK149.out 6
                            go_wp2
                            go_ret
                            exact ⟨by first | rfl | (simp [errW_none, errW_some] <;> rfl) | (simp [*, errW_none, errW_some] <;> rfl), by repeat (first | (with_reducible first | exact HB.out | apply below_alloc | apply pw_below_drewN | apply below_drew1 | refine below_set ?_ GE149.out | refine below_set ?_ GE171.out) | exact HB.out)⟩
                          · rw [if_neg c50] at H
                            have c50b0 : (t175 == 0) = false := beq_eq_false_iff_ne.mpr c50
                            have c50b1 : (t175 != 0) = true := bne_iff_ne.mpr c50
                            obtain rfl := Option.some.inj H
                            go_wp2
                            go_ret
                            exact ⟨by first | rfl | (simp [errW_none, errW_some] <;> rfl) | (simp [*, errW_none, errW_some] <;> rfl), by repeat (first | (with_reducible first | exact HB.out | apply below_alloc | apply pw_below_drewN | apply below_drew1 | refine below_set ?_ GE149.out | refine below_set ?_ GE171.out) | exact HB.out)⟩
                        · rw [if_neg c49] at H
                          have c49b0 : (t176 == 0) = false := beq_eq_false_iff_ne.mpr c49
                          have c49b1 : (t176 != 0) = true := bne_iff_ne.mpr c49
                          obtain rfl := Option.some.inj H
                          go_wp2
                          go_ret
                          exact ⟨by first | rfl | (simp [errW_none, errW_some] <;> rfl) | (simp [*, errW_none, errW_some] <;> rfl), by repeat (first | (with_reducible first | exact HB.out | apply below_alloc | apply pw_below_drewN | apply below_drew1 | refine below_set ?_ GE149.out | refine below_set ?_ GE171.out) | exact HB.out)⟩
                      · replace c48 := Bool.eq_false_iff.mpr c48
                        subst c48
                        have H1 : (if t176 = 3 then (some (t175 == t160)) else (some false)) = some r := by rw [if_neg (show ¬ (false = true) by decide)] at H; exact H
                        clear H
                        have H := H1
                        clear H1
                        by_cases c53 : t176 = 3
                        · rw [if_pos c53] at H
                          have c53b0 : (t176 == 3) = true := beq_iff_eq.mpr c53
                          have c53b1 : (t176 != 3) = false := bne_eq_false_iff_eq.mpr c53
                          clear c53
                          obtain rfl := Option.some.inj H
                          go_wp2
                          go_ret
                          exact ⟨by first | rfl | (simp [errW_none, errW_some] <;> rfl) | (simp [*, errW_none, errW_some] <;> rfl), by repeat (first | (with_reducible first | exact HB.out | apply below_alloc | apply pw_below_drewN | apply below_drew1 | refine below_set ?_ GE149.out | refine below_set ?_ GE171.out) | exact HB.out)⟩
                        · rw [if_neg c53] at H
                          have c53b0 : (t176 == 3) = false := beq_eq_false_iff_ne.mpr c53
                          have c53b1 : (t176 != 3) = true := bne_iff_ne.mpr c53
                          obtain rfl := Option.some.inj H
                          go_wp2
                          go_ret
                          exact ⟨by first | rfl | (simp [errW_none, errW_some] <;> rfl) | (simp [*, errW_none, errW_some] <;> rfl), by repeat (first | (with_reducible first | exact HB.out | apply below_alloc | apply pw_below_drewN | apply below_drew1 | refine below_set ?_ GE149.out | refine below_set ?_ GE171.out) | exact HB.out)⟩
              · rw [if_neg c28] at H
                exact absurd H (by simp)
            · rw [if_neg c27] at H
              exact absurd H (by simp)
  · replace c5 := Bool.eq_false_iff.mpr c5
    subst c5
    have H1 : (some false) = some r := by rw [if_neg (show ¬ (false = true) by decide)] at H; exact H
    clear H
    have H := H1
    clear H1
    obtain rfl := Option.some.inj H
    go_enter Try.func4, Try.ntmps4
    go_wp2_with (first | ((with_reducible refine gate_dst (N := 3) rfl ?_); (try (refine gate_guard (by rfl) ?_; dsimp only)); refine box_event ?hg (N := 3) ?hd (cs := #[.string a0_0, .int .i64 a0_1, .int .i64 a0_2, .int .i64 a0_3, .int .i64 a0_4, .int .i64 a0_5, .slice A0_6 l0_6.length c0_6]) (t := 24) ?hr ?_; (case hd => rfl); (case hg => rfl); (case hr => first | (go_simp; done) | (go_simp; rfl)); intro gb149 hg w54 hbox hb; have n0_ := Aside0.mk (below_step (by repeat (first | (with_reducible first | exact HB.out | apply below_alloc | apply pw_below_drewN | apply below_drew1) | exact HB.out)) hb); have n1_ := Aside0.mk (hbox); have n2_ := Aside0.mk ((by rw [hg]; exact (below_size (by repeat (first | (with_reducible first | exact HB.out | apply below_alloc | apply pw_below_drewN | apply below_drew1) | exact HB.out))) : w.heap.size ≤ gb149)); have n3_ := Aside0.mk ((by rw [hg]; exact (below_size (by repeat (first | (with_reducible first | exact HB.out | apply below_alloc | apply pw_below_drewN | apply below_drew1) | exact HB.out))) : w.heap.size ≤ gb149)); clear HB; have HB := n0_; have BK149 := n1_; have GW149 := n2_; have GE149 := n3_; clear n0_ n1_ n2_ n3_; clear hb hbox hg) | ((with_reducible refine gate_callee (f := 13) rfl ?_); refine goesL_ (some 14) rfl rfl Try.func13 (by kernel_rfl) rfl #[] rfl (by (try simp only [List.map_toArray, List.map_cons, List.map_nil]); first | done | rfl | (simp only [List.length_drop, List.length_take]; rfl)) ?_; (with_reducible refine (pylonlaw10_awake.calls k  false _ A4.out).mono ?_); rintro e w55 ⟨rfl, hb⟩; refine ⟨_, rfl, ?_⟩; have n0_ := Aside0.mk (blk_below (g := gb149) (o := .cells #[.string a0_0, .int .i64 a0_1, .int .i64 a0_2, .int .i64 a0_3, .int .i64 a0_4, .int .i64 a0_5, .slice A0_6 l0_6.length c0_6] 24 (0, 0)) (by (with_reducible repeat (first | refine blk_drewN ?_ _ | refine blk_drew ?_ | refine blk_alloc ?_ _)); exact BK149.out) hb); have n1_ := Aside0.mk (below_step (by repeat (first | (with_reducible first | exact HB.out | apply below_alloc | apply pw_below_drewN | apply below_drew1 | refine below_set ?_ GE149.out) | exact HB.out)) hb); clear BK149; clear HB; have BK149 := n0_; have HB := n1_; clear n0_ n1_; (try clear hb); (try clear hb2); (try clear hk); (try clear hi)))
    go_ret
    exact ⟨by first | rfl | (simp [errW_none, errW_some] <;> rfl) | (simp [*, errW_none, errW_some] <;> rfl), by repeat (first | (with_reducible first | exact HB.out | apply below_alloc | apply pw_below_drewN | apply below_drew1 | refine below_set ?_ GE149.out) | exact HB.out)⟩
/-- THE ONE PURE STATEMENT of pylonlaw10_VeeFirst. -/
def pylonlaw10_VeeFirst.Pure : Prop := ∀ (a0_0 : ByteArray) (a0_1 : Int) (a0_2 : Int) (a0_3 : Int) (a0_4 : Int) (a0_5 : Int) (l0_6 : List (S32)) (a1 : Int) (a2 : Int), (a0_0.size ≤ 140737488351232) → ((Lit.int .i64 a0_1).wf = true) → ((Lit.int .i64 a0_2).wf = true) → ((Lit.int .i64 a0_3).wf = true) → ((Lit.int .i64 a0_4).wf = true) → ((Lit.int .i64 a0_5).wf = true) → (l0_6.length * 40 ≤ 140737488351232 ∧ ∀ y_ ∈ l0_6, okS32 y_) → ((Lit.int .i64 a1).wf = true) → ((Lit.int .i64 a2).wf = true) → ∃ k, pylonlaw10_VeeFirst.f k a0_0 a0_1 a0_2 a0_3 a0_4 a0_5 l0_6 a1 a2 = some true

end Go.Proofs.Ytbjkjakilpifhaa.PV
