-- Written by a program of this session for this claim (wip/print2.sh). Lean checks it.
import Derived.Test.YtapimggcnneabaaPDx0
import Derived.Test.YtapimggcnneabaaPDx4
import Derived.Test.YtapimggcnneabaaPDx6
namespace Go.Proofs.Ytapimggcnneabaa.PD
open Go.Proofs.YtapimggcnneabaaW.PrintWords
attribute [local go_sem high] fx_eql fx_neq fx_lss fx_leq fx_gtr fx_geq fx_add fx_sub fx_mul fx_neg fx_toint cxx_add cxx_sub cxx_mul cxx_eql cxx_neq cxx_pick st_float st_complex
open Go.RowKit Go.Proofs.YtapimggcnneabaaW.PrintWords Go.Proofs.YtapimggcnneabaaW.PrintLast Go.Proofs.YtapimggcnneabaaW.PrintMore
attribute [local go_sem] max2_int min2_int max_two min_two max_three min_three max_four min_four   -- for this text's walks alone
set_option linter.unusedVariables false
set_option linter.unusedSimpArgs false

/-! ### pylonlaw16_DemandWholes: function 13 -/
def pylonlaw16_DemandWholes.f (k : Nat) (a0_0 : Int) (a0_1 : Int) (a0_2 : Int) (a0_3 : Int) (a0_4 : Int) : Option (Bool) := (pylonlaw16_awake.f k).bind fun t178 => (if t178 = true then ((pylonref16_Whole.f k a0_0 a0_1 a0_2 a0_3 a0_4).bind fun bt179 => ((demand_Whole.f k a0_0 a0_1 a0_2 a0_3 a0_4).bind fun bt183 => (if bt183.2 = bt179.2 then ((pylonref11_SameSpans.f k bt183.1 bt179.1).bind fun t187 => (some t187)) else (some false)))) else (some false))
theorem pylonlaw16_DemandWholes.mono : ∀ a0 a1 a2 a3 a4 k, LeO (pylonlaw16_DemandWholes.f k a0 a1 a2 a3 a4) (pylonlaw16_DemandWholes.f (k + 1) a0 a1 a2 a3 a4) := by
  intro a0 a1 a2 a3 a4 k
  unfold pylonlaw16_DemandWholes.f
  repeat' first
      | (with_reducible exact demand_Whole.mono _ _ _ _ _ _)
      | (with_reducible exact pylonlaw16_awake.mono _)
      | (with_reducible exact pylonref11_SameSpans.mono _ _ _)
      | (with_reducible exact pylonref16_Whole.mono _ _ _ _ _ _)
      | (with_reducible exact LeO.refl _)
      | (with_reducible exact LeO.none _)
      | (with_reducible refine LeO.ite ?_ ?_)
      | (with_reducible refine LeO.bind ?_ (fun _ => ?_))
      | exact demand_Whole.mono _ _ _ _ _ _
      | exact pylonlaw16_awake.mono _
      | exact pylonref11_SameSpans.mono _ _ _
      | exact pylonref16_Whole.mono _ _ _ _ _ _
      | exact LeO.none _
      | refine LeO.ite ?_ ?_
      | refine LeO.bind ?_ (fun _ => ?_)
set_option maxHeartbeats 8000000 in
set_option maxRecDepth 100000 in
theorem pylonlaw16_DemandWholes.calls (k : Nat) (a0_0 : Int) (a0_1 : Int) (a0_2 : Int) (a0_3 : Int) (a0_4 : Int) (r : Bool) (w : World) (h : pylonlaw16_DemandWholes.f k a0_0 a0_1 a0_2 a0_3 a0_4 = some r) :
    Calls Try.prog 13 #[.agg #[.int .i64 a0_0, .int .i64 a0_1, .int .i64 a0_2, .int .i64 a0_3, .int .i64 a0_4]] w fun e w' => e = .returned (.bool r) ∧ Below w.heap.size w w' := by
  have hu82 := Try.underlying82
  have HB := Aside0.mk (Below.refl w.heap.size w)
  have H : ((pylonlaw16_awake.f k).bind fun t178 => (if t178 = true then ((pylonref16_Whole.f k a0_0 a0_1 a0_2 a0_3 a0_4).bind fun bt179 => ((demand_Whole.f k a0_0 a0_1 a0_2 a0_3 a0_4).bind fun bt183 => (if bt183.2 = bt179.2 then ((pylonref11_SameSpans.f k bt183.1 bt179.1).bind fun t187 => (some t187)) else (some false)))) else (some false))) = some r := h
  clear h
  replace H := Option.bind_eq_some_iff.mp H
  obtain ⟨t178, A20, H⟩ := H
  replace H : (if t178 = true then ((pylonref16_Whole.f k a0_0 a0_1 a0_2 a0_3 a0_4).bind fun bt179 => ((demand_Whole.f k a0_0 a0_1 a0_2 a0_3 a0_4).bind fun bt183 => (if bt183.2 = bt179.2 then ((pylonref11_SameSpans.f k bt183.1 bt179.1).bind fun t187 => (some t187)) else (some false)))) else (some false)) = some r := H
  have A2 := Aside0.mk A20
  clear A20
  by_cases c3 : t178 = true
  · subst c3
    have H1 : ((pylonref16_Whole.f k a0_0 a0_1 a0_2 a0_3 a0_4).bind fun bt179 => ((demand_Whole.f k a0_0 a0_1 a0_2 a0_3 a0_4).bind fun bt183 => (if bt183.2 = bt179.2 then ((pylonref11_SameSpans.f k bt183.1 bt179.1).bind fun t187 => (some t187)) else (some false)))) = some r := by rw [if_pos rfl] at H; exact H
    clear H
    have H := H1
    clear H1
    replace H := Option.bind_eq_some_iff.mp H
    obtain ⟨⟨t179, t180⟩, A40, H⟩ := H
    replace H : ((demand_Whole.f k a0_0 a0_1 a0_2 a0_3 a0_4).bind fun bt183 => (if bt183.2 = t180 then ((pylonref11_SameSpans.f k bt183.1 t179).bind fun t187 => (some t187)) else (some false))) = some r := H
    have A4 := Aside0.mk A40
    clear A40
    replace H := Option.bind_eq_some_iff.mp H
    obtain ⟨⟨t183, t184⟩, A50, H⟩ := H
    replace H : (if t184 = t180 then ((pylonref11_SameSpans.f k t183 t179).bind fun t187 => (some t187)) else (some false)) = some r := H
    have A5 := Aside0.mk A50
    clear A50
    by_cases c6 : t184 = t180
    · rw [if_pos c6] at H
      have c6b0 : (t184 == t180) = true := beq_iff_eq.mpr c6
      have c6b1 : (t184 != t180) = false := bne_eq_false_iff_eq.mpr c6
      clear c6
      replace H := Option.bind_eq_some_iff.mp H
      obtain ⟨t187, A70, H⟩ := H
      replace H : (some t187) = some r := H
      have A7 := Aside0.mk A70
      clear A70
      obtain rfl := Option.some.inj H
      go_enter Try.func13, Try.ntmps13
      go_wp2_with (first | ((with_reducible refine gate_dst (N := 1) rfl ?_); refine box_event ?hg (N := 1) ?hd (cs := #[.int .i64 a0_0, .int .i64 a0_1, .int .i64 a0_2, .int .i64 a0_3, .int .i64 a0_4]) (t := 82) ?hr ?_; (case hd => rfl); (case hg => rfl); (case hr => first | (go_simp; done) | (go_simp; rfl)); intro gb177 hg w8 hbox hb; have n0_ := Aside0.mk (below_step (by repeat (first | (with_reducible first | exact HB.out | apply below_alloc | apply pw_below_drewN | apply below_drew1) | exact HB.out)) hb); have n1_ := Aside0.mk (hbox); have n2_ := Aside0.mk ((by rw [hg]; exact (below_size (by repeat (first | (with_reducible first | exact HB.out | apply below_alloc | apply pw_below_drewN | apply below_drew1) | exact HB.out))) : w.heap.size ≤ gb177)); have n3_ := Aside0.mk ((by rw [hg]; exact (below_size (by repeat (first | (with_reducible first | exact HB.out | apply below_alloc | apply pw_below_drewN | apply below_drew1) | exact HB.out))) : w.heap.size ≤ gb177)); clear HB; have HB := n0_; have BK177 := n1_; have GW177 := n2_; have GE177 := n3_; clear n0_ n1_ n2_ n3_; clear hb hbox hg) | ((with_reducible refine gate_callee (f := 44) rfl ?_); refine goesL_ (some 7) rfl rfl Try.func44 (by kernel_rfl) rfl #[] rfl (by (try simp only [List.map_toArray, List.map_cons, List.map_nil]); first | done | rfl | (simp only [List.length_drop, List.length_take]; rfl)) ?_; (with_reducible refine (pylonlaw16_awake.calls k  true _ A2.out).mono ?_); rintro e w9 ⟨rfl, hb⟩; refine ⟨_, rfl, ?_⟩; have n0_ := Aside0.mk (blk_below (g := gb177) (o := .cells #[.int .i64 a0_0, .int .i64 a0_1, .int .i64 a0_2, .int .i64 a0_3, .int .i64 a0_4] 82 (0, 0)) (by (with_reducible repeat (first | refine blk_drewN ?_ _ | refine blk_drew ?_ | refine blk_alloc ?_ _)); exact BK177.out) hb); have n1_ := Aside0.mk (below_step (by repeat (first | (with_reducible first | exact HB.out | apply below_alloc | apply pw_below_drewN | apply below_drew1 | refine below_set ?_ GE177.out) | exact HB.out)) hb); clear BK177; clear HB; have BK177 := n0_; have HB := n1_; clear n0_ n1_; (try clear hb); (try clear hb2); (try clear hk); (try clear hi); have hcz10_0 : w9.cell? ⟨gb177, 0, none⟩ = some (.int .i64 a0_0) := (blk_cell BK177.out 0).trans rfl; have hcz10_1 : w9.cell? ⟨gb177, 1, none⟩ = some (.int .i64 a0_1) := (blk_cell BK177.out 1).trans rfl; have hcz10_2 : w9.cell? ⟨gb177, 2, none⟩ = some (.int .i64 a0_2) := (blk_cell BK177.out 2).trans rfl; have hcz10_3 : w9.cell? ⟨gb177, 3, none⟩ = some (.int .i64 a0_3) := (blk_cell BK177.out 3).trans rfl; have hcz10_4 : w9.cell? ⟨gb177, 4, none⟩ = some (.int .i64 a0_4) := (blk_cell BK177.out 4).trans rfl; have hfz10_0 := blk_frozen BK177.out 0; have hfz10_1 := blk_frozen BK177.out 1; have hfz10_2 := blk_frozen BK177.out 2; have hfz10_3 := blk_frozen BK177.out 3; have hfz10_4 := blk_frozen BK177.out 4) | ((with_reducible refine gate_callee (f := 48) rfl ?_); refine goesL_ (some 20) rfl rfl Try.func48 (by kernel_rfl) rfl #[.int .i64 a0_0, .int .i64 a0_1, .int .i64 a0_2, .int .i64 a0_3, .int .i64 a0_4] rfl (by (try simp only [List.map_toArray, List.map_cons, List.map_nil]); first | done | rfl | (simp only [List.length_drop, List.length_take]; rfl)) ?_; (with_reducible refine (pylonref16_Whole.calls k a0_0 a0_1 a0_2 a0_3 a0_4 t179 t180 _ A4.out).mono ?_); rintro e w11 ⟨v181, rfl, ho0, hb⟩; refine ⟨_, rfl, ?_⟩; have n0_ := Aside0.mk (Kd.R_lower ho0 (below_size (by repeat (first | (with_reducible first | exact HB.out | apply below_alloc | apply pw_below_drewN | apply below_drew1 | refine below_set ?_ GE177.out) | exact HB.out)))); have n1_ := Aside0.mk (blk_below (g := gb177) (o := .cells #[.int .i64 a0_0, .int .i64 a0_1, .int .i64 a0_2, .int .i64 a0_3, .int .i64 a0_4] 82 (0, 0)) (by (with_reducible repeat (first | refine blk_drewN ?_ _ | refine blk_drew ?_ | refine blk_alloc ?_ _)); exact BK177.out) hb); have n2_ := Aside0.mk (below_step (by repeat (first | (with_reducible first | exact HB.out | apply below_alloc | apply pw_below_drewN | apply below_drew1 | refine below_set ?_ GE177.out) | exact HB.out)) hb); clear BK177; clear HB; have HO182 := n0_; have BK177 := n1_; have HB := n2_; clear n0_ n1_ n2_; (try clear hb); (try clear hb2); (try clear hk); (try clear hi); (try clear ho0); have hcz12_0 : w11.cell? ⟨gb177, 0, none⟩ = some (.int .i64 a0_0) := (blk_cell BK177.out 0).trans rfl; have hcz12_1 : w11.cell? ⟨gb177, 1, none⟩ = some (.int .i64 a0_1) := (blk_cell BK177.out 1).trans rfl; have hcz12_2 : w11.cell? ⟨gb177, 2, none⟩ = some (.int .i64 a0_2) := (blk_cell BK177.out 2).trans rfl; have hcz12_3 : w11.cell? ⟨gb177, 3, none⟩ = some (.int .i64 a0_3) := (blk_cell BK177.out 3).trans rfl; have hcz12_4 : w11.cell? ⟨gb177, 4, none⟩ = some (.int .i64 a0_4) := (blk_cell BK177.out 4).trans rfl; have hfz12_0 := blk_frozen BK177.out 0; have hfz12_1 := blk_frozen BK177.out 1; have hfz12_2 := blk_frozen BK177.out 2; have hfz12_3 := blk_frozen BK177.out 3; have hfz12_4 := blk_frozen BK177.out 4) | ((with_reducible refine gate_callee (f := 49) rfl ?_); refine goesL_ (some 34) rfl rfl Try.func49 (by kernel_rfl) rfl #[.int .i64 a0_0, .int .i64 a0_1, .int .i64 a0_2, .int .i64 a0_3, .int .i64 a0_4] rfl (by (try simp only [List.map_toArray, List.map_cons, List.map_nil]); first | done | rfl | (simp only [List.length_drop, List.length_take]; rfl)) ?_; (with_reducible refine (demand_Whole.calls k a0_0 a0_1 a0_2 a0_3 a0_4 t183 t184 _ A5.out).mono ?_); rintro e w13 ⟨v185, rfl, ho0, hb⟩; refine ⟨_, rfl, ?_⟩; have n0_ := Aside0.mk (Kd.R_elder' (by (with_reducible repeat (first | apply Kd.R_alloc | apply Kd.R_drewN | apply Kd.R_drew)); exact HO182.out) (Kd.R_base ho0) hb); have n1_ := Aside0.mk (Kd.R_lower (Kd.R_new' ho0 (Kd.R_lt (by (with_reducible repeat (first | apply Kd.R_alloc | apply Kd.R_drewN | apply Kd.R_drew)); exact HO182.out))) (below_size (by repeat (first | (with_reducible first | exact HB.out | apply below_alloc | apply pw_below_drewN | apply below_drew1 | refine below_set ?_ GE177.out) | exact HB.out)))); have n2_ := Aside0.mk (blk_below (g := gb177) (o := .cells #[.int .i64 a0_0, .int .i64 a0_1, .int .i64 a0_2, .int .i64 a0_3, .int .i64 a0_4] 82 (0, 0)) (by (with_reducible repeat (first | refine blk_drewN ?_ _ | refine blk_drew ?_ | refine blk_alloc ?_ _)); exact BK177.out) hb); have n3_ := Aside0.mk (below_step (by repeat (first | (with_reducible first | exact HB.out | apply below_alloc | apply pw_below_drewN | apply below_drew1 | refine below_set ?_ GE177.out) | exact HB.out)) hb); clear HO182; clear BK177; clear HB; have HO182 := n0_; have HO186 := n1_; have BK177 := n2_; have HB := n3_; clear n0_ n1_ n2_ n3_; (try clear hb); (try clear hb2); (try clear hk); (try clear hi); (try clear ho0); obtain ⟨Ao14, co14, eo14⟩ := Kd.R_slice HO186.out; subst eo14; obtain ⟨Ao15, co15, eo15⟩ := Kd.R_slice HO182.out; subst eo15) | (go_at_call 50; (with_reducible refine (pylonref11_SameSpans.calls k _ _ t183 _ _ t179 t187 _ ?side1 ?side2 ?side3 ?side4 A7.out).mono ?_); (case side1 => repeat (first | exact (Kd.R_reads' HO186.out).2.2 | (with_reducible refine Kd.C_alloc ?_ _) | (with_reducible refine Kd.C_drewN ?_ _) | (with_reducible refine Kd.C_drew ?_))); (case side2 => exact (Kd.R_reads' HO186.out).2.1); (case side3 => repeat (first | exact (Kd.R_reads' HO182.out).2.2 | (with_reducible refine Kd.C_alloc ?_ _) | (with_reducible refine Kd.C_drewN ?_ _) | (with_reducible refine Kd.C_drew ?_))); (case side4 => exact (Kd.R_reads' HO182.out).2.1); rintro e w' ⟨rfl, ⟨nd, rfl⟩⟩))
      go_ret
      exact ⟨by first | rfl | (simp [errW_none, errW_some] <;> rfl) | (simp [*, errW_none, errW_some] <;> rfl), by repeat (first | (with_reducible first | exact HB.out | apply below_alloc | apply pw_below_drewN | apply below_drew1 | refine below_set ?_ GE177.out) | exact HB.out)⟩
    · rw [if_neg c6] at H
      have c6b0 : (t184 == t180) = false := beq_eq_false_iff_ne.mpr c6
      have c6b1 : (t184 != t180) = true := bne_iff_ne.mpr c6
      obtain rfl := Option.some.inj H
      go_enter Try.func13, Try.ntmps13
      go_wp2_with (first | ((with_reducible refine gate_dst (N := 1) rfl ?_); refine box_event ?hg (N := 1) ?hd (cs := #[.int .i64 a0_0, .int .i64 a0_1, .int .i64 a0_2, .int .i64 a0_3, .int .i64 a0_4]) (t := 82) ?hr ?_; (case hd => rfl); (case hg => rfl); (case hr => first | (go_simp; done) | (go_simp; rfl)); intro gb177 hg w16 hbox hb; have n0_ := Aside0.mk (below_step (by repeat (first | (with_reducible first | exact HB.out | apply below_alloc | apply pw_below_drewN | apply below_drew1) | exact HB.out)) hb); have n1_ := Aside0.mk (hbox); have n2_ := Aside0.mk ((by rw [hg]; exact (below_size (by repeat (first | (with_reducible first | exact HB.out | apply below_alloc | apply pw_below_drewN | apply below_drew1) | exact HB.out))) : w.heap.size ≤ gb177)); have n3_ := Aside0.mk ((by rw [hg]; exact (below_size (by repeat (first | (with_reducible first | exact HB.out | apply below_alloc | apply pw_below_drewN | apply below_drew1) | exact HB.out))) : w.heap.size ≤ gb177)); clear HB; have HB := n0_; have BK177 := n1_; have GW177 := n2_; have GE177 := n3_; clear n0_ n1_ n2_ n3_; clear hb hbox hg) | ((with_reducible refine gate_callee (f := 44) rfl ?_); refine goesL_ (some 7) rfl rfl Try.func44 (by kernel_rfl) rfl #[] rfl (by (try simp only [List.map_toArray, List.map_cons, List.map_nil]); first | done | rfl | (simp only [List.length_drop, List.length_take]; rfl)) ?_; (with_reducible refine (pylonlaw16_awake.calls k  true _ A2.out).mono ?_); rintro e w17 ⟨rfl, hb⟩; refine ⟨_, rfl, ?_⟩; have n0_ := Aside0.mk (blk_below (g := gb177) (o := .cells #[.int .i64 a0_0, .int .i64 a0_1, .int .i64 a0_2, .int .i64 a0_3, .int .i64 a0_4] 82 (0, 0)) (by (with_reducible repeat (first | refine blk_drewN ?_ _ | refine blk_drew ?_ | refine blk_alloc ?_ _)); exact BK177.out) hb); have n1_ := Aside0.mk (below_step (by repeat (first | (with_reducible first | exact HB.out | apply below_alloc | apply pw_below_drewN | apply below_drew1 | refine below_set ?_ GE177.out) | exact HB.out)) hb); clear BK177; clear HB; have BK177 := n0_; have HB := n1_; clear n0_ n1_; (try clear hb); (try clear hb2); (try clear hk); (try clear hi); have hcz18_0 : w17.cell? ⟨gb177, 0, none⟩ = some (.int .i64 a0_0) := (blk_cell BK177.out 0).trans rfl; have hcz18_1 : w17.cell? ⟨gb177, 1, none⟩ = some (.int .i64 a0_1) := (blk_cell BK177.out 1).trans rfl; have hcz18_2 : w17.cell? ⟨gb177, 2, none⟩ = some (.int .i64 a0_2) := (blk_cell BK177.out 2).trans rfl; have hcz18_3 : w17.cell? ⟨gb177, 3, none⟩ = some (.int .i64 a0_3) := (blk_cell BK177.out 3).trans rfl; have hcz18_4 : w17.cell? ⟨gb177, 4, none⟩ = some (.int .i64 a0_4) := (blk_cell BK177.out 4).trans rfl; have hfz18_0 := blk_frozen BK177.out 0; have hfz18_1 := blk_frozen BK177.out 1; have hfz18_2 := blk_frozen BK177.out 2; have hfz18_3 := blk_frozen BK177.out 3; have hfz18_4 := blk_frozen BK177.out 4) | ((with_reducible refine gate_callee (f := 48) rfl ?_); refine goesL_ (some 20) rfl rfl Try.func48 (by kernel_rfl) rfl #[.int .i64 a0_0, .int .i64 a0_1, .int .i64 a0_2, .int .i64 a0_3, .int .i64 a0_4] rfl (by (try simp only [List.map_toArray, List.map_cons, List.map_nil]); first | done | rfl | (simp only [List.length_drop, List.length_take]; rfl)) ?_; (with_reducible refine (pylonref16_Whole.calls k a0_0 a0_1 a0_2 a0_3 a0_4 t179 t180 _ A4.out).mono ?_); rintro e w19 ⟨v181, rfl, ho0, hb⟩; refine ⟨_, rfl, ?_⟩; have n0_ := Aside0.mk (Kd.R_lower ho0 (below_size (by repeat (first | (with_reducible first | exact HB.out | apply below_alloc | apply pw_below_drewN | apply below_drew1 | refine below_set ?_ GE177.out) | exact HB.out)))); have n1_ := Aside0.mk (blk_below (g := gb177) (o := .cells #[.int .i64 a0_0, .int .i64 a0_1, .int .i64 a0_2, .int .i64 a0_3, .int .i64 a0_4] 82 (0, 0)) (by (with_reducible repeat (first | refine blk_drewN ?_ _ | refine blk_drew ?_ | refine blk_alloc ?_ _)); exact BK177.out) hb); have n2_ := Aside0.mk (below_step (by repeat (first | (with_reducible first | exact HB.out | apply below_alloc | apply pw_below_drewN | apply below_drew1 | refine below_set ?_ GE177.out) | exact HB.out)) hb); clear BK177; clear HB; have HO182 := n0_; have BK177 := n1_; have HB := n2_; clear n0_ n1_ n2_; (try clear hb); (try clear hb2); (try clear hk); (try clear hi); (try clear ho0); have hcz20_0 : w19.cell? ⟨gb177, 0, none⟩ = some (.int .i64 a0_0) := (blk_cell BK177.out 0).trans rfl; have hcz20_1 : w19.cell? ⟨gb177, 1, none⟩ = some (.int .i64 a0_1) := (blk_cell BK177.out 1).trans rfl; have hcz20_2 : w19.cell? ⟨gb177, 2, none⟩ = some (.int .i64 a0_2) := (blk_cell BK177.out 2).trans rfl; have hcz20_3 : w19.cell? ⟨gb177, 3, none⟩ = some (.int .i64 a0_3) := (blk_cell BK177.out 3).trans rfl; have hcz20_4 : w19.cell? ⟨gb177, 4, none⟩ = some (.int .i64 a0_4) := (blk_cell BK177.out 4).trans rfl; have hfz20_0 := blk_frozen BK177.out 0; have hfz20_1 := blk_frozen BK177.out 1; have hfz20_2 := blk_frozen BK177.out 2; have hfz20_3 := blk_frozen BK177.out 3; have hfz20_4 := blk_frozen BK177.out 4) | ((with_reducible refine gate_callee (f := 49) rfl ?_); refine goesL_ (some 34) rfl rfl Try.func49 (by kernel_rfl) rfl #[.int .i64 a0_0, .int .i64 a0_1, .int .i64 a0_2, .int .i64 a0_3, .int .i64 a0_4] rfl (by (try simp only [List.map_toArray, List.map_cons, List.map_nil]); first | done | rfl | (simp only [List.length_drop, List.length_take]; rfl)) ?_; (with_reducible refine (demand_Whole.calls k a0_0 a0_1 a0_2 a0_3 a0_4 t183 t184 _ A5.out).mono ?_); rintro e w21 ⟨v185, rfl, ho0, hb⟩; refine ⟨_, rfl, ?_⟩; have n0_ := Aside0.mk (Kd.R_elder' (by (with_reducible repeat (first | apply Kd.R_alloc | apply Kd.R_drewN | apply Kd.R_drew)); exact HO182.out) (Kd.R_base ho0) hb); have n1_ := Aside0.mk (Kd.R_lower (Kd.R_new' ho0 (Kd.R_lt (by (with_reducible repeat (first | apply Kd.R_alloc | apply Kd.R_drewN | apply Kd.R_drew)); exact HO182.out))) (below_size (by repeat (first | (with_reducible first | exact HB.out | apply below_alloc | apply pw_below_drewN | apply below_drew1 | refine below_set ?_ GE177.out) | exact HB.out)))); have n2_ := Aside0.mk (blk_below (g := gb177) (o := .cells #[.int .i64 a0_0, .int .i64 a0_1, .int .i64 a0_2, .int .i64 a0_3, .int .i64 a0_4] 82 (0, 0)) (by (with_reducible repeat (first | refine blk_drewN ?_ _ | refine blk_drew ?_ | refine blk_alloc ?_ _)); exact BK177.out) hb); have n3_ := Aside0.mk (below_step (by repeat (first | (with_reducible first | exact HB.out | apply below_alloc | apply pw_below_drewN | apply below_drew1 | refine below_set ?_ GE177.out) | exact HB.out)) hb); clear HO182; clear BK177; clear HB; have HO182 := n0_; have HO186 := n1_; have BK177 := n2_; have HB := n3_; clear n0_ n1_ n2_ n3_; (try clear hb); (try clear hb2); (try clear hk); (try clear hi); (try clear ho0)))
      go_ret
      exact ⟨by first | rfl | (simp [errW_none, errW_some] <;> rfl) | (simp [*, errW_none, errW_some] <;> rfl), by repeat (first | (with_reducible first | exact HB.out | apply below_alloc | apply pw_below_drewN | apply below_drew1 | refine below_set ?_ GE177.out) | exact HB.out)⟩
  · replace c3 := Bool.eq_false_iff.mpr c3
    subst c3
    have H1 : (some false) = some r := by rw [if_neg (show ¬ (false = true) by decide)] at H; exact H
    clear H
    have H := H1
    clear H1
    obtain rfl := Option.some.inj H
    go_enter Try.func13, Try.ntmps13
    go_wp2_with (first | ((with_reducible refine gate_dst (N := 1) rfl ?_); refine box_event ?hg (N := 1) ?hd (cs := #[.int .i64 a0_0, .int .i64 a0_1, .int .i64 a0_2, .int .i64 a0_3, .int .i64 a0_4]) (t := 82) ?hr ?_; (case hd => rfl); (case hg => rfl); (case hr => first | (go_simp; done) | (go_simp; rfl)); intro gb177 hg w22 hbox hb; have n0_ := Aside0.mk (below_step (by repeat (first | (with_reducible first | exact HB.out | apply below_alloc | apply pw_below_drewN | apply below_drew1) | exact HB.out)) hb); have n1_ := Aside0.mk (hbox); have n2_ := Aside0.mk ((by rw [hg]; exact (below_size (by repeat (first | (with_reducible first | exact HB.out | apply below_alloc | apply pw_below_drewN | apply below_drew1) | exact HB.out))) : w.heap.size ≤ gb177)); have n3_ := Aside0.mk ((by rw [hg]; exact (below_size (by repeat (first | (with_reducible first | exact HB.out | apply below_alloc | apply pw_below_drewN | apply below_drew1) | exact HB.out))) : w.heap.size ≤ gb177)); clear HB; have HB := n0_; have BK177 := n1_; have GW177 := n2_; have GE177 := n3_; clear n0_ n1_ n2_ n3_; clear hb hbox hg) | ((with_reducible refine gate_callee (f := 44) rfl ?_); refine goesL_ (some 7) rfl rfl Try.func44 (by kernel_rfl) rfl #[] rfl (by (try simp only [List.map_toArray, List.map_cons, List.map_nil]); first | done | rfl | (simp only [List.length_drop, List.length_take]; rfl)) ?_; (with_reducible refine (pylonlaw16_awake.calls k  false _ A2.out).mono ?_); rintro e w23 ⟨rfl, hb⟩; refine ⟨_, rfl, ?_⟩; have n0_ := Aside0.mk (blk_below (g := gb177) (o := .cells #[.int .i64 a0_0, .int .i64 a0_1, .int .i64 a0_2, .int .i64 a0_3, .int .i64 a0_4] 82 (0, 0)) (by (with_reducible repeat (first | refine blk_drewN ?_ _ | refine blk_drew ?_ | refine blk_alloc ?_ _)); exact BK177.out) hb); have n1_ := Aside0.mk (below_step (by repeat (first | (with_reducible first | exact HB.out | apply below_alloc | apply pw_below_drewN | apply below_drew1 | refine below_set ?_ GE177.out) | exact HB.out)) hb); clear BK177; clear HB; have BK177 := n0_; have HB := n1_; clear n0_ n1_; (try clear hb); (try clear hb2); (try clear hk); (try clear hi)))
    go_ret
    exact ⟨by first | rfl | (simp [errW_none, errW_some] <;> rfl) | (simp [*, errW_none, errW_some] <;> rfl), by repeat (first | (with_reducible first | exact HB.out | apply below_alloc | apply pw_below_drewN | apply below_drew1 | refine below_set ?_ GE177.out) | exact HB.out)⟩
/-- THE ONE PURE STATEMENT of pylonlaw16_DemandWholes. -/
def pylonlaw16_DemandWholes.Pure : Prop := ∀ (a0_0 : Int) (a0_1 : Int) (a0_2 : Int) (a0_3 : Int) (a0_4 : Int), ((Lit.int .i64 a0_0).wf = true) → ((Lit.int .i64 a0_1).wf = true) → ((Lit.int .i64 a0_2).wf = true) → ((Lit.int .i64 a0_3).wf = true) → ((Lit.int .i64 a0_4).wf = true) → ∃ k, pylonlaw16_DemandWholes.f k a0_0 a0_1 a0_2 a0_3 a0_4 = some true

/-! ### pylonlaw16_good: function 51 -/
def pylonlaw16_good.f (a0_0 : Int) (a0_1 : Int) (a0_2 : Int) (a0_3 : Int) (a0_4 : Int) (a1 : Int) : Option (Int × Int × Int × Int × Int) := (some (([15, 30, 60] : List Int) : List Int)).bind fun y190 => (if 0 ≤ (wrap64 (Int.tmod (IntKind.u64.wrap (a0_1)) 3)) then (if (wrap64 (Int.tmod (IntKind.u64.wrap (a0_1)) 3)) < (y190.length : Int) then (if 0 ≤ (wrap64 (Int.tmod (IntKind.u64.wrap (a0_2)) 3)) then (if (wrap64 (Int.tmod (IntKind.u64.wrap (a0_2)) 3)) < (y190.length : Int) then (if (IntKind.u64.wrap (wrap64 (a1 + 1))) = 0 then (none) else (if (IntKind.u64.wrap (wrap64 ((wrap64 (a1 + 1)) - (wrap64 (Int.tmod (IntKind.u64.wrap (a0_3)) (IntKind.u64.wrap (wrap64 (a1 + 1)))))))) = 0 then (none) else (some (wrap64 ((wrap64 (Int.tmod (IntKind.u64.wrap (a0_0)) 1000000)) * (wrap64 (60 * (rd y190 (wrap64 (Int.tmod (IntKind.u64.wrap (a0_1)) 3)))))), rd y190 (wrap64 (Int.tmod (IntKind.u64.wrap (a0_1)) 3)), rd y190 (wrap64 (Int.tmod (IntKind.u64.wrap (a0_2)) 3)), wrap64 (Int.tmod (IntKind.u64.wrap (a0_3)) (IntKind.u64.wrap (wrap64 (a1 + 1)))), wrap64 ((wrap64 (Int.tmod (IntKind.u64.wrap (a0_3)) (IntKind.u64.wrap (wrap64 (a1 + 1))))) + (wrap64 (Int.tmod (IntKind.u64.wrap (a0_4)) (IntKind.u64.wrap (wrap64 ((wrap64 (a1 + 1)) - (wrap64 (Int.tmod (IntKind.u64.wrap (a0_3)) (IntKind.u64.wrap (wrap64 (a1 + 1))))))))))))))) else (none)) else (none)) else (none)) else (none))
def pylonlaw16_good.T6 : Bool × List (List Nat × List Nat) := (true, [([], []), ([0], [0]), ([], []), ([2], [2]), ([3], [3]), ([], []), ([5], [5]), ([], []), ([7], [7]), ([6, 8], [6, 8]), ([9], [9]), ([4, 10], [4, 10]), ([11], [11]), ([1, 12], [1, 12]), ([0, 1, 2, 3, 4, 5, 6, 7, 8, 9, 10, 11, 12, 13], []), ([14, 13, 0, 1, 2, 3, 4, 5, 6, 7, 8, 9, 10, 11, 12, 13], [13, 14])])
def pylonlaw16_good.B6 : List Nat := [0, 1, 0, 4, 12, 0, 32, 0, 128, 480, 992, 2044, 4092, 8191, 16383, 32767]
theorem pylonlaw16_good.tab6 : rtab .any (opsOf Try.f51 6) = pylonlaw16_good.T6 := by kernel_rfl
theorem pylonlaw16_good.bits6 : waitsOk pylonlaw16_good.T6.2 pylonlaw16_good.B6 = true := by kernel_rfl
set_option maxHeartbeats 8000000 in
set_option maxRecDepth 100000 in
theorem pylonlaw16_good.calls (a0_0 : Int) (a0_1 : Int) (a0_2 : Int) (a0_3 : Int) (a0_4 : Int) (a1 : Int) (r1 : Int) (r2 : Int) (r3 : Int) (r4 : Int) (r5 : Int) (w : World) (h : pylonlaw16_good.f a0_0 a0_1 a0_2 a0_3 a0_4 a1 = some (r1, r2, r3, r4, r5)) :
    Calls Try.prog 51 #[.agg #[.int .i64 a0_0, .int .i64 a0_1, .int .i64 a0_2, .int .i64 a0_3, .int .i64 a0_4], .int .i64 a1] w fun e w' => e = .returned (.agg #[.int .i64 r1, .int .i64 r2, .int .i64 r3, .int .i64 r4, .int .i64 r5]) ∧ Below w.heap.size w w' := by
  have hu82 := Try.underlying82
  have HB := Aside0.mk (Below.refl w.heap.size w)
  have H : ((some (([15, 30, 60] : List Int) : List Int)).bind fun y190 => (if 0 ≤ (wrap64 (Int.tmod (IntKind.u64.wrap (a0_1)) 3)) then (if (wrap64 (Int.tmod (IntKind.u64.wrap (a0_1)) 3)) < (y190.length : Int) then (if 0 ≤ (wrap64 (Int.tmod (IntKind.u64.wrap (a0_2)) 3)) then (if (wrap64 (Int.tmod (IntKind.u64.wrap (a0_2)) 3)) < (y190.length : Int) then (if (IntKind.u64.wrap (wrap64 (a1 + 1))) = 0 then (none) else (if (IntKind.u64.wrap (wrap64 ((wrap64 (a1 + 1)) - (wrap64 (Int.tmod (IntKind.u64.wrap (a0_3)) (IntKind.u64.wrap (wrap64 (a1 + 1)))))))) = 0 then (none) else (some (wrap64 ((wrap64 (Int.tmod (IntKind.u64.wrap (a0_0)) 1000000)) * (wrap64 (60 * (rd y190 (wrap64 (Int.tmod (IntKind.u64.wrap (a0_1)) 3)))))), rd y190 (wrap64 (Int.tmod (IntKind.u64.wrap (a0_1)) 3)), rd y190 (wrap64 (Int.tmod (IntKind.u64.wrap (a0_2)) 3)), wrap64 (Int.tmod (IntKind.u64.wrap (a0_3)) (IntKind.u64.wrap (wrap64 (a1 + 1)))), wrap64 ((wrap64 (Int.tmod (IntKind.u64.wrap (a0_3)) (IntKind.u64.wrap (wrap64 (a1 + 1))))) + (wrap64 (Int.tmod (IntKind.u64.wrap (a0_4)) (IntKind.u64.wrap (wrap64 ((wrap64 (a1 + 1)) - (wrap64 (Int.tmod (IntKind.u64.wrap (a0_3)) (IntKind.u64.wrap (wrap64 (a1 + 1))))))))))))))) else (none)) else (none)) else (none)) else (none))) = some (r1, r2, r3, r4, r5) := h
  clear h
  obtain ⟨y190, hy190⟩ : ∃ y_ : List Int, y_ = (([15, 30, 60] : List Int)) := ⟨_, rfl⟩
  replace H : (if 0 ≤ (wrap64 (Int.tmod (IntKind.u64.wrap (a0_1)) 3)) then (if (wrap64 (Int.tmod (IntKind.u64.wrap (a0_1)) 3)) < (y190.length : Int) then (if 0 ≤ (wrap64 (Int.tmod (IntKind.u64.wrap (a0_2)) 3)) then (if (wrap64 (Int.tmod (IntKind.u64.wrap (a0_2)) 3)) < (y190.length : Int) then (if (IntKind.u64.wrap (wrap64 (a1 + 1))) = 0 then (none) else (if (IntKind.u64.wrap (wrap64 ((wrap64 (a1 + 1)) - (wrap64 (Int.tmod (IntKind.u64.wrap (a0_3)) (IntKind.u64.wrap (wrap64 (a1 + 1)))))))) = 0 then (none) else (some (wrap64 ((wrap64 (Int.tmod (IntKind.u64.wrap (a0_0)) 1000000)) * (wrap64 (60 * (rd y190 (wrap64 (Int.tmod (IntKind.u64.wrap (a0_1)) 3)))))), rd y190 (wrap64 (Int.tmod (IntKind.u64.wrap (a0_1)) 3)), rd y190 (wrap64 (Int.tmod (IntKind.u64.wrap (a0_2)) 3)), wrap64 (Int.tmod (IntKind.u64.wrap (a0_3)) (IntKind.u64.wrap (wrap64 (a1 + 1)))), wrap64 ((wrap64 (Int.tmod (IntKind.u64.wrap (a0_3)) (IntKind.u64.wrap (wrap64 (a1 + 1))))) + (wrap64 (Int.tmod (IntKind.u64.wrap (a0_4)) (IntKind.u64.wrap (wrap64 ((wrap64 (a1 + 1)) - (wrap64 (Int.tmod (IntKind.u64.wrap (a0_3)) (IntKind.u64.wrap (wrap64 (a1 + 1))))))))))))))) else (none)) else (none)) else (none)) else (none)) = some (r1, r2, r3, r4, r5) := by first | (rw [hy190]; with_reducible exact H) | (have H2_ := (Option.bind_some _ _).symm.trans H; rw [hy190]; with_reducible exact H2_) | (have H2_ := (Option.bind_some _ _).symm.trans H; with_reducible exact H2_) | with_reducible exact H | (rw [hy190]; exact H) | exact H
  have Ny190 := Aside0.mk hy190
  clear hy190
  obtain ⟨ji3, hji3⟩ : ∃ j_ : Int, (wrap64 (Int.tmod (IntKind.u64.wrap (a0_1)) 3)) = j_ := ⟨_, rfl⟩
  replace H : (if 0 ≤ (ji3) then (if (ji3) < (y190.length : Int) then (if 0 ≤ (wrap64 (Int.tmod (IntKind.u64.wrap (a0_2)) 3)) then (if (wrap64 (Int.tmod (IntKind.u64.wrap (a0_2)) 3)) < (y190.length : Int) then (if (IntKind.u64.wrap (wrap64 (a1 + 1))) = 0 then (none) else (if (IntKind.u64.wrap (wrap64 ((wrap64 (a1 + 1)) - (wrap64 (Int.tmod (IntKind.u64.wrap (a0_3)) (IntKind.u64.wrap (wrap64 (a1 + 1)))))))) = 0 then (none) else (some (wrap64 ((wrap64 (Int.tmod (IntKind.u64.wrap (a0_0)) 1000000)) * (wrap64 (60 * (rd y190 (ji3))))), rd y190 (ji3), rd y190 (wrap64 (Int.tmod (IntKind.u64.wrap (a0_2)) 3)), wrap64 (Int.tmod (IntKind.u64.wrap (a0_3)) (IntKind.u64.wrap (wrap64 (a1 + 1)))), wrap64 ((wrap64 (Int.tmod (IntKind.u64.wrap (a0_3)) (IntKind.u64.wrap (wrap64 (a1 + 1))))) + (wrap64 (Int.tmod (IntKind.u64.wrap (a0_4)) (IntKind.u64.wrap (wrap64 ((wrap64 (a1 + 1)) - (wrap64 (Int.tmod (IntKind.u64.wrap (a0_3)) (IntKind.u64.wrap (wrap64 (a1 + 1))))))))))))))) else (none)) else (none)) else (none)) else (none)) = some (r1, r2, r3, r4, r5) := by first | (rw [hji3] at H; exact H) | (simp only [hji3] at H ⊢; exact H)
  have hji3w : (IntKind.i64.wrap (Int.tmod (IntKind.u64.wrap (a0_1)) 3)) = ji3 := (i64_w _).trans hji3
  by_cases c4 : 0 ≤ (ji3)
  · rw [if_pos c4] at H
    have c4b0 : decide (0 ≤ (ji3)) = true := decide_eq_true c4
    clear c4
    by_cases c5 : (ji3) < (y190.length : Int)
    · rw [if_pos c5] at H
      have c5b0 : decide ((ji3) < (y190.length : Int)) = true := decide_eq_true c5
      clear c5
      obtain ⟨ji6, hji6⟩ : ∃ j_ : Int, (wrap64 (Int.tmod (IntKind.u64.wrap (a0_2)) 3)) = j_ := ⟨_, rfl⟩
      replace H : (if 0 ≤ (ji6) then (if (ji6) < (y190.length : Int) then (if (IntKind.u64.wrap (wrap64 (a1 + 1))) = 0 then (none) else (if (IntKind.u64.wrap (wrap64 ((wrap64 (a1 + 1)) - (wrap64 (Int.tmod (IntKind.u64.wrap (a0_3)) (IntKind.u64.wrap (wrap64 (a1 + 1)))))))) = 0 then (none) else (some (wrap64 ((wrap64 (Int.tmod (IntKind.u64.wrap (a0_0)) 1000000)) * (wrap64 (60 * (rd y190 (ji3))))), rd y190 (ji3), rd y190 (ji6), wrap64 (Int.tmod (IntKind.u64.wrap (a0_3)) (IntKind.u64.wrap (wrap64 (a1 + 1)))), wrap64 ((wrap64 (Int.tmod (IntKind.u64.wrap (a0_3)) (IntKind.u64.wrap (wrap64 (a1 + 1))))) + (wrap64 (Int.tmod (IntKind.u64.wrap (a0_4)) (IntKind.u64.wrap (wrap64 ((wrap64 (a1 + 1)) - (wrap64 (Int.tmod (IntKind.u64.wrap (a0_3)) (IntKind.u64.wrap (wrap64 (a1 + 1))))))))))))))) else (none)) else (none)) = some (r1, r2, r3, r4, r5) := by first | (rw [hji6] at H; exact H) | (simp only [hji6] at H ⊢; exact H)
      have hji6w : (IntKind.i64.wrap (Int.tmod (IntKind.u64.wrap (a0_2)) 3)) = ji6 := (i64_w _).trans hji6
      by_cases c7 : 0 ≤ (ji6)
      · rw [if_pos c7] at H
        have c7b0 : decide (0 ≤ (ji6)) = true := decide_eq_true c7
        clear c7
        by_cases c8 : (ji6) < (y190.length : Int)
        · rw [if_pos c8] at H
          have c8b0 : decide ((ji6) < (y190.length : Int)) = true := decide_eq_true c8
          clear c8
          by_cases c9 : (IntKind.u64.wrap (wrap64 (a1 + 1))) = 0
          · rw [if_pos c9] at H
            exact absurd H (by simp)
          · rw [if_neg c9] at H
            have c9b0 : ((IntKind.u64.wrap (wrap64 (a1 + 1))) == 0) = false := beq_eq_false_iff_ne.mpr c9
            have c9b1 : ((IntKind.u64.wrap (wrap64 (a1 + 1))) != 0) = true := bne_iff_ne.mpr c9
            by_cases c10 : (IntKind.u64.wrap (wrap64 ((wrap64 (a1 + 1)) - (wrap64 (Int.tmod (IntKind.u64.wrap (a0_3)) (IntKind.u64.wrap (wrap64 (a1 + 1)))))))) = 0
            · rw [if_pos c10] at H
              exact absurd H (by simp)
            · rw [if_neg c10] at H
              have c10b0 : ((IntKind.u64.wrap (wrap64 ((wrap64 (a1 + 1)) - (wrap64 (Int.tmod (IntKind.u64.wrap (a0_3)) (IntKind.u64.wrap (wrap64 (a1 + 1)))))))) == 0) = false := beq_eq_false_iff_ne.mpr c10
              have c10b1 : ((IntKind.u64.wrap (wrap64 ((wrap64 (a1 + 1)) - (wrap64 (Int.tmod (IntKind.u64.wrap (a0_3)) (IntKind.u64.wrap (wrap64 (a1 + 1)))))))) != 0) = true := bne_iff_ne.mpr c10
              simp only [Option.some.injEq, Prod.mk.injEq] at H
              obtain ⟨rfl, rfl, rfl, rfl, rfl⟩ := H
              go_enter Try.func51, Try.ntmps51
              try go_wp2_with (first | ((with_reducible refine gate_dst (N := 2) rfl ?_); refine box_event ?hg (N := 2) ?hd (cs := #[.int .i64 a0_0, .int .i64 a0_1, .int .i64 a0_2, .int .i64 a0_3, .int .i64 a0_4]) (t := 82) ?hr ?_; (case hd => rfl); (case hg => rfl); (case hr => first | (go_simp; done) | (go_simp; rfl)); intro gb188 hg w11 hbox hb; have n0_ := Aside0.mk (below_step (by repeat (first | (with_reducible first | exact HB.out | apply below_alloc | apply pw_below_drewN | apply below_drew1) | exact HB.out)) hb); have n1_ := Aside0.mk (hbox); have n2_ := Aside0.mk ((by rw [hg]; exact (below_size (by repeat (first | (with_reducible first | exact HB.out | apply below_alloc | apply pw_below_drewN | apply below_drew1) | exact HB.out))) : w.heap.size ≤ gb188)); have n3_ := Aside0.mk ((by rw [hg]; exact (below_size (by repeat (first | (with_reducible first | exact HB.out | apply below_alloc | apply pw_below_drewN | apply below_drew1) | exact HB.out))) : w.heap.size ≤ gb188)); clear HB; have HB := n0_; have BK188 := n1_; have GW188 := n2_; have GE188 := n3_; clear n0_ n1_ n2_ n3_; clear hb hbox hg) | ((with_reducible refine gate_dst (N := 4) rfl ?_); refine box_event ?hg (N := 4) ?hd (cs := #[.int .i64 0, .int .i64 0, .int .i64 0, .int .i64 0, .int .i64 0]) (t := 82) ?hr ?_; (case hd => rfl); (case hg => rfl); (case hr => first | (go_simp; done) | (go_simp; rfl)); intro gb189 hg w12 hbox hb; have n0_ := Aside0.mk (blk_below (g := gb188) (o := .cells #[.int .i64 a0_0, .int .i64 a0_1, .int .i64 a0_2, .int .i64 a0_3, .int .i64 a0_4] 82 (0, 0)) (by (with_reducible repeat (first | refine blk_drewN ?_ _ | refine blk_drew ?_ | refine blk_alloc ?_ _)); exact BK188.out) hb); have n1_ := Aside0.mk (below_step (by repeat (first | (with_reducible first | exact HB.out | apply below_alloc | apply pw_below_drewN | apply below_drew1 | refine below_set ?_ GE188.out) | exact HB.out)) hb); have n2_ := Aside0.mk (hbox); have n3_ := Aside0.mk ((by rw [hg]; exact (below_size (by repeat (first | (with_reducible first | exact HB.out | apply below_alloc | apply pw_below_drewN | apply below_drew1 | refine below_set ?_ GE188.out) | exact HB.out))) : w.heap.size ≤ gb189)); have n4_ := Aside0.mk ((by rw [hg]; exact (below_size (by repeat (first | (with_reducible first | exact HB.out | apply below_alloc | apply pw_below_drewN | apply below_drew1 | refine below_set ?_ GE188.out) | exact HB.out))) : w.heap.size ≤ gb189)); have n5_ := Aside0.mk ((by rw [hg]; exact Nat.ne_of_lt (blk_lt (g := gb188) (o := .cells #[.int .i64 a0_0, .int .i64 a0_1, .int .i64 a0_2, .int .i64 a0_3, .int .i64 a0_4] 82 (0, 0)) (by (with_reducible repeat (first | refine blk_drewN ?_ _ | refine blk_drew ?_ | refine blk_alloc ?_ _)); exact BK188.out)) : gb188 ≠ gb189)); have n6_ := Aside0.mk ((by rw [hg]; exact Nat.ne_of_gt (blk_lt (g := gb188) (o := .cells #[.int .i64 a0_0, .int .i64 a0_1, .int .i64 a0_2, .int .i64 a0_3, .int .i64 a0_4] 82 (0, 0)) (by (with_reducible repeat (first | refine blk_drewN ?_ _ | refine blk_drew ?_ | refine blk_alloc ?_ _)); exact BK188.out)) : gb189 ≠ gb188)); clear BK188; clear HB; have BK188 := n0_; have HB := n1_; have BK189 := n2_; have GW189 := n3_; have GE189 := n4_; have NB188_189 := n5_; have NB189_188 := n6_; clear n0_ n1_ n2_ n3_ n4_ n5_ n6_; clear hb hbox hg) | ((with_reducible refine gate_dst (N := 6) rfl ?_); refine Kd.R_lit (Kd.int .i64) _ 3 ?hg (N := 6) ?hd (xs := ([15, 30, 60] : List Int)) (inner := [.int .i64 15, .int .i64 30, .int .i64 60]) (ok := fun _ => True) (okp := fun _ => True) ?hr ?hp (fun _ hk => hk) trivial (Below.refl _ _) (Nat.le_refl _) (by simp) ?_; (case hd => rfl); (case hg => rfl); (case hr => first | (go_simp; done) | (go_simp; rfl)); (case hp => exact (Reps.one (show Kd.M (Kd.int .i64) _ _ _ 15 [.int .i64 15] from rfl) (Reps.one (show Kd.M (Kd.int .i64) _ _ _ 30 [.int .i64 30] from rfl) (Reps.one (show Kd.M (Kd.int .i64) _ _ _ 60 [.int .i64 60] from rfl) (Reps.none _ _))))); intro v191 w13 ho14 hb hg_ hnew_; clear hg_ hnew_; (first | rw [← Ny190.out] at ho14 | (simp only [Int.reduceToNat] at ho14; rw [← Ny190.out] at ho14)); have n0_ := Aside0.mk (Kd.R_lower ho14 (below_size (by repeat (first | (with_reducible first | exact HB.out | apply below_alloc | apply pw_below_drewN | apply below_drew1 | refine below_set ?_ GE188.out | refine below_set ?_ GE189.out) | exact HB.out)))); have n1_ := Aside0.mk (blk_below (g := gb188) (o := .cells #[.int .i64 a0_0, .int .i64 a0_1, .int .i64 a0_2, .int .i64 a0_3, .int .i64 a0_4] 82 (0, 0)) (by (with_reducible repeat (first | refine blk_drewN ?_ _ | refine blk_drew ?_ | refine blk_alloc ?_ _)); exact BK188.out) hb); have n2_ := Aside0.mk (blk_below (g := gb189) (o := .cells #[.int .i64 0, .int .i64 0, .int .i64 0, .int .i64 0, .int .i64 0] 82 (0, 0)) (by (with_reducible repeat (first | refine blk_drewN ?_ _ | refine blk_drew ?_ | refine blk_alloc ?_ _)); exact BK189.out) hb); have n3_ := Aside0.mk (below_step (by repeat (first | (with_reducible first | exact HB.out | apply below_alloc | apply pw_below_drewN | apply below_drew1 | refine below_set ?_ GE188.out | refine below_set ?_ GE189.out) | exact HB.out)) hb); clear BK188; clear BK189; clear HB; have HO192 := n0_; have BK188 := n1_; have BK189 := n2_; have HB := n3_; clear n0_ n1_ n2_ n3_; clear hb ho14; have hnb15 := NB188_189.out; have hnc15 := NB189_188.out; have hcz16_0 : w13.cell? ⟨gb188, 0, none⟩ = some (.int .i64 a0_0) := (blk_cell BK188.out 0).trans rfl; have hcz16_1 : w13.cell? ⟨gb188, 1, none⟩ = some (.int .i64 a0_1) := (blk_cell BK188.out 1).trans rfl; have hcz16_2 : w13.cell? ⟨gb188, 2, none⟩ = some (.int .i64 a0_2) := (blk_cell BK188.out 2).trans rfl; have hcz16_3 : w13.cell? ⟨gb188, 3, none⟩ = some (.int .i64 a0_3) := (blk_cell BK188.out 3).trans rfl; have hcz16_4 : w13.cell? ⟨gb188, 4, none⟩ = some (.int .i64 a0_4) := (blk_cell BK188.out 4).trans rfl; have hfz16_0 := blk_frozen BK188.out 0; have hfz16_1 := blk_frozen BK188.out 1; have hfz16_2 := blk_frozen BK188.out 2; have hfz16_3 := blk_frozen BK188.out 3; have hfz16_4 := blk_frozen BK188.out 4; obtain ⟨Ao17, co17, eo17⟩ := Kd.R_slice HO192.out; subst eo17; have p193 : 0 ≤ ((ji3) : Int) := of_decide_eq_true (by first | (with_reducible assumption) | assumption); have q193 : (ji3) < (y190.length : Int) := of_decide_eq_true (by first | (with_reducible assumption) | assumption); obtain ⟨ad193, e193, hx193_0⟩ := Kd.at_int (Kd.R_reads' HO192.out).2.2 (ji3) p193 q193; cases e193; replace p193 := eq_true p193; replace q193 := eq_true q193; have p194 : 0 ≤ ((ji6) : Int) := of_decide_eq_true (by first | (with_reducible assumption) | assumption); have q194 : (ji6) < (y190.length : Int) := of_decide_eq_true (by first | (with_reducible assumption) | assumption); obtain ⟨ad194, e194, hx194_0⟩ := Kd.at_int (Kd.R_reads' HO192.out).2.2 (ji6) p194 q194; obtain rfl : ad193 = ad194 := (by injection e194); have hn194_0 : ad193.block ≠ gb188 := Kd.own_blk (Kd.R_ne HO192.out BK188.out (by decide)); replace hx194_0 := (cell_far (p := ⟨gb188, 1, none⟩) (by first | (rw [add_block]; exact hn194_0) | (show (Addr.add _ _).block ≠ _; rw [add_block]; exact hn194_0) | exact hn194_0) (.int .i64 (rd y190 (ji3)))).trans hx194_0; clear hn194_0; replace p194 := eq_true p194; replace q194 := eq_true q194))
              have n0_ : Aside0 (Kd.R (Kd.int .i64) 3 ((((w13.setCell ⟨gb188, 1, none⟩ (.int .i64 (rd y190 (ji3)))).setCell ⟨gb188, 2, none⟩ (.int .i64 (rd y190 (ji6)))).setCell ⟨gb188, 0, none⟩ (.int .i64 (wrap64 ((wrap64 (Int.tmod (IntKind.u64.wrap (a0_0)) 1000000)) * (wrap64 (60 * (rd y190 (ji3)))))))).setCell ⟨gb188, 3, none⟩ (.int .i64 (wrap64 (Int.tmod (IntKind.u64.wrap (a0_3)) (IntKind.u64.wrap (wrap64 (a1 + 1))))))) w.heap.size (fun _ => True) (.slice (some ad193) y190.length co17) y190) := ⟨by (with_reducible repeat (first | apply Kd.R_alloc | apply Kd.R_drewN | apply Kd.R_drew)); exact Kd.R_mono (Kd.R_far (p := ⟨gb188, 3, none⟩) (Kd.R_far (p := ⟨gb188, 0, none⟩) (Kd.R_far (p := ⟨gb188, 2, none⟩) (Kd.R_far (p := ⟨gb188, 1, none⟩) (Kd.R_types HO192.out BK188.out (by decide)) (fun _ hk => hk.2) (.int .i64 (rd y190 (ji3)))) (fun _ hk => hk.2) (.int .i64 (rd y190 (ji6)))) (fun _ hk => hk.2) (.int .i64 (wrap64 ((wrap64 (Int.tmod (IntKind.u64.wrap (a0_0)) 1000000)) * (wrap64 (60 * (rd y190 (ji3)))))))) (fun _ hk => hk.2) (.int .i64 (wrap64 (Int.tmod (IntKind.u64.wrap (a0_3)) (IntKind.u64.wrap (wrap64 (a1 + 1))))))) (fun _ hk => trivial)⟩
              have n1_ : Aside0 (((((w13.setCell ⟨gb188, 1, none⟩ (.int .i64 (rd y190 (ji3)))).setCell ⟨gb188, 2, none⟩ (.int .i64 (rd y190 (ji6)))).setCell ⟨gb188, 0, none⟩ (.int .i64 (wrap64 ((wrap64 (Int.tmod (IntKind.u64.wrap (a0_0)) 1000000)) * (wrap64 (60 * (rd y190 (ji3)))))))).setCell ⟨gb188, 3, none⟩ (.int .i64 (wrap64 (Int.tmod (IntKind.u64.wrap (a0_3)) (IntKind.u64.wrap (wrap64 (a1 + 1))))))).heap[gb188]? = some (.cells #[.int .i64 (wrap64 ((wrap64 (Int.tmod (IntKind.u64.wrap (a0_0)) 1000000)) * (wrap64 (60 * (rd y190 (ji3)))))), .int .i64 (rd y190 (ji3)), .int .i64 (rd y190 (ji6)), .int .i64 (wrap64 (Int.tmod (IntKind.u64.wrap (a0_3)) (IntKind.u64.wrap (wrap64 (a1 + 1))))), .int .i64 a0_4] 82 (0, 0))) := ⟨by (with_reducible repeat (first | refine blk_drewN ?_ _ | refine blk_drew ?_ | refine blk_alloc ?_ _)); refine blk_put (cs := #[.int .i64 (wrap64 ((wrap64 (Int.tmod (IntKind.u64.wrap (a0_0)) 1000000)) * (wrap64 (60 * (rd y190 (ji3)))))), .int .i64 (rd y190 (ji3)), .int .i64 (rd y190 (ji6)), .int .i64 a0_3, .int .i64 a0_4]) ?_ 3 _ rfl; (with_reducible repeat (first | refine blk_drewN ?_ _ | refine blk_drew ?_ | refine blk_alloc ?_ _)); refine blk_put (cs := #[.int .i64 a0_0, .int .i64 (rd y190 (ji3)), .int .i64 (rd y190 (ji6)), .int .i64 a0_3, .int .i64 a0_4]) ?_ 0 _ rfl; (with_reducible repeat (first | refine blk_drewN ?_ _ | refine blk_drew ?_ | refine blk_alloc ?_ _)); refine blk_put (cs := #[.int .i64 a0_0, .int .i64 (rd y190 (ji3)), .int .i64 a0_2, .int .i64 a0_3, .int .i64 a0_4]) ?_ 2 _ rfl; (with_reducible repeat (first | refine blk_drewN ?_ _ | refine blk_drew ?_ | refine blk_alloc ?_ _)); refine blk_put (cs := #[.int .i64 a0_0, .int .i64 a0_1, .int .i64 a0_2, .int .i64 a0_3, .int .i64 a0_4]) ?_ 1 _ rfl; (with_reducible repeat (first | refine blk_drewN ?_ _ | refine blk_drew ?_ | refine blk_alloc ?_ _)); exact BK188.out⟩
              have n2_ : Aside0 (((((w13.setCell ⟨gb188, 1, none⟩ (.int .i64 (rd y190 (ji3)))).setCell ⟨gb188, 2, none⟩ (.int .i64 (rd y190 (ji6)))).setCell ⟨gb188, 0, none⟩ (.int .i64 (wrap64 ((wrap64 (Int.tmod (IntKind.u64.wrap (a0_0)) 1000000)) * (wrap64 (60 * (rd y190 (ji3)))))))).setCell ⟨gb188, 3, none⟩ (.int .i64 (wrap64 (Int.tmod (IntKind.u64.wrap (a0_3)) (IntKind.u64.wrap (wrap64 (a1 + 1))))))).heap[gb189]? = some (.cells #[.int .i64 0, .int .i64 0, .int .i64 0, .int .i64 0, .int .i64 0] 82 (0, 0))) := ⟨by (with_reducible repeat (first | refine blk_drewN ?_ _ | refine blk_drew ?_ | refine blk_alloc ?_ _)); refine blk_far ?_ NB189_188.out _; (with_reducible repeat (first | refine blk_drewN ?_ _ | refine blk_drew ?_ | refine blk_alloc ?_ _)); refine blk_far ?_ NB189_188.out _; (with_reducible repeat (first | refine blk_drewN ?_ _ | refine blk_drew ?_ | refine blk_alloc ?_ _)); refine blk_far ?_ NB189_188.out _; (with_reducible repeat (first | refine blk_drewN ?_ _ | refine blk_drew ?_ | refine blk_alloc ?_ _)); refine blk_far ?_ NB189_188.out _; (with_reducible repeat (first | refine blk_drewN ?_ _ | refine blk_drew ?_ | refine blk_alloc ?_ _)); exact BK189.out⟩
              have n3_ : Aside0 (Below w.heap.size w ((((w13.setCell ⟨gb188, 1, none⟩ (.int .i64 (rd y190 (ji3)))).setCell ⟨gb188, 2, none⟩ (.int .i64 (rd y190 (ji6)))).setCell ⟨gb188, 0, none⟩ (.int .i64 (wrap64 ((wrap64 (Int.tmod (IntKind.u64.wrap (a0_0)) 1000000)) * (wrap64 (60 * (rd y190 (ji3)))))))).setCell ⟨gb188, 3, none⟩ (.int .i64 (wrap64 (Int.tmod (IntKind.u64.wrap (a0_3)) (IntKind.u64.wrap (wrap64 (a1 + 1)))))))) := ⟨by repeat (first | (with_reducible first | exact HB.out | apply below_alloc | apply pw_below_drewN | apply below_drew1 | refine below_set ?_ GE188.out | refine below_set ?_ GE189.out) | exact HB.out)⟩
              (try clear HO192)
              (try clear BK188)
              (try clear BK189)
              (try clear HB)
              generalize ((((w13.setCell ⟨gb188, 1, none⟩ (.int .i64 (rd y190 (ji3)))).setCell ⟨gb188, 2, none⟩ (.int .i64 (rd y190 (ji6)))).setCell ⟨gb188, 0, none⟩ (.int .i64 (wrap64 ((wrap64 (Int.tmod (IntKind.u64.wrap (a0_0)) 1000000)) * (wrap64 (60 * (rd y190 (ji3)))))))).setCell ⟨gb188, 3, none⟩ (.int .i64 (wrap64 (Int.tmod (IntKind.u64.wrap (a0_3)) (IntKind.u64.wrap (wrap64 (a1 + 1))))))) = w18 at n0_ n1_ n2_ n3_ ⊢
              have HO192 := n0_
              have BK188 := n1_
              have BK189 := n2_
              have HB := n3_
              clear n0_ n1_ n2_ n3_
              have n0_ := Aside0.mk (Kd.R_drew HO192.out)
              have n1_ := Aside0.mk (blk_drew BK188.out)
              have n2_ := Aside0.mk (blk_drew BK189.out)
              have n3_ := Aside0.mk (below_drew1 HB.out)
              clear HO192
              clear BK188
              clear BK189
              clear HB
              have HO192 := n0_
              have BK188 := n1_
              have BK189 := n2_
              have HB := n3_
              clear n0_ n1_ n2_ n3_
              refine start_ (n := 16) (S := fun w' => w'.cell? ⟨gb188, 0, none⟩ = some (.int .i64 (wrap64 ((wrap64 (Int.tmod (IntKind.u64.wrap (a0_0)) 1000000)) * (wrap64 (60 * (rd y190 (ji3))))))) ∧ w'.cell? ⟨gb188, 1, none⟩ = some (.int .i64 (rd y190 (ji3))) ∧ w'.cell? ⟨gb188, 2, none⟩ = some (.int .i64 (rd y190 (ji6))) ∧ w'.cell? ⟨gb188, 3, none⟩ = some (.int .i64 (wrap64 (Int.tmod (IntKind.u64.wrap (a0_3)) (IntKind.u64.wrap (wrap64 (a1 + 1)))))) ∧ w'.cell? ⟨gb188, 4, none⟩ = some (.int .i64 a0_4)) (ds := [15]) #[false, false, false, false, false, false, false, false, false, false, false, false, false, false, false, false] (by kernel_rfl) rfl rfl ⟨(blk_cell BK188.out 0).trans rfl, (blk_cell BK188.out 1).trans rfl, (blk_cell BK188.out 2).trans rfl, (blk_cell BK188.out 3).trans rfl, (blk_cell BK188.out 4).trans rfl⟩ (fun hHeld => ?_); refine with_tabW pylonlaw16_good.tab6 pylonlaw16_good.bits6 (fun HT_ HW_ => ?_)
              generalize w18.drew = w19 at HO192 BK188 BK189 HB hHeld ⊢
              refine pure_ (i := 0) (N := some 44) (v := ?_) (a' := ?_) #[true, false, false, false, false, false, false, false, false, false, false, false, false, false, false, false] rfl rfl (any_of HT_.out (by kernel_rfl)) (fun _ _ _ h => h) (Or.inl ⟨by rfl, ?_⟩) ?_ ?_
              rotate_left
              · intro w'
                go_simp
                with_reducible rfl
              rotate_left
              · simp only [Act.put, List.setIfInBounds_toArray, List.set_cons_zero, List.set_cons_succ, i64_w, i32_w]
                rfl
              refine pure_ (i := 2) (N := some 46) (v := ?_) (a' := ?_) #[true, false, true, false, false, false, false, false, false, false, false, false, false, false, false, false] rfl rfl (any_of HT_.out (by kernel_rfl)) (fun _ _ _ h => h) (Or.inl ⟨by rfl, ?_⟩) ?_ ?_
              rotate_left
              · intro w'
                go_simp
                with_reducible rfl
              rotate_left
              · simp only [Act.put, List.setIfInBounds_toArray, List.set_cons_zero, List.set_cons_succ, i64_w, i32_w]
                rfl
              refine pure_ (i := 5) (N := some 49) (v := ?_) (a' := ?_) #[true, false, true, false, false, true, false, false, false, false, false, false, false, false, false, false] rfl rfl (any_of HT_.out (by kernel_rfl)) (fun _ _ _ h => h) (Or.inl ⟨by rfl, ?_⟩) ?_ ?_
              rotate_left
              · intro w'
                go_simp
                with_reducible rfl
              rotate_left
              · simp only [Act.put, List.setIfInBounds_toArray, List.set_cons_zero, List.set_cons_succ, i64_w, i32_w]
                rfl
              refine pure_ (i := 6) (N := some 50) (v := ?_) (a' := ?_) #[true, false, true, false, false, true, true, false, false, false, false, false, false, false, false, false] rfl rfl (any_of HT_.out (by kernel_rfl)) (fun _ _ _ h => h) (Or.inl ⟨by rfl, ?_⟩) ?_ ?_
              rotate_left
              · intro w'
                go_simp
                with_reducible rfl
              rotate_left
              · simp only [Act.put, List.setIfInBounds_toArray, List.set_cons_zero, List.set_cons_succ, i64_w, i32_w]
                rfl
              refine pure_ (i := 7) (N := some 51) (v := ?_) (a' := ?_) #[true, false, true, false, false, true, true, true, false, false, false, false, false, false, false, false] rfl rfl (any_of HT_.out (by kernel_rfl)) (fun _ _ _ h => h) (Or.inl ⟨by rfl, ?_⟩) ?_ ?_
              rotate_left
              · intro w'
                go_simp
                with_reducible rfl
              rotate_left
              · simp only [Act.put, List.setIfInBounds_toArray, List.set_cons_zero, List.set_cons_succ, i64_w, i32_w]
                rfl
              refine take_ (i := 1) (N := some 45) (v := ?_) (a' := ?_) #[true, true, true, false, false, true, true, true, false, false, false, false, false, false, false, false] rfl rfl (take_ofW HT_.out HW_.out (by kernel_rfl)) (fun _ _ _ h => h) (Or.inl ⟨by rfl, ?_⟩) hHeld ?_ ?_
              rotate_left
              · rintro w' ⟨s0, s1, s2, s3, s4⟩
                go_simp
                with_reducible rfl
              rotate_left
              · simp only [Act.put, List.setIfInBounds_toArray, List.set_cons_zero, List.set_cons_succ, i64_w, i32_w]
                rfl
              refine take_ (i := 3) (N := some 47) (v := ?_) (a' := ?_) #[true, true, true, true, false, true, true, true, false, false, false, false, false, false, false, false] rfl rfl (take_ofW HT_.out HW_.out (by kernel_rfl)) (fun _ _ _ h => h) (Or.inl ⟨by rfl, ?_⟩) hHeld ?_ ?_
              rotate_left
              · rintro w' ⟨s0, s1, s2, s3, s4⟩
                go_simp
                with_reducible rfl
              rotate_left
              · simp only [Act.put, List.setIfInBounds_toArray, List.set_cons_zero, List.set_cons_succ, i64_w, i32_w]
                rfl
              refine pure_ (i := 4) (N := some 48) (v := ?_) (a' := ?_) #[true, true, true, true, true, true, true, true, false, false, false, false, false, false, false, false] rfl rfl (any_of HT_.out (by kernel_rfl)) (fun _ _ _ h => h) (Or.inl ⟨by rfl, ?_⟩) ?_ ?_
              rotate_left
              · intro w'
                go_simp
                with_reducible rfl
              rotate_left
              · simp only [Act.put, List.setIfInBounds_toArray, List.set_cons_zero, List.set_cons_succ, i64_w, i32_w]
                rfl
              refine take_ (i := 8) (N := some 52) (v := ?_) (a' := ?_) #[true, true, true, true, true, true, true, true, true, false, false, false, false, false, false, false] rfl rfl (take_ofW HT_.out HW_.out (by kernel_rfl)) (fun _ _ _ h => h) (Or.inl ⟨by rfl, ?_⟩) hHeld ?_ ?_
              rotate_left
              · rintro w' ⟨s0, s1, s2, s3, s4⟩
                go_simp
                with_reducible rfl
              rotate_left
              · simp only [Act.put, List.setIfInBounds_toArray, List.set_cons_zero, List.set_cons_succ, i64_w, i32_w]
                rfl
              refine pure_ (i := 9) (N := some 53) (v := ?_) (a' := ?_) #[true, true, true, true, true, true, true, true, true, true, false, false, false, false, false, false] rfl rfl (any_of HT_.out (by kernel_rfl)) (fun _ _ _ h => h) (Or.inl ⟨by rfl, ?_⟩) ?_ ?_
              rotate_left
              · intro w'
                go_simp
                with_reducible rfl
              rotate_left
              · simp only [Act.put, List.setIfInBounds_toArray, List.set_cons_zero, List.set_cons_succ, i64_w, i32_w]
                rfl
              refine pure_ (i := 10) (N := some 54) (v := ?_) (a' := ?_) #[true, true, true, true, true, true, true, true, true, true, true, false, false, false, false, false] rfl rfl (any_of HT_.out (by kernel_rfl)) (fun _ _ _ h => h) (Or.inl ⟨by rfl, ?_⟩) ?_ ?_
              rotate_left
              · intro w'
                go_simp
                with_reducible rfl
              rotate_left
              · simp only [Act.put, List.setIfInBounds_toArray, List.set_cons_zero, List.set_cons_succ, i64_w, i32_w]
                rfl
              refine pure_ (i := 11) (N := some 55) (v := ?_) (a' := ?_) #[true, true, true, true, true, true, true, true, true, true, true, true, false, false, false, false] rfl rfl (any_of HT_.out (by kernel_rfl)) (fun _ _ _ h => h) (Or.inl ⟨by rfl, ?_⟩) ?_ ?_
              rotate_left
              · intro w'
                go_simp
                with_reducible rfl
              rotate_left
              · simp only [Act.put, List.setIfInBounds_toArray, List.set_cons_zero, List.set_cons_succ, i64_w, i32_w]
                rfl
              refine pure_ (i := 12) (N := some 56) (v := ?_) (a' := ?_) #[true, true, true, true, true, true, true, true, true, true, true, true, true, false, false, false] rfl rfl (any_of HT_.out (by kernel_rfl)) (fun _ _ _ h => h) (Or.inl ⟨by rfl, ?_⟩) ?_ ?_
              rotate_left
              · intro w'
                go_simp
                with_reducible rfl
              rotate_left
              · simp only [Act.put, List.setIfInBounds_toArray, List.set_cons_zero, List.set_cons_succ, i64_w, i32_w]
                rfl
              refine pure_ (i := 13) (N := some 57) (v := ?_) (a' := ?_) #[true, true, true, true, true, true, true, true, true, true, true, true, true, true, false, false] rfl rfl (any_of HT_.out (by kernel_rfl)) (fun _ _ _ h => h) (Or.inl ⟨by rfl, ?_⟩) ?_ ?_
              rotate_left
              · intro w'
                go_simp
                with_reducible rfl
              rotate_left
              · simp only [Act.put, List.setIfInBounds_toArray, List.set_cons_zero, List.set_cons_succ, i64_w, i32_w]
                rfl
              refine pure_ (i := 14) (N := some 58) (v := ?_) (a' := ?_) #[true, true, true, true, true, true, true, true, true, true, true, true, true, true, true, false] rfl rfl (any_of HT_.out (by kernel_rfl)) (fun _ _ _ h => h) (Or.inl ⟨by rfl, ?_⟩) ?_ ?_
              rotate_left
              · intro w'
                go_simp
                with_reducible rfl
              rotate_left
              · simp only [Act.put, List.setIfInBounds_toArray, List.set_cons_zero, List.set_cons_succ, i64_w, i32_w]
                rfl
              refine last_ (i := 15) (N := none) #[true, true, true, true, true, true, true, true, true, true, true, true, true, true, true, true] rfl rfl (one_of HT_.out (by kernel_rfl)) (by decide) (fun K hK => ?_)
              have hs20 : w19.cell? ⟨gb188, 4, none⟩ = some (.int .i64 a0_4) := (blk_cell BK188.out 4).trans rfl
              have hfs20 := blk_frozen BK188.out 4
              have hns20_1 := NB189_188.out
              have hms20_1 := NB188_189.out
              refine skip_ (w1 := ?_) (by rfl) rfl ?_ ?_
              rotate_left
              · go_simp
                rfl
              refine hK.out _ _ ?_
              clear hK K
              refine done_ (done_of HT_.out (by kernel_rfl)) ?_
              have hcz21_0 : w19.cell? ⟨gb188, 0, none⟩ = some (.int .i64 (wrap64 ((wrap64 (Int.tmod (IntKind.u64.wrap (a0_0)) 1000000)) * (wrap64 (60 * (rd y190 (ji3))))))) := (blk_cell BK188.out 0).trans rfl
              have hcz21_1 : w19.cell? ⟨gb188, 1, none⟩ = some (.int .i64 (rd y190 (ji3))) := (blk_cell BK188.out 1).trans rfl
              have hcz21_2 : w19.cell? ⟨gb188, 2, none⟩ = some (.int .i64 (rd y190 (ji6))) := (blk_cell BK188.out 2).trans rfl
              have hcz21_3 : w19.cell? ⟨gb188, 3, none⟩ = some (.int .i64 (wrap64 (Int.tmod (IntKind.u64.wrap (a0_3)) (IntKind.u64.wrap (wrap64 (a1 + 1)))))) := (blk_cell BK188.out 3).trans rfl
              have hcz21_4 : w19.cell? ⟨gb188, 4, none⟩ = some (.int .i64 a0_4) := (blk_cell BK188.out 4).trans rfl
              have hfz21_0 := blk_frozen BK188.out 0
              have hfz21_1 := blk_frozen BK188.out 1
              have hfz21_2 := blk_frozen BK188.out 2
              have hfz21_3 := blk_frozen BK188.out 3
              have hfz21_4 := blk_frozen BK188.out 4
              have hcz22_0 : w19.cell? ⟨gb189, 0, none⟩ = some (.int .i64 0) := (blk_cell BK189.out 0).trans rfl
              have hcz22_1 : w19.cell? ⟨gb189, 1, none⟩ = some (.int .i64 0) := (blk_cell BK189.out 1).trans rfl
              have hcz22_2 : w19.cell? ⟨gb189, 2, none⟩ = some (.int .i64 0) := (blk_cell BK189.out 2).trans rfl
              have hcz22_3 : w19.cell? ⟨gb189, 3, none⟩ = some (.int .i64 0) := (blk_cell BK189.out 3).trans rfl
              have hcz22_4 : w19.cell? ⟨gb189, 4, none⟩ = some (.int .i64 0) := (blk_cell BK189.out 4).trans rfl
              have hfz22_0 := blk_frozen BK189.out 0
              have hfz22_1 := blk_frozen BK189.out 1
              have hfz22_2 := blk_frozen BK189.out 2
              have hfz22_3 := blk_frozen BK189.out 3
              have hfz22_4 := blk_frozen BK189.out 4
              try go_wp2
              refine bodyPost_ret (results_cell_row rfl _ _ gb189 82 #[.int .i64 (wrap64 ((wrap64 (Int.tmod (IntKind.u64.wrap (a0_0)) 1000000)) * (wrap64 (60 * (rd y190 (ji3)))))), .int .i64 (rd y190 (ji3)), .int .i64 (rd y190 (ji6)), .int .i64 (wrap64 (Int.tmod (IntKind.u64.wrap (a0_3)) (IntKind.u64.wrap (wrap64 (a1 + 1))))), .int .i64 (wrap64 ((wrap64 (Int.tmod (IntKind.u64.wrap (a0_3)) (IntKind.u64.wrap (wrap64 (a1 + 1))))) + (wrap64 (Int.tmod (IntKind.u64.wrap (a0_4)) (IntKind.u64.wrap (wrap64 ((wrap64 (a1 + 1)) - (wrap64 (Int.tmod (IntKind.u64.wrap (a0_3)) (IntKind.u64.wrap (wrap64 (a1 + 1))))))))))))] (0, 0) _ rfl (by (with_reducible repeat (first | refine blk_drewN ?_ _ | refine blk_drew ?_ | refine blk_alloc ?_ _)); refine blk_put (cs := #[.int .i64 (wrap64 ((wrap64 (Int.tmod (IntKind.u64.wrap (a0_0)) 1000000)) * (wrap64 (60 * (rd y190 (ji3)))))), .int .i64 (rd y190 (ji3)), .int .i64 (rd y190 (ji6)), .int .i64 (wrap64 (Int.tmod (IntKind.u64.wrap (a0_3)) (IntKind.u64.wrap (wrap64 (a1 + 1))))), .int .i64 0]) ?_ 4 _ rfl; (with_reducible repeat (first | refine blk_drewN ?_ _ | refine blk_drew ?_ | refine blk_alloc ?_ _)); refine blk_put (cs := #[.int .i64 (wrap64 ((wrap64 (Int.tmod (IntKind.u64.wrap (a0_0)) 1000000)) * (wrap64 (60 * (rd y190 (ji3)))))), .int .i64 (rd y190 (ji3)), .int .i64 (rd y190 (ji6)), .int .i64 0, .int .i64 0]) ?_ 3 _ rfl; (with_reducible repeat (first | refine blk_drewN ?_ _ | refine blk_drew ?_ | refine blk_alloc ?_ _)); refine blk_put (cs := #[.int .i64 (wrap64 ((wrap64 (Int.tmod (IntKind.u64.wrap (a0_0)) 1000000)) * (wrap64 (60 * (rd y190 (ji3)))))), .int .i64 (rd y190 (ji3)), .int .i64 0, .int .i64 0, .int .i64 0]) ?_ 2 _ rfl; (with_reducible repeat (first | refine blk_drewN ?_ _ | refine blk_drew ?_ | refine blk_alloc ?_ _)); refine blk_put (cs := #[.int .i64 (wrap64 ((wrap64 (Int.tmod (IntKind.u64.wrap (a0_0)) 1000000)) * (wrap64 (60 * (rd y190 (ji3)))))), .int .i64 0, .int .i64 0, .int .i64 0, .int .i64 0]) ?_ 1 _ rfl; (with_reducible repeat (first | refine blk_drewN ?_ _ | refine blk_drew ?_ | refine blk_alloc ?_ _)); refine blk_put (cs := #[.int .i64 0, .int .i64 0, .int .i64 0, .int .i64 0, .int .i64 0]) ?_ 0 _ rfl; (with_reducible repeat (first | refine blk_drewN ?_ _ | refine blk_drew ?_ | refine blk_alloc ?_ _)); refine blk_far ?_ NB189_188.out _; (with_reducible repeat (first | refine blk_drewN ?_ _ | refine blk_drew ?_ | refine blk_alloc ?_ _)); exact BK189.out) Try.underlying82 rfl (by kernel_rfl)) rfl ?_
              exact ⟨by first | rfl | (simp [errW_none, errW_some] <;> rfl) | (simp only [← hji3, ← hji6]; first | rfl | (simp [errW_none, errW_some] <;> rfl)) | (simp [*, errW_none, errW_some] <;> rfl), by repeat (first | (with_reducible first | exact HB.out | apply below_alloc | apply pw_below_drewN | apply below_drew1 | refine below_set ?_ GE188.out | refine below_set ?_ GE189.out) | exact HB.out)⟩
        · rw [if_neg c8] at H
          exact absurd H (by simp)
      · rw [if_neg c7] at H
        exact absurd H (by simp)
    · rw [if_neg c5] at H
      exact absurd H (by simp)
  · rw [if_neg c4] at H
    exact absurd H (by simp)

end Go.Proofs.Ytapimggcnneabaa.PD
