-- Written by a program of this session for this claim (wip/print2.sh). Lean checks it.
import Derived.Test.YthejabcfbbmkeaaPBx0
import Derived.Test.YthejabcfbbmkeaaPBx1
import Derived.Test.YthejabcfbbmkeaaPBx2
import Derived.Test.YthejabcfbbmkeaaPBx4
import Derived.Test.YthejabcfbbmkeaaPBx5
import Derived.Test.YthejabcfbbmkeaaPBx6
import Derived.Test.YthejabcfbbmkeaaPBx8
namespace Go.Proofs.Ythejabcfbbmkeaa.PB
open Go.Proofs.YthejabcfbbmkeaaW.PrintWords
attribute [local go_sem high] fx_eql fx_neq fx_lss fx_leq fx_gtr fx_geq fx_add fx_sub fx_mul fx_neg fx_toint cxx_add cxx_sub cxx_mul cxx_eql cxx_neq cxx_pick st_float st_complex
open Go.RowKit Go.Proofs.YthejabcfbbmkeaaW.PrintWords Go.Proofs.YthejabcfbbmkeaaW.PrintLast Go.Proofs.YthejabcfbbmkeaaW.PrintMore
attribute [local go_sem] max2_int min2_int max_two min_two max_three min_three max_four min_four   -- for this text's walks alone
set_option linter.unusedVariables false
set_option linter.unusedSimpArgs false

attribute [local go_sem high] eqA35
/-! ### pylonlaw17_BlockOne: function 7 -/
def pylonlaw17_BlockOne.j0 : Nat → Int → Int → Int → Int → Int → Bool → Option (Bool)
  | 0, _, _, _, _, _, _ => none
  | k + 1, x5, x6, x7, x8, x9, x50 => if x50 = true then (if x6 = 5 then (some (x5 == 0)) else (some false)) else (if x6 = 0 then (if x5 = x9 then (if x8 = 5 then (if x7 = 0 then (some true) else (if x8 = 0 then (if (wrap64 (x5 + x7)) = 0 then (some true) else (some ((wrap64 (x5 + x7)) == 1))) else (some false))) else (if x8 = 0 then (if (wrap64 (x5 + x7)) = 0 then (some true) else (some ((wrap64 (x5 + x7)) == 1))) else (some false))) else (some false)) else (some false))
def pylonlaw17_BlockOne.f (k : Nat) (a0 : Int) (a1 : Int) : Option (Bool) := (pylonlaw17_awake.f k).bind fun t306 => (if t306 = true then ((pylonlaw17_energy.f a1).bind fun t307 => ((block_Price.f k (([(⟨0, Int.tmod a0 10000001⟩ : S35)] : List (S35))) (Int.tmod t307 1000000000000)).bind fun bt311 => ((block_Price.f k (([(⟨0, wrap64 (-(Int.tmod a0 10000001))⟩ : S35)] : List (S35))) (Int.tmod t307 1000000000000)).bind fun bt316 => ((pylonref01_MulDiv.f k (Int.tmod t307 1000000000000) (Int.tmod a0 10000001) 1000).bind fun bt318 => (if bt318.2 = 0 then (if bt318.1 > 1000000000000000 then (pylonlaw17_BlockOne.j0 k bt311.1 bt311.2 bt316.1 bt316.2 bt318.1 true) else (pylonlaw17_BlockOne.j0 k bt311.1 bt311.2 bt316.1 bt316.2 bt318.1 (decide (bt318.1 < (-1000000000000000))))) else (pylonlaw17_BlockOne.j0 k bt311.1 bt311.2 bt316.1 bt316.2 bt318.1 true)))))) else (some false))
theorem pylonlaw17_BlockOne.mono_l : ∀ k, (∀ y0 y1 y2 y3 y4 y5, LeO (pylonlaw17_BlockOne.j0 k y0 y1 y2 y3 y4 y5) (pylonlaw17_BlockOne.j0 (k + 1) y0 y1 y2 y3 y4 y5))
  | 0 => fun _ _ _ _ _ _ r h => by simp [pylonlaw17_BlockOne.j0] at h
  | k + 1 => by
    have ih0 := pylonlaw17_BlockOne.mono_l k
    · intro y0 y1 y2 y3 y4 y5
      unfold pylonlaw17_BlockOne.j0
      repeat' first
      | (with_reducible exact ih0 _ _ _ _ _ _)
      | (with_reducible exact block_Price.mono _ _ _)
      | (with_reducible exact pylonlaw17_awake.mono _)
      | (with_reducible exact pylonref01_MulDiv.mono _ _ _ _)
      | (with_reducible exact LeO.refl _)
      | (with_reducible exact LeO.none _)
      | (with_reducible refine LeO.ite ?_ ?_)
      | (with_reducible refine LeO.bind ?_ (fun _ => ?_))
      | exact ih0 _ _ _ _ _ _
      | exact block_Price.mono _ _ _
      | exact pylonlaw17_awake.mono _
      | exact pylonref01_MulDiv.mono _ _ _ _
      | exact LeO.none _
      | refine LeO.ite ?_ ?_
      | refine LeO.bind ?_ (fun _ => ?_)
theorem pylonlaw17_BlockOne.mono : ∀ a0 a1 k, LeO (pylonlaw17_BlockOne.f k a0 a1) (pylonlaw17_BlockOne.f (k + 1) a0 a1) := by
  intro a0 a1 k
  have ih0 := pylonlaw17_BlockOne.mono_l k
  unfold pylonlaw17_BlockOne.f
  repeat' first
      | (with_reducible exact ih0 _ _ _ _ _ _)
      | (with_reducible exact block_Price.mono _ _ _)
      | (with_reducible exact pylonlaw17_awake.mono _)
      | (with_reducible exact pylonref01_MulDiv.mono _ _ _ _)
      | (with_reducible exact LeO.refl _)
      | (with_reducible exact LeO.none _)
      | (with_reducible refine LeO.ite ?_ ?_)
      | (with_reducible refine LeO.bind ?_ (fun _ => ?_))
      | exact ih0 _ _ _ _ _ _
      | exact block_Price.mono _ _ _
      | exact pylonlaw17_awake.mono _
      | exact pylonref01_MulDiv.mono _ _ _ _
      | exact LeO.none _
      | refine LeO.ite ?_ ?_
      | refine LeO.bind ?_ (fun _ => ?_)
set_option maxHeartbeats 8000000 in
set_option maxRecDepth 100000 in
theorem pylonlaw17_BlockOne.calls (k : Nat) (a0 : Int) (a1 : Int) (r : Bool) (w : World) (h : pylonlaw17_BlockOne.f k a0 a1 = some r) :
    Calls Try.prog 7 #[.int .i64 a0, .int .i64 a1] w fun e w' => e = .returned (.bool r) ∧ Below w.heap.size w w' := by
  have hu35 := Try.underlying35
  have HB := Aside0.mk (Below.refl w.heap.size w)
  have H : ((pylonlaw17_awake.f k).bind fun t306 => (if t306 = true then ((pylonlaw17_energy.f a1).bind fun t307 => ((block_Price.f k (([(⟨0, Int.tmod a0 10000001⟩ : S35)] : List (S35))) (Int.tmod t307 1000000000000)).bind fun bt311 => ((block_Price.f k (([(⟨0, wrap64 (-(Int.tmod a0 10000001))⟩ : S35)] : List (S35))) (Int.tmod t307 1000000000000)).bind fun bt316 => ((pylonref01_MulDiv.f k (Int.tmod t307 1000000000000) (Int.tmod a0 10000001) 1000).bind fun bt318 => (if bt318.2 = 0 then (if bt318.1 > 1000000000000000 then (pylonlaw17_BlockOne.j0 k bt311.1 bt311.2 bt316.1 bt316.2 bt318.1 true) else (pylonlaw17_BlockOne.j0 k bt311.1 bt311.2 bt316.1 bt316.2 bt318.1 (decide (bt318.1 < (-1000000000000000))))) else (pylonlaw17_BlockOne.j0 k bt311.1 bt311.2 bt316.1 bt316.2 bt318.1 true)))))) else (some false))) = some r := h
  clear h
  replace H := Option.bind_eq_some_iff.mp H
  obtain ⟨t306, A30, H⟩ := H
  replace H : (if t306 = true then ((pylonlaw17_energy.f a1).bind fun t307 => ((block_Price.f k (([(⟨0, Int.tmod a0 10000001⟩ : S35)] : List (S35))) (Int.tmod t307 1000000000000)).bind fun bt311 => ((block_Price.f k (([(⟨0, wrap64 (-(Int.tmod a0 10000001))⟩ : S35)] : List (S35))) (Int.tmod t307 1000000000000)).bind fun bt316 => ((pylonref01_MulDiv.f k (Int.tmod t307 1000000000000) (Int.tmod a0 10000001) 1000).bind fun bt318 => (if bt318.2 = 0 then (if bt318.1 > 1000000000000000 then (pylonlaw17_BlockOne.j0 k bt311.1 bt311.2 bt316.1 bt316.2 bt318.1 true) else (pylonlaw17_BlockOne.j0 k bt311.1 bt311.2 bt316.1 bt316.2 bt318.1 (decide (bt318.1 < (-1000000000000000))))) else (pylonlaw17_BlockOne.j0 k bt311.1 bt311.2 bt316.1 bt316.2 bt318.1 true)))))) else (some false)) = some r := H
  have A3 := Aside0.mk A30
  clear A30
  by_cases c4 : t306 = true
  · subst c4
    have H1 : ((pylonlaw17_energy.f a1).bind fun t307 => ((block_Price.f k (([(⟨0, Int.tmod a0 10000001⟩ : S35)] : List (S35))) (Int.tmod t307 1000000000000)).bind fun bt311 => ((block_Price.f k (([(⟨0, wrap64 (-(Int.tmod a0 10000001))⟩ : S35)] : List (S35))) (Int.tmod t307 1000000000000)).bind fun bt316 => ((pylonref01_MulDiv.f k (Int.tmod t307 1000000000000) (Int.tmod a0 10000001) 1000).bind fun bt318 => (if bt318.2 = 0 then (if bt318.1 > 1000000000000000 then (pylonlaw17_BlockOne.j0 k bt311.1 bt311.2 bt316.1 bt316.2 bt318.1 true) else (pylonlaw17_BlockOne.j0 k bt311.1 bt311.2 bt316.1 bt316.2 bt318.1 (decide (bt318.1 < (-1000000000000000))))) else (pylonlaw17_BlockOne.j0 k bt311.1 bt311.2 bt316.1 bt316.2 bt318.1 true)))))) = some r := by rw [if_pos rfl] at H; exact H
    clear H
    have H := H1
    clear H1
    replace H := Option.bind_eq_some_iff.mp H
    obtain ⟨t307, A50, H⟩ := H
    replace H : ((block_Price.f k (([(⟨0, Int.tmod a0 10000001⟩ : S35)] : List (S35))) (Int.tmod t307 1000000000000)).bind fun bt311 => ((block_Price.f k (([(⟨0, wrap64 (-(Int.tmod a0 10000001))⟩ : S35)] : List (S35))) (Int.tmod t307 1000000000000)).bind fun bt316 => ((pylonref01_MulDiv.f k (Int.tmod t307 1000000000000) (Int.tmod a0 10000001) 1000).bind fun bt318 => (if bt318.2 = 0 then (if bt318.1 > 1000000000000000 then (pylonlaw17_BlockOne.j0 k bt311.1 bt311.2 bt316.1 bt316.2 bt318.1 true) else (pylonlaw17_BlockOne.j0 k bt311.1 bt311.2 bt316.1 bt316.2 bt318.1 (decide (bt318.1 < (-1000000000000000))))) else (pylonlaw17_BlockOne.j0 k bt311.1 bt311.2 bt316.1 bt316.2 bt318.1 true))))) = some r := H
    have A5 := Aside0.mk A50
    clear A50
    obtain ⟨y308, hy308⟩ : ∃ y_ : List (S35), y_ = (([(⟨0, Int.tmod a0 10000001⟩ : S35)] : List (S35))) := ⟨_, rfl⟩
    replace H : ((block_Price.f k y308 (Int.tmod t307 1000000000000)).bind fun bt311 => ((block_Price.f k (([(⟨0, wrap64 (-(Int.tmod a0 10000001))⟩ : S35)] : List (S35))) (Int.tmod t307 1000000000000)).bind fun bt316 => ((pylonref01_MulDiv.f k (Int.tmod t307 1000000000000) (Int.tmod a0 10000001) 1000).bind fun bt318 => (if bt318.2 = 0 then (if bt318.1 > 1000000000000000 then (pylonlaw17_BlockOne.j0 k bt311.1 bt311.2 bt316.1 bt316.2 bt318.1 true) else (pylonlaw17_BlockOne.j0 k bt311.1 bt311.2 bt316.1 bt316.2 bt318.1 (decide (bt318.1 < (-1000000000000000))))) else (pylonlaw17_BlockOne.j0 k bt311.1 bt311.2 bt316.1 bt316.2 bt318.1 true))))) = some r := by first | (rw [hy308]; with_reducible exact H) | (have H2_ := (Option.bind_some _ _).symm.trans H; rw [hy308]; with_reducible exact H2_) | (have H2_ := (Option.bind_some _ _).symm.trans H; with_reducible exact H2_) | with_reducible exact H | (rw [hy308]; exact H) | exact H
    have Ny308 := Aside0.mk hy308
    clear hy308
    replace H := Option.bind_eq_some_iff.mp H
    obtain ⟨⟨t311, t312⟩, A60, H⟩ := H
    replace H : ((block_Price.f k (([(⟨0, wrap64 (-(Int.tmod a0 10000001))⟩ : S35)] : List (S35))) (Int.tmod t307 1000000000000)).bind fun bt316 => ((pylonref01_MulDiv.f k (Int.tmod t307 1000000000000) (Int.tmod a0 10000001) 1000).bind fun bt318 => (if bt318.2 = 0 then (if bt318.1 > 1000000000000000 then (pylonlaw17_BlockOne.j0 k t311 t312 bt316.1 bt316.2 bt318.1 true) else (pylonlaw17_BlockOne.j0 k t311 t312 bt316.1 bt316.2 bt318.1 (decide (bt318.1 < (-1000000000000000))))) else (pylonlaw17_BlockOne.j0 k t311 t312 bt316.1 bt316.2 bt318.1 true)))) = some r := H
    have A6 := Aside0.mk A60
    clear A60
    obtain ⟨y313, hy313⟩ : ∃ y_ : List (S35), y_ = (([(⟨0, wrap64 (-(Int.tmod a0 10000001))⟩ : S35)] : List (S35))) := ⟨_, rfl⟩
    replace H : ((block_Price.f k y313 (Int.tmod t307 1000000000000)).bind fun bt316 => ((pylonref01_MulDiv.f k (Int.tmod t307 1000000000000) (Int.tmod a0 10000001) 1000).bind fun bt318 => (if bt318.2 = 0 then (if bt318.1 > 1000000000000000 then (pylonlaw17_BlockOne.j0 k t311 t312 bt316.1 bt316.2 bt318.1 true) else (pylonlaw17_BlockOne.j0 k t311 t312 bt316.1 bt316.2 bt318.1 (decide (bt318.1 < (-1000000000000000))))) else (pylonlaw17_BlockOne.j0 k t311 t312 bt316.1 bt316.2 bt318.1 true)))) = some r := by first | (rw [hy313]; with_reducible exact H) | (have H2_ := (Option.bind_some _ _).symm.trans H; rw [hy313]; with_reducible exact H2_) | (have H2_ := (Option.bind_some _ _).symm.trans H; with_reducible exact H2_) | with_reducible exact H | (rw [hy313]; exact H) | exact H
    have Ny313 := Aside0.mk hy313
    clear hy313
    replace H := Option.bind_eq_some_iff.mp H
    obtain ⟨⟨t316, t317⟩, A70, H⟩ := H
    replace H : ((pylonref01_MulDiv.f k (Int.tmod t307 1000000000000) (Int.tmod a0 10000001) 1000).bind fun bt318 => (if bt318.2 = 0 then (if bt318.1 > 1000000000000000 then (pylonlaw17_BlockOne.j0 k t311 t312 t316 t317 bt318.1 true) else (pylonlaw17_BlockOne.j0 k t311 t312 t316 t317 bt318.1 (decide (bt318.1 < (-1000000000000000))))) else (pylonlaw17_BlockOne.j0 k t311 t312 t316 t317 bt318.1 true))) = some r := H
    have A7 := Aside0.mk A70
    clear A70
    replace H := Option.bind_eq_some_iff.mp H
    obtain ⟨⟨t318, t319⟩, A80, H⟩ := H
    replace H : (if t319 = 0 then (if t318 > 1000000000000000 then (pylonlaw17_BlockOne.j0 k t311 t312 t316 t317 t318 true) else (pylonlaw17_BlockOne.j0 k t311 t312 t316 t317 t318 (decide (t318 < (-1000000000000000))))) else (pylonlaw17_BlockOne.j0 k t311 t312 t316 t317 t318 true)) = some r := H
    have A8 := Aside0.mk A80
    clear A80
    have HC9 := Aside0.mk H
    clear H
    go_enter Try.func7, Try.ntmps7
    go_upto_region 8 with (first | ((with_reducible refine gate_callee (f := 9) rfl ?_); refine goesL_ (some 11) rfl rfl Try.func9 (by kernel_rfl) rfl #[] rfl (by (try simp only [List.map_toArray, List.map_cons, List.map_nil]); first | done | rfl | (simp only [List.length_drop, List.length_take]; rfl)) ?_; (with_reducible refine (pylonlaw17_awake.calls k  true _ A3.out).mono ?_); rintro e w10 ⟨rfl, hb⟩; refine ⟨_, rfl, ?_⟩; have n0_ := Aside0.mk (below_step (by repeat (first | (with_reducible first | exact HB.out | apply below_alloc | apply pw_below_drewN | apply below_drew1) | exact HB.out)) hb); clear HB; have HB := n0_; clear n0_; (try clear hb); (try clear hb2); (try clear hk); (try clear hi)) | ((with_reducible refine gate_callee (f := 17) rfl ?_); refine goesL_ (some 16) rfl rfl Try.func17 (by kernel_rfl) rfl #[.int .i64 a1] rfl (by (try simp only [List.map_toArray, List.map_cons, List.map_nil]); first | done | rfl | (simp only [List.length_drop, List.length_take]; rfl)) ?_; (with_reducible refine (pylonlaw17_energy.calls a1 t307 _ A5.out).mono ?_); rintro e w' ⟨rfl, ⟨nd, rfl⟩⟩; refine ⟨_, rfl, ?_⟩) | ((with_reducible refine gate_dst (N := 21) rfl ?_); refine Kd.R_lit k35 _ 35 ?hg (N := 21) ?hd (xs := ([(⟨0, Int.tmod a0 10000001⟩ : S35)] : List (S35))) (inner := [.int .i64 0, .int .i64 (Int.tmod a0 10000001)]) (ok := fun _ => True) (okp := fun _ => True) ?hr ?hp (fun _ hk => hk) trivial (Below.refl _ _) (Nat.le_refl _) (by simp) ?_; (case hd => rfl); (case hg => rfl); (case hr => first | (go_simp; done) | (go_simp; rfl)); (case hp => exact (Reps.c2 (show Kd.M k35 _ _ _ (⟨0, Int.tmod a0 10000001⟩ : S35) [.int .i64 0, .int .i64 (Int.tmod a0 10000001)] from (k35_mkM _ _ _ (⟨0, Int.tmod a0 10000001⟩ : S35) )) (Reps.none _ _))); intro v309 w11 ho12 hb hg_ hnew_; clear hg_ hnew_; (first | rw [← Ny308.out] at ho12 | (simp only [Int.reduceToNat] at ho12; rw [← Ny308.out] at ho12)); have n0_ := Aside0.mk (Kd.R_lower ho12 (below_size (by repeat (first | (with_reducible first | exact HB.out | apply below_alloc | apply pw_below_drewN | apply below_drew1) | exact HB.out)))); have n1_ := Aside0.mk (below_step (by repeat (first | (with_reducible first | exact HB.out | apply below_alloc | apply pw_below_drewN | apply below_drew1) | exact HB.out)) hb); clear HB; have HO310 := n0_; have HB := n1_; clear n0_ n1_; clear hb ho12; obtain ⟨Ao13, co13, eo13⟩ := Kd.R_slice HO310.out; subst eo13) | ((with_reducible refine gate_callee (f := 13) rfl ?_); refine goesL_ (some 23) rfl rfl Try.func13 (by kernel_rfl) rfl #[.slice Ao13 y308.length co13, .int .i64 (Int.tmod t307 1000000000000)] rfl (by (try simp only [List.map_toArray, List.map_cons, List.map_nil]); first | done | rfl | (simp only [List.length_drop, List.length_take]; rfl)) ?_; (with_reducible refine (block_Price.calls k _ _ y308 (Int.tmod t307 1000000000000) t311 t312 _ ?side1 ?side2 A6.out).mono ?_); (case side1 => repeat (first | exact (Kd.R_reads' HO310.out).2.2 | (with_reducible refine Kd.C_alloc ?_ _) | (with_reducible refine Kd.C_drewN ?_ _) | (with_reducible refine Kd.C_drew ?_))); (case side2 => exact (Kd.R_reads' HO310.out).2.1); rintro e w14 ⟨rfl, hb⟩; refine ⟨_, rfl, ?_⟩; have n0_ := Aside0.mk (Kd.R_below (by (with_reducible repeat (first | apply Kd.R_alloc | apply Kd.R_drewN | apply Kd.R_drew)); exact HO310.out) hb); have n1_ := Aside0.mk (below_step (by repeat (first | (with_reducible first | exact HB.out | apply below_alloc | apply pw_below_drewN | apply below_drew1) | exact HB.out)) hb); clear HO310; clear HB; have HO310 := n0_; have HB := n1_; clear n0_ n1_; (try clear hb); (try clear hb2); (try clear hk); (try clear hi)) | ((with_reducible refine gate_dst (N := 30) rfl ?_); refine Kd.R_lit k35 _ 35 ?hg (N := 30) ?hd (xs := ([(⟨0, wrap64 (-(Int.tmod a0 10000001))⟩ : S35)] : List (S35))) (inner := [.int .i64 0, .int .i64 (wrap64 (-(Int.tmod a0 10000001)))]) (ok := fun _ => True) (okp := fun _ => True) ?hr ?hp (fun _ hk => hk) trivial (Below.refl _ _) (Nat.le_refl _) (by simp) ?_; (case hd => rfl); (case hg => rfl); (case hr => first | (go_simp; done) | (go_simp; rfl)); (case hp => exact (Reps.c2 (show Kd.M k35 _ _ _ (⟨0, wrap64 (-(Int.tmod a0 10000001))⟩ : S35) [.int .i64 0, .int .i64 (wrap64 (-(Int.tmod a0 10000001)))] from (k35_mkM _ _ _ (⟨0, wrap64 (-(Int.tmod a0 10000001))⟩ : S35) )) (Reps.none _ _))); intro v314 w15 ho16 hb hg_ hnew_; clear hg_ hnew_; (first | rw [← Ny313.out] at ho16 | (simp only [Int.reduceToNat] at ho16; rw [← Ny313.out] at ho16)); have n0_ := Aside0.mk (Kd.R_elder' (by (with_reducible repeat (first | apply Kd.R_alloc | apply Kd.R_drewN | apply Kd.R_drew)); exact HO310.out) (Kd.R_base ho16) hb); have n1_ := Aside0.mk (Kd.R_lower (Kd.R_new' ho16 (Kd.R_lt (by (with_reducible repeat (first | apply Kd.R_alloc | apply Kd.R_drewN | apply Kd.R_drew)); exact HO310.out))) (below_size (by repeat (first | (with_reducible first | exact HB.out | apply below_alloc | apply pw_below_drewN | apply below_drew1) | exact HB.out)))); have n2_ := Aside0.mk (below_step (by repeat (first | (with_reducible first | exact HB.out | apply below_alloc | apply pw_below_drewN | apply below_drew1) | exact HB.out)) hb); clear HO310; clear HB; have HO310 := n0_; have HO315 := n1_; have HB := n2_; clear n0_ n1_ n2_; clear hb ho16; obtain ⟨Ao17, co17, eo17⟩ := Kd.R_slice HO315.out; subst eo17) | ((with_reducible refine gate_callee (f := 13) rfl ?_); refine goesL_ (some 32) rfl rfl Try.func13 (by kernel_rfl) rfl #[.slice Ao17 y313.length co17, .int .i64 (Int.tmod t307 1000000000000)] rfl (by (try simp only [List.map_toArray, List.map_cons, List.map_nil]); first | done | rfl | (simp only [List.length_drop, List.length_take]; rfl)) ?_; (with_reducible refine (block_Price.calls k _ _ y313 (Int.tmod t307 1000000000000) t316 t317 _ ?side1 ?side2 A7.out).mono ?_); (case side1 => repeat (first | exact (Kd.R_reads' HO315.out).2.2 | (with_reducible refine Kd.C_alloc ?_ _) | (with_reducible refine Kd.C_drewN ?_ _) | (with_reducible refine Kd.C_drew ?_))); (case side2 => exact (Kd.R_reads' HO315.out).2.1); rintro e w18 ⟨rfl, hb⟩; refine ⟨_, rfl, ?_⟩; have n0_ := Aside0.mk (Kd.R_below (by (with_reducible repeat (first | apply Kd.R_alloc | apply Kd.R_drewN | apply Kd.R_drew)); exact HO310.out) hb); have n1_ := Aside0.mk (Kd.R_below (by (with_reducible repeat (first | apply Kd.R_alloc | apply Kd.R_drewN | apply Kd.R_drew)); exact HO315.out) hb); have n2_ := Aside0.mk (below_step (by repeat (first | (with_reducible first | exact HB.out | apply below_alloc | apply pw_below_drewN | apply below_drew1) | exact HB.out)) hb); clear HO310; clear HO315; clear HB; have HO310 := n0_; have HO315 := n1_; have HB := n2_; clear n0_ n1_ n2_; (try clear hb); (try clear hb2); (try clear hk); (try clear hi)) | ((with_reducible refine gate_callee (f := 18) rfl ?_); refine goesL_ (some 38) rfl rfl Try.func18 (by kernel_rfl) rfl #[.int .i64 (Int.tmod t307 1000000000000), .int .i64 (Int.tmod a0 10000001), .int .i64 1000] rfl (by (try simp only [List.map_toArray, List.map_cons, List.map_nil]); first | done | rfl | (simp only [List.length_drop, List.length_take]; rfl)) ?_; (with_reducible refine (pylonref01_MulDiv.calls k (Int.tmod t307 1000000000000) (Int.tmod a0 10000001) 1000 t318 t319 _ A8.out).mono ?_); rintro e w' ⟨rfl, ⟨nd, rfl⟩⟩; refine ⟨_, rfl, ?_⟩))
    (try simp only [Act.put, List.setIfInBounds_toArray, List.set_cons_zero, List.set_cons_succ])
    go_cut [50] (fun v50 wc => ∃ (kq : Nat) (x50_8 : Bool), v50 = .bool x50_8 ∧ Aside0 (pylonlaw17_BlockOne.j0 kq t311 t312 t316 t317 t318 x50_8 = some r) ∧ Aside0 (kq ≤ k) ∧ Aside0 (Below w.heap.size w wc))
    case first =>
      have H := HC9.out
      clear HC9
      by_cases c19 : t319 = 0
      · rw [if_pos c19] at H
        have c19b0 : (t319 == 0) = true := beq_iff_eq.mpr c19
        have c19b1 : (t319 != 0) = false := bne_eq_false_iff_eq.mpr c19
        clear c19
        (first | rw [c19b0] | (simp only [i64_w, i32_w]; rw [c19b0]) | skip)
        by_cases c20 : t318 > 1000000000000000
        · rw [if_pos c20] at H
          have c20b0 : decide (1000000000000000 < t318) = true := decide_eq_true c20
          clear c20
          have H' := Aside0.mk H
          clear H
          go_wp2
          go_meet
          case rel => exact ⟨_, (true), (by first | rfl | (simp; done) | (simp [*]; done)), H', ⟨by first | omega | exact Nat.le_refl _⟩, ⟨by repeat (first | (with_reducible first | exact HB.out | apply below_alloc | apply pw_below_drewN | apply below_drew1) | exact HB.out)⟩⟩
        · rw [if_neg c20] at H
          have c20b0 : decide (1000000000000000 < t318) = false := decide_eq_false c20
          clear c20
          have H' := Aside0.mk H
          clear H
          go_wp2
          go_meet
          case rel => exact ⟨_, (decide (t318 < (-1000000000000000))), (by first | rfl | (simp; done) | (simp [*]; done) | (by_cases hdp0_ : t318 < (-1000000000000000) <;> simp [*] <;> done)), H', ⟨by first | omega | exact Nat.le_refl _⟩, ⟨by repeat (first | (with_reducible first | exact HB.out | apply below_alloc | apply pw_below_drewN | apply below_drew1) | exact HB.out)⟩⟩
      · rw [if_neg c19] at H
        have c19b0 : (t319 == 0) = false := beq_eq_false_iff_ne.mpr c19
        have c19b1 : (t319 != 0) = true := bne_iff_ne.mpr c19
        (first | rw [c19b0] | (simp only [i64_w, i32_w]; rw [c19b0]) | skip)
        have H' := Aside0.mk H
        clear H
        go_wp2
        go_meet
        case rel => exact ⟨_, (true), (by first | rfl | (simp; done) | (simp [*]; done)), H', ⟨by first | omega | exact Nat.le_refl _⟩, ⟨by repeat (first | (with_reducible first | exact HB.out | apply below_alloc | apply pw_below_drewN | apply below_drew1) | exact HB.out)⟩⟩
    case rest =>
      clear HC9
      try clear c1
      try clear c2
      try clear p2
      try clear c4
      try clear p6
      try clear c7
      try clear c9
      try clear c13
      try clear c17
      try clear c18
      try clear c19
      try clear c19b0
      try clear c19b1
      try clear c20
      try clear c20b0
      obtain ⟨kq, x50_8, rfl, HA, HJ8, HB⟩ := hcut
      cases kq with
      | zero => exact absurd HA.out (by simp [pylonlaw17_BlockOne.j0])
      | succ kj8 =>
        have H := HA.out
        clear HA
        simp only [pylonlaw17_BlockOne.j0] at H
        by_cases c21 : x50_8 = true
        · subst c21
          have H1 : (if t312 = 5 then (some (t311 == 0)) else (some false)) = some r := by rw [if_pos rfl] at H; exact H
          clear H
          have H := H1
          clear H1
          by_cases c22 : t312 = 5
          · rw [if_pos c22] at H
            have c22b0 : (t312 == 5) = true := beq_iff_eq.mpr c22
            have c22b1 : (t312 != 5) = false := bne_eq_false_iff_eq.mpr c22
            clear c22
            obtain rfl := Option.some.inj H
            go_wp2
            go_ret
            exact ⟨by first | rfl | (simp [errW_none, errW_some] <;> rfl) | (simp [*, errW_none, errW_some] <;> rfl), by repeat (first | (with_reducible first | exact HB.out | apply below_alloc | apply pw_below_drewN | apply below_drew1) | exact HB.out)⟩
          · rw [if_neg c22] at H
            have c22b0 : (t312 == 5) = false := beq_eq_false_iff_ne.mpr c22
            have c22b1 : (t312 != 5) = true := bne_iff_ne.mpr c22
            obtain rfl := Option.some.inj H
            go_wp2
            go_ret
            exact ⟨by first | rfl | (simp [errW_none, errW_some] <;> rfl) | (simp [*, errW_none, errW_some] <;> rfl), by repeat (first | (with_reducible first | exact HB.out | apply below_alloc | apply pw_below_drewN | apply below_drew1) | exact HB.out)⟩
        · replace c21 := Bool.eq_false_iff.mpr c21
          subst c21
          have H1 : (if t312 = 0 then (if t311 = t318 then (if t317 = 5 then (if t316 = 0 then (some true) else (if t317 = 0 then (if (wrap64 (t311 + t316)) = 0 then (some true) else (some ((wrap64 (t311 + t316)) == 1))) else (some false))) else (if t317 = 0 then (if (wrap64 (t311 + t316)) = 0 then (some true) else (some ((wrap64 (t311 + t316)) == 1))) else (some false))) else (some false)) else (some false)) = some r := by rw [if_neg (show ¬ (false = true) by decide)] at H; exact H
          clear H
          have H := H1
          clear H1
          by_cases c23 : t312 = 0
          · rw [if_pos c23] at H
            have c23b0 : (t312 == 0) = true := beq_iff_eq.mpr c23
            have c23b1 : (t312 != 0) = false := bne_eq_false_iff_eq.mpr c23
            clear c23
            by_cases c24 : t311 = t318
            · rw [if_pos c24] at H
              have c24b0 : (t311 == t318) = true := beq_iff_eq.mpr c24
              have c24b1 : (t311 != t318) = false := bne_eq_false_iff_eq.mpr c24
              clear c24
              by_cases c25 : t317 = 5
              · rw [if_pos c25] at H
                have c25b0 : (t317 == 5) = true := beq_iff_eq.mpr c25
                have c25b1 : (t317 != 5) = false := bne_eq_false_iff_eq.mpr c25
                clear c25
                by_cases c26 : t316 = 0
                · rw [if_pos c26] at H
                  have c26b0 : (t316 == 0) = true := beq_iff_eq.mpr c26
                  have c26b1 : (t316 != 0) = false := bne_eq_false_iff_eq.mpr c26
                  clear c26
                  obtain rfl := Option.some.inj H
                  go_wp2
                  go_ret
                  exact ⟨by first | rfl | (simp [errW_none, errW_some] <;> rfl) | (simp [*, errW_none, errW_some] <;> rfl), by repeat (first | (with_reducible first | exact HB.out | apply below_alloc | apply pw_below_drewN | apply below_drew1) | exact HB.out)⟩
                · rw [if_neg c26] at H
                  have c26b0 : (t316 == 0) = false := beq_eq_false_iff_ne.mpr c26
                  have c26b1 : (t316 != 0) = true := bne_iff_ne.mpr c26
                  by_cases c27 : t317 = 0
                  · rw [if_pos c27] at H
                    have c27b0 : (t317 == 0) = true := beq_iff_eq.mpr c27
                    have c27b1 : (t317 != 0) = false := bne_eq_false_iff_eq.mpr c27
                    clear c27
                    by_cases c28 : (wrap64 (t311 + t316)) = 0
                    · rw [if_pos c28] at H
                      have c28b0 : ((wrap64 (t311 + t316)) == 0) = true := beq_iff_eq.mpr c28
                      have c28b1 : ((wrap64 (t311 + t316)) != 0) = false := bne_eq_false_iff_eq.mpr c28
                      clear c28
                      obtain rfl := Option.some.inj H
                      go_wp2
                      go_ret
                      exact ⟨by first | rfl | (simp [errW_none, errW_some] <;> rfl) | (simp [*, errW_none, errW_some] <;> rfl), by repeat (first | (with_reducible first | exact HB.out | apply below_alloc | apply pw_below_drewN | apply below_drew1) | exact HB.out)⟩
                    · rw [if_neg c28] at H
                      have c28b0 : ((wrap64 (t311 + t316)) == 0) = false := beq_eq_false_iff_ne.mpr c28
                      have c28b1 : ((wrap64 (t311 + t316)) != 0) = true := bne_iff_ne.mpr c28
                      obtain rfl := Option.some.inj H
                      go_wp2
                      go_ret
                      exact ⟨by first | rfl | (simp [errW_none, errW_some] <;> rfl) | (simp [*, errW_none, errW_some] <;> rfl), by repeat (first | (with_reducible first | exact HB.out | apply below_alloc | apply pw_below_drewN | apply below_drew1) | exact HB.out)⟩
                  · rw [if_neg c27] at H
                    have c27b0 : (t317 == 0) = false := beq_eq_false_iff_ne.mpr c27
                    have c27b1 : (t317 != 0) = true := bne_iff_ne.mpr c27
                    obtain rfl := Option.some.inj H
                    go_wp2
                    go_ret
                    exact ⟨by first | rfl | (simp [errW_none, errW_some] <;> rfl) | (simp [*, errW_none, errW_some] <;> rfl), by repeat (first | (with_reducible first | exact HB.out | apply below_alloc | apply pw_below_drewN | apply below_drew1) | exact HB.out)⟩
              · rw [if_neg c25] at H
                have c25b0 : (t317 == 5) = false := beq_eq_false_iff_ne.mpr c25
                have c25b1 : (t317 != 5) = true := bne_iff_ne.mpr c25
                by_cases c29 : t317 = 0
                · rw [if_pos c29] at H
                  have c29b0 : (t317 == 0) = true := beq_iff_eq.mpr c29
                  have c29b1 : (t317 != 0) = false := bne_eq_false_iff_eq.mpr c29
                  clear c29
                  by_cases c30 : (wrap64 (t311 + t316)) = 0
                  · rw [if_pos c30] at H
                    have c30b0 : ((wrap64 (t311 + t316)) == 0) = true := beq_iff_eq.mpr c30
                    have c30b1 : ((wrap64 (t311 + t316)) != 0) = false := bne_eq_false_iff_eq.mpr c30
                    clear c30
                    obtain rfl := Option.some.inj H
                    go_wp2
                    go_ret
                    exact ⟨by first | rfl | (simp [errW_none, errW_some] <;> rfl) | (simp [*, errW_none, errW_some] <;> rfl), by repeat (first | (with_reducible first | exact HB.out | apply below_alloc | apply pw_below_drewN | apply below_drew1) | exact HB.out)⟩
                  · rw [if_neg c30] at H
                    have c30b0 : ((wrap64 (t311 + t316)) == 0) = false := beq_eq_false_iff_ne.mpr c30
                    have c30b1 : ((wrap64 (t311 + t316)) != 0) = true := bne_iff_ne.mpr c30
                    obtain rfl := Option.some.inj H
                    go_wp2
                    go_ret
                    exact ⟨by first | rfl | (simp [errW_none, errW_some] <;> rfl) | (simp [*, errW_none, errW_some] <;> rfl), by repeat (first | (with_reducible first | exact HB.out | apply below_alloc | apply pw_below_drewN | apply below_drew1) | exact HB.out)⟩
                · rw [if_neg c29] at H
                  have c29b0 : (t317 == 0) = false := beq_eq_false_iff_ne.mpr c29
                  have c29b1 : (t317 != 0) = true := bne_iff_ne.mpr c29
                  obtain rfl := Option.some.inj H
                  go_wp2
                  go_ret
                  exact ⟨by first | rfl | (simp [errW_none, errW_some] <;> rfl) | (simp [*, errW_none, errW_some] <;> rfl), by repeat (first | (with_reducible first | exact HB.out | apply below_alloc | apply pw_below_drewN | apply below_drew1) | exact HB.out)⟩
            · rw [if_neg c24] at H
              have c24b0 : (t311 == t318) = false := beq_eq_false_iff_ne.mpr c24
              have c24b1 : (t311 != t318) = true := bne_iff_ne.mpr c24
              obtain rfl := Option.some.inj H
              go_wp2
              go_ret
              exact ⟨by first | rfl | (simp [errW_none, errW_some] <;> rfl) | (simp [*, errW_none, errW_some] <;> rfl), by repeat (first | (with_reducible first | exact HB.out | apply below_alloc | apply pw_below_drewN | apply below_drew1) | exact HB.out)⟩
          · rw [if_neg c23] at H
            have c23b0 : (t312 == 0) = false := beq_eq_false_iff_ne.mpr c23
            have c23b1 : (t312 != 0) = true := bne_iff_ne.mpr c23
            obtain rfl := Option.some.inj H
            go_wp2
            go_ret
            exact ⟨by first | rfl | (simp [errW_none, errW_some] <;> rfl) | (simp [*, errW_none, errW_some] <;> rfl), by repeat (first | (with_reducible first | exact HB.out | apply below_alloc | apply pw_below_drewN | apply below_drew1) | exact HB.out)⟩
  · replace c4 := Bool.eq_false_iff.mpr c4
    subst c4
    have H1 : (some false) = some r := by rw [if_neg (show ¬ (false = true) by decide)] at H; exact H
    clear H
    have H := H1
    clear H1
    obtain rfl := Option.some.inj H
    go_enter Try.func7, Try.ntmps7
    go_wp2_with (first | ((with_reducible refine gate_callee (f := 9) rfl ?_); refine goesL_ (some 11) rfl rfl Try.func9 (by kernel_rfl) rfl #[] rfl (by (try simp only [List.map_toArray, List.map_cons, List.map_nil]); first | done | rfl | (simp only [List.length_drop, List.length_take]; rfl)) ?_; (with_reducible refine (pylonlaw17_awake.calls k  false _ A3.out).mono ?_); rintro e w31 ⟨rfl, hb⟩; refine ⟨_, rfl, ?_⟩; have n0_ := Aside0.mk (below_step (by repeat (first | (with_reducible first | exact HB.out | apply below_alloc | apply pw_below_drewN | apply below_drew1) | exact HB.out)) hb); clear HB; have HB := n0_; clear n0_; (try clear hb); (try clear hb2); (try clear hk); (try clear hi)))
    go_ret
    exact ⟨by first | rfl | (simp [errW_none, errW_some] <;> rfl) | (simp [*, errW_none, errW_some] <;> rfl), by repeat (first | (with_reducible first | exact HB.out | apply below_alloc | apply pw_below_drewN | apply below_drew1) | exact HB.out)⟩

/-- THE ONE PURE STATEMENT of pylonlaw17_BlockOne: yours. -/
def pylonlaw17_BlockOne.Pure : Prop := ∀ (a0 : Int) (a1 : Int), (Lit.int .i64 a0).wf = true → (Lit.int .i64 a1).wf = true → ∃ k, pylonlaw17_BlockOne.f k a0 a1 = some true
theorem pylonlaw17_BlockOne.walk (P : pylonlaw17_BlockOne.Pure) (a0 : Int) (a1 : Int) (w : World) (w0 : (Lit.int .i64 a0).wf = true) (w1 : (Lit.int .i64 a1).wf = true) :
    Calls Try.prog 7 #[.int .i64 a0, .int .i64 a1] w fun e w' => e = .returned (.bool true) ∧ Below w.heap.size w w' := by
  obtain ⟨k, h⟩ := P a0 a1 w0 w1
  refine (pylonlaw17_BlockOne.calls k a0 a1 true w h).mono ?_
  rintro e w' ⟨rfl, hd⟩
  exact ⟨rfl, hd⟩

/-! ### pylonref08_SameSteps: function 19 -/
def pylonref08_SameSteps.l0 : Nat → List (S35) → List (S35) → Int → Int → Option (Bool)
  | 0, _, _, _, _ => none
  | k + 1, x0, x1, x12, x13 => if x13 < x12 then (if 0 ≤ x13 then (if x13 < (x0.length : Int) then (if x13 < (x1.length : Int) then (if (!(((rd_T35 x0 x13).f0) == ((rd_T35 x1 x13).f0)) || (!(((rd_T35 x0 x13).f1) == ((rd_T35 x1 x13).f1)))) = true then (some false) else (pylonref08_SameSteps.l0 k x0 x1 x12 (wrap64 (x13 + 1)))) else (none)) else (none)) else (none)) else (some true)
def pylonref08_SameSteps.f (k : Nat) (l0 : List (S35)) (l1 : List (S35)) : Option (Bool) := if (l0.length : Int) = (l1.length : Int) then (pylonref08_SameSteps.l0 k l0 l1 (l0.length : Int) 0) else (some false)
theorem pylonref08_SameSteps.mono_l : ∀ k, (∀ y0 y1 y2 y3, LeO (pylonref08_SameSteps.l0 k y0 y1 y2 y3) (pylonref08_SameSteps.l0 (k + 1) y0 y1 y2 y3))
  | 0 => fun _ _ _ _ r h => by simp [pylonref08_SameSteps.l0] at h
  | k + 1 => by
    have ih0 := pylonref08_SameSteps.mono_l k
    · intro y0 y1 y2 y3
      unfold pylonref08_SameSteps.l0
      repeat' first
      | (with_reducible exact ih0 _ _ _ _)
      | (with_reducible exact LeO.refl _)
      | (with_reducible exact LeO.none _)
      | (with_reducible refine LeO.ite ?_ ?_)
      | (with_reducible refine LeO.bind ?_ (fun _ => ?_))
      | exact ih0 _ _ _ _
      | exact LeO.none _
      | refine LeO.ite ?_ ?_
      | refine LeO.bind ?_ (fun _ => ?_)
theorem pylonref08_SameSteps.mono : ∀ a0 a1 k, LeO (pylonref08_SameSteps.f k a0 a1) (pylonref08_SameSteps.f (k + 1) a0 a1) := by
  intro a0 a1 k
  have ih0 := pylonref08_SameSteps.mono_l k
  unfold pylonref08_SameSteps.f
  repeat' first
      | (with_reducible exact ih0 _ _ _ _)
      | (with_reducible exact LeO.refl _)
      | (with_reducible exact LeO.none _)
      | (with_reducible refine LeO.ite ?_ ?_)
      | (with_reducible refine LeO.bind ?_ (fun _ => ?_))
      | exact ih0 _ _ _ _
      | exact LeO.none _
      | refine LeO.ite ?_ ?_
      | refine LeO.bind ?_ (fun _ => ?_)
set_option maxHeartbeats 8000000 in
set_option maxRecDepth 100000 in
theorem pylonref08_SameSteps.calls (k : Nat) (A0 : Option Addr) (c0 : Nat) (l0 : List (S35)) (A1 : Option Addr) (c1 : Nat) (l1 : List (S35)) (r : Bool) (w : World) (hr0 : Kd.C k35 w A0 l0.length l0) (hc0 : l0.length ≤ c0) (hr1 : Kd.C k35 w A1 l1.length l1) (hc1 : l1.length ≤ c1) (h : pylonref08_SameSteps.f k l0 l1 = some r) :
    Calls Try.prog 19 #[.slice A0 l0.length c0, .slice A1 l1.length c1] w fun e w' => e = .returned (.bool r) ∧ Drawn0 w w' := by
  have hu35 := Try.underlying35
  have HR0 := Aside0.mk hr0
  have HC0 := Aside0.mk hc0
  clear hr0 hc0
  have HR1 := Aside0.mk hr1
  have HC1 := Aside0.mk hc1
  clear hr1 hc1
  have H : (if (l0.length : Int) = (l1.length : Int) then (pylonref08_SameSteps.l0 k l0 l1 (l0.length : Int) 0) else (some false)) = some r := h
  clear h
  by_cases c3 : (l0.length : Int) = (l1.length : Int)
  · rw [if_pos c3] at H
    have c3b0 : ((l0.length : Int) == (l1.length : Int)) = true := beq_iff_eq.mpr c3
    have c3b1 : ((l0.length : Int) != (l1.length : Int)) = false := bne_eq_false_iff_eq.mpr c3
    have c3b2 : (l0.length == l1.length) = true := by first | simpa using c3 | (simp at c3 ⊢; omega)
    clear c3
    have H' := Aside0.mk H
    clear H
    go_enter Try.func19, Try.ntmps19
    go_wp2
    repeat (go_quiet (fail); try go_wp2)
    go_loopg [13] k (fun kq v13 w' => ∃ (x13_1 : Int), v13 = .int .i64 x13_1 ∧ Aside0 (pylonref08_SameSteps.l0 kq l0 l1 (l0.length : Int) x13_1 = some r) ∧ Aside0 (kq ≤ k) ∧ Drawn0 w w')
    case atStart => exact ⟨(0), (by first | rfl | (simp; done) | (simp [*]; done)), H', ⟨Nat.le_refl _⟩, by repeat (first | exact Drawn0.refl _ | apply Drawn0.step)⟩
    case round =>
      clear H'
      try clear c1
      try clear p2
      try clear c3
      try clear c3b0
      try clear c3b1
      try clear c3b2
      obtain ⟨x13_1, rfl, HA, HK1, ⟨m1, rfl⟩⟩ := hrel
      cases gk with
      | zero => exact absurd HA.out (by simp [pylonref08_SameSteps.l0])
      | succ k1 =>
        have H := HA.out
        clear HA
        simp only [pylonref08_SameSteps.l0] at H
        by_cases c4 : x13_1 < (l0.length : Int)
        · rw [if_pos c4] at H
          have c4b0 : decide (x13_1 < (l0.length : Int)) = true := decide_eq_true c4
          clear c4
          by_cases c5 : 0 ≤ x13_1
          · rw [if_pos c5] at H
            have c5b0 : decide (0 ≤ x13_1) = true := decide_eq_true c5
            clear c5
            by_cases c6 : x13_1 < (l0.length : Int)
            · rw [if_pos c6] at H
              have c6b0 : decide (x13_1 < (l0.length : Int)) = true := decide_eq_true c6
              clear c6
              by_cases c7 : x13_1 < (l1.length : Int)
              · rw [if_pos c7] at H
                have c7b0 : decide (x13_1 < (l1.length : Int)) = true := decide_eq_true c7
                clear c7
                by_cases c8 : (!(((rd_T35 l0 x13_1).f0) == ((rd_T35 l1 x13_1).f0)) || (!(((rd_T35 l0 x13_1).f1) == ((rd_T35 l1 x13_1).f1)))) = true
                · rw [if_pos c8] at H
                  have c8b0 : (!(((rd_T35 l0 x13_1).f0) == ((rd_T35 l1 x13_1).f0)) || (!(((rd_T35 l0 x13_1).f1) == ((rd_T35 l1 x13_1).f1)))) = true := c8
                  clear c8
                  obtain rfl := Option.some.inj H
                  have p320 : 0 ≤ (x13_1 : Int) := of_decide_eq_true (by first | (with_reducible assumption) | assumption)
                  have q320 : x13_1 < (l0.length : Int) := of_decide_eq_true (by first | (with_reducible assumption) | assumption)
                  obtain ⟨ad320, e320, hx320_0, hx320_1⟩ := at_T35 HR0.out x13_1 p320 q320
                  cases e320
                  replace p320 := eq_true p320
                  replace q320 := eq_true q320
                  have p321 : 0 ≤ (x13_1 : Int) := of_decide_eq_true (by first | (with_reducible assumption) | assumption)
                  have q321 : x13_1 < (l1.length : Int) := of_decide_eq_true (by first | (with_reducible assumption) | assumption)
                  obtain ⟨ad321, e321, hx321_0, hx321_1⟩ := at_T35 HR1.out x13_1 p321 q321
                  cases e321
                  replace p321 := eq_true p321
                  replace q321 := eq_true q321
                  go_wp2
                  repeat (go_quiet (fail); try go_wp2)
                  go_ret
                  exact ⟨by first | rfl | (simp; done) | (simp [*]; done), by repeat (first | exact Drawn0.refl _ | apply Drawn0.step)⟩
                · rw [if_neg c8] at H
                  have c8b0 : (!(((rd_T35 l0 x13_1).f0) == ((rd_T35 l1 x13_1).f0)) || (!(((rd_T35 l0 x13_1).f1) == ((rd_T35 l1 x13_1).f1)))) = false := Bool.eq_false_iff.mpr c8
                  clear c8
                  have H' := Aside0.mk H
                  clear H
                  have p320 : 0 ≤ (x13_1 : Int) := of_decide_eq_true (by first | (with_reducible assumption) | assumption)
                  have q320 : x13_1 < (l0.length : Int) := of_decide_eq_true (by first | (with_reducible assumption) | assumption)
                  obtain ⟨ad320, e320, hx320_0, hx320_1⟩ := at_T35 HR0.out x13_1 p320 q320
                  cases e320
                  replace p320 := eq_true p320
                  replace q320 := eq_true q320
                  have p321 : 0 ≤ (x13_1 : Int) := of_decide_eq_true (by first | (with_reducible assumption) | assumption)
                  have q321 : x13_1 < (l1.length : Int) := of_decide_eq_true (by first | (with_reducible assumption) | assumption)
                  obtain ⟨ad321, e321, hx321_0, hx321_1⟩ := at_T35 HR1.out x13_1 p321 q321
                  cases e321
                  replace p321 := eq_true p321
                  replace q321 := eq_true q321
                  go_wp2
                  repeat (go_quiet (fail); try go_wp2)
                  go_roundg k1
                  case measure => have := HK1.out; omega
                  case rel => exact ⟨(wrap64 (x13_1 + 1)), (by first | rfl | (simp; done) | (simp [*]; done)), H', ⟨by have := HK1.out; omega⟩, by repeat (first | exact Drawn0.refl _ | apply Drawn0.step)⟩
              · rw [if_neg c7] at H
                exact absurd H (by simp)
            · rw [if_neg c6] at H
              exact absurd H (by simp)
          · rw [if_neg c5] at H
            exact absurd H (by simp)
        · rw [if_neg c4] at H
          have c4b0 : decide (x13_1 < (l0.length : Int)) = false := decide_eq_false c4
          clear c4
          obtain rfl := Option.some.inj H
          go_wp2
          repeat (go_quiet (fail); try go_wp2)
          go_ret
          exact ⟨by first | rfl | (simp; done) | (simp [*]; done), by repeat (first | exact Drawn0.refl _ | apply Drawn0.step)⟩
  · rw [if_neg c3] at H
    have c3b0 : ((l0.length : Int) == (l1.length : Int)) = false := beq_eq_false_iff_ne.mpr c3
    have c3b1 : ((l0.length : Int) != (l1.length : Int)) = true := bne_iff_ne.mpr c3
    have c3b2 : (l0.length == l1.length) = false := by first | simpa using c3 | (simp at c3 ⊢; omega)
    obtain rfl := Option.some.inj H
    go_enter Try.func19, Try.ntmps19
    go_wp2
    repeat (go_quiet (fail); try go_wp2)
    go_ret
    exact ⟨by first | rfl | (simp; done) | (simp [*]; done), by repeat (first | exact Drawn0.refl _ | apply Drawn0.step)⟩

/-! ### pylonlaw17_BlockKeeps: function 8 -/
mutual
def pylonlaw17_BlockKeeps.l0 : Nat → List (S35) → List (S35) → List (S35) → List Int → List Int → List Int → Int → Int → Option (Bool)
  | 0, _, _, _, _, _, _, _, _ => none
  | k + 1, x0, x5, x6, x7, x9, x11, x50, x51 => if x51 < x50 then (if 0 ≤ x51 then (if x51 < (x7.length : Int) then (pylonlaw17_BlockKeeps.l0 k x0 x5 x6 (x7.set (x51 : Int).toNat (-7)) x9 x11 x50 (wrap64 (x51 + 1))) else (none)) else (none)) else (pylonlaw17_BlockKeeps.l1 k x0 x5 x6 x7 x9 x11 0)
def pylonlaw17_BlockKeeps.l1 : Nat → List (S35) → List (S35) → List (S35) → List Int → List Int → List Int → Int → Option (Bool)
  | 0, _, _, _, _, _, _, _ => none
  | k + 1, x0, x5, x6, x7, x9, x11, x58 => if x58 < 20 then (if x7.length < 17592186044416 then (pylonlaw17_BlockKeeps.l1 k x0 x5 x6 (x7 ++ [(-7)]) x9 x11 (wrap64 (x58 + 1))) else (none)) else ((pylonref08_SameSteps.f k x6 x0).bind fun t355 => (if t355 = true then (if 0 ≤ (x0.length : Int) then (if (x0.length : Int) < (x5.length : Int) then (if ((rd_T35 x5 (x0.length : Int)).f0) = 77 then ((pylonref01_SameNumbers.f k x9 x11).bind fun t357 => (some t357)) else (some false)) else (none)) else (none)) else (some false)))
end
def pylonlaw17_BlockKeeps.f (k : Nat) (l0 : List (S35)) (a1 : Int) : Option (Bool) := (pylonlaw17_awake.f k).bind fun t322 => (if t322 = true then ((some (([] : List (S35)) : List (S35))).bind fun y323 => (if y323.length + l0.length < 8796093022208 then ((some (y323 ++ l0 : List (S35))).bind fun y326 => (if y326.length < 8796093022208 then ((some (y326 ++ [(⟨77, 0⟩ : S35)] : List (S35))).bind fun y329 => (if 0 ≤ (l0.length : Int) then (if (l0.length : Int) ≤ (y329.length : Int) then ((some (y329.take ((l0.length : Int) : Int).toNat : List (S35))).bind fun y332 => ((block_Good.f k y332).bind fun t336 => ((block_Price.f k y332 a1).bind fun bt337 => ((block_Parts.f k y332 a1).bind fun bt339 => ((block_Parts.f k y332 a1).bind fun bt343 => ((pylonref17_Parts.f k l0 a1).bind fun bt347 => (pylonlaw17_BlockKeeps.l0 k l0 y329 y332 bt339.1 bt343.1 bt347.1 (bt339.1.length : Int) 0))))))) else (none)) else (none))) else (none))) else (none))) else (some false))
theorem pylonlaw17_BlockKeeps.mono_l : ∀ k, (∀ y0 y1 y2 y3 y4 y5 y6 y7, LeO (pylonlaw17_BlockKeeps.l0 k y0 y1 y2 y3 y4 y5 y6 y7) (pylonlaw17_BlockKeeps.l0 (k + 1) y0 y1 y2 y3 y4 y5 y6 y7)) ∧ (∀ y0 y1 y2 y3 y4 y5 y6, LeO (pylonlaw17_BlockKeeps.l1 k y0 y1 y2 y3 y4 y5 y6) (pylonlaw17_BlockKeeps.l1 (k + 1) y0 y1 y2 y3 y4 y5 y6))
  | 0 => ⟨fun _ _ _ _ _ _ _ _ r h => by simp [pylonlaw17_BlockKeeps.l0] at h, fun _ _ _ _ _ _ _ r h => by simp [pylonlaw17_BlockKeeps.l1] at h⟩
  | k + 1 => by
    obtain ⟨ih0, ih1⟩ := pylonlaw17_BlockKeeps.mono_l k
    refine ⟨?_, ?_⟩
    · intro y0 y1 y2 y3 y4 y5 y6 y7
      unfold pylonlaw17_BlockKeeps.l0
      repeat' first
      | (with_reducible exact ih0 _ _ _ _ _ _ _ _)
      | (with_reducible exact ih1 _ _ _ _ _ _ _)
      | (with_reducible exact block_Good.mono _ _)
      | (with_reducible exact block_Parts.mono _ _ _)
      | (with_reducible exact block_Price.mono _ _ _)
      | (with_reducible exact pylonlaw17_awake.mono _)
      | (with_reducible exact pylonref01_SameNumbers.mono _ _ _)
      | (with_reducible exact pylonref08_SameSteps.mono _ _ _)
      | (with_reducible exact pylonref17_Parts.mono _ _ _)
      | (with_reducible exact LeO.refl _)
      | (with_reducible exact LeO.none _)
      | (with_reducible refine LeO.ite ?_ ?_)
      | (with_reducible refine LeO.bind ?_ (fun _ => ?_))
      | exact ih0 _ _ _ _ _ _ _ _
      | exact ih1 _ _ _ _ _ _ _
      | exact block_Good.mono _ _
      | exact block_Parts.mono _ _ _
      | exact block_Price.mono _ _ _
      | exact pylonlaw17_awake.mono _
      | exact pylonref01_SameNumbers.mono _ _ _
      | exact pylonref08_SameSteps.mono _ _ _
      | exact pylonref17_Parts.mono _ _ _
      | exact LeO.none _
      | refine LeO.ite ?_ ?_
      | refine LeO.bind ?_ (fun _ => ?_)
    · intro y0 y1 y2 y3 y4 y5 y6
      unfold pylonlaw17_BlockKeeps.l1
      repeat' first
      | (with_reducible exact ih0 _ _ _ _ _ _ _ _)
      | (with_reducible exact ih1 _ _ _ _ _ _ _)
      | (with_reducible exact block_Good.mono _ _)
      | (with_reducible exact block_Parts.mono _ _ _)
      | (with_reducible exact block_Price.mono _ _ _)
      | (with_reducible exact pylonlaw17_awake.mono _)
      | (with_reducible exact pylonref01_SameNumbers.mono _ _ _)
      | (with_reducible exact pylonref08_SameSteps.mono _ _ _)
      | (with_reducible exact pylonref17_Parts.mono _ _ _)
      | (with_reducible exact LeO.refl _)
      | (with_reducible exact LeO.none _)
      | (with_reducible refine LeO.ite ?_ ?_)
      | (with_reducible refine LeO.bind ?_ (fun _ => ?_))
      | exact ih0 _ _ _ _ _ _ _ _
      | exact ih1 _ _ _ _ _ _ _
      | exact block_Good.mono _ _
      | exact block_Parts.mono _ _ _
      | exact block_Price.mono _ _ _
      | exact pylonlaw17_awake.mono _
      | exact pylonref01_SameNumbers.mono _ _ _
      | exact pylonref08_SameSteps.mono _ _ _
      | exact pylonref17_Parts.mono _ _ _
      | exact LeO.none _
      | refine LeO.ite ?_ ?_
      | refine LeO.bind ?_ (fun _ => ?_)
theorem pylonlaw17_BlockKeeps.mono : ∀ a0 a1 k, LeO (pylonlaw17_BlockKeeps.f k a0 a1) (pylonlaw17_BlockKeeps.f (k + 1) a0 a1) := by
  intro a0 a1 k
  obtain ⟨ih0, ih1⟩ := pylonlaw17_BlockKeeps.mono_l k
  unfold pylonlaw17_BlockKeeps.f
  repeat' first
      | (with_reducible exact ih0 _ _ _ _ _ _ _ _)
      | (with_reducible exact ih1 _ _ _ _ _ _ _)
      | (with_reducible exact block_Good.mono _ _)
      | (with_reducible exact block_Parts.mono _ _ _)
      | (with_reducible exact block_Price.mono _ _ _)
      | (with_reducible exact pylonlaw17_awake.mono _)
      | (with_reducible exact pylonref01_SameNumbers.mono _ _ _)
      | (with_reducible exact pylonref08_SameSteps.mono _ _ _)
      | (with_reducible exact pylonref17_Parts.mono _ _ _)
      | (with_reducible exact LeO.refl _)
      | (with_reducible exact LeO.none _)
      | (with_reducible refine LeO.ite ?_ ?_)
      | (with_reducible refine LeO.bind ?_ (fun _ => ?_))
      | exact ih0 _ _ _ _ _ _ _ _
      | exact ih1 _ _ _ _ _ _ _
      | exact block_Good.mono _ _
      | exact block_Parts.mono _ _ _
      | exact block_Price.mono _ _ _
      | exact pylonlaw17_awake.mono _
      | exact pylonref01_SameNumbers.mono _ _ _
      | exact pylonref08_SameSteps.mono _ _ _
      | exact pylonref17_Parts.mono _ _ _
      | exact LeO.none _
      | refine LeO.ite ?_ ?_
      | refine LeO.bind ?_ (fun _ => ?_)
set_option maxHeartbeats 8000000 in
set_option maxRecDepth 100000 in
theorem pylonlaw17_BlockKeeps.calls (k : Nat) (A0 : Option Addr) (c0 : Nat) (l0 : List (S35)) (a1 : Int) (r : Bool) (w : World) (hr0 : Kd.C k35 w A0 l0.length l0) (hc0 : l0.length ≤ c0) (h : pylonlaw17_BlockKeeps.f k l0 a1 = some r) :
    Calls Try.prog 8 #[.slice A0 l0.length c0, .int .i64 a1] w fun e w' => e = .returned (.bool r) ∧ Below w.heap.size w w' := by
  have hu35 := Try.underlying35
  have HR0 := Aside0.mk hr0
  have HC0 := Aside0.mk hc0
  clear hr0 hc0
  have HB := Aside0.mk (Below.refl w.heap.size w)
  have H : ((pylonlaw17_awake.f k).bind fun t322 => (if t322 = true then ((some (([] : List (S35)) : List (S35))).bind fun y323 => (if y323.length + l0.length < 8796093022208 then ((some (y323 ++ l0 : List (S35))).bind fun y326 => (if y326.length < 8796093022208 then ((some (y326 ++ [(⟨77, 0⟩ : S35)] : List (S35))).bind fun y329 => (if 0 ≤ (l0.length : Int) then (if (l0.length : Int) ≤ (y329.length : Int) then ((some (y329.take ((l0.length : Int) : Int).toNat : List (S35))).bind fun y332 => ((block_Good.f k y332).bind fun t336 => ((block_Price.f k y332 a1).bind fun bt337 => ((block_Parts.f k y332 a1).bind fun bt339 => ((block_Parts.f k y332 a1).bind fun bt343 => ((pylonref17_Parts.f k l0 a1).bind fun bt347 => (pylonlaw17_BlockKeeps.l0 k l0 y329 y332 bt339.1 bt343.1 bt347.1 (bt339.1.length : Int) 0))))))) else (none)) else (none))) else (none))) else (none))) else (some false))) = some r := h
  clear h
  replace H := Option.bind_eq_some_iff.mp H
  obtain ⟨t322, A30, H⟩ := H
  replace H : (if t322 = true then ((some (([] : List (S35)) : List (S35))).bind fun y323 => (if y323.length + l0.length < 8796093022208 then ((some (y323 ++ l0 : List (S35))).bind fun y326 => (if y326.length < 8796093022208 then ((some (y326 ++ [(⟨77, 0⟩ : S35)] : List (S35))).bind fun y329 => (if 0 ≤ (l0.length : Int) then (if (l0.length : Int) ≤ (y329.length : Int) then ((some (y329.take ((l0.length : Int) : Int).toNat : List (S35))).bind fun y332 => ((block_Good.f k y332).bind fun t336 => ((block_Price.f k y332 a1).bind fun bt337 => ((block_Parts.f k y332 a1).bind fun bt339 => ((block_Parts.f k y332 a1).bind fun bt343 => ((pylonref17_Parts.f k l0 a1).bind fun bt347 => (pylonlaw17_BlockKeeps.l0 k l0 y329 y332 bt339.1 bt343.1 bt347.1 (bt339.1.length : Int) 0))))))) else (none)) else (none))) else (none))) else (none))) else (some false)) = some r := H
  have A3 := Aside0.mk A30
  clear A30
  by_cases c4 : t322 = true
  · subst c4
    have H1 : ((some (([] : List (S35)) : List (S35))).bind fun y323 => (if y323.length + l0.length < 8796093022208 then ((some (y323 ++ l0 : List (S35))).bind fun y326 => (if y326.length < 8796093022208 then ((some (y326 ++ [(⟨77, 0⟩ : S35)] : List (S35))).bind fun y329 => (if 0 ≤ (l0.length : Int) then (if (l0.length : Int) ≤ (y329.length : Int) then ((some (y329.take ((l0.length : Int) : Int).toNat : List (S35))).bind fun y332 => ((block_Good.f k y332).bind fun t336 => ((block_Price.f k y332 a1).bind fun bt337 => ((block_Parts.f k y332 a1).bind fun bt339 => ((block_Parts.f k y332 a1).bind fun bt343 => ((pylonref17_Parts.f k l0 a1).bind fun bt347 => (pylonlaw17_BlockKeeps.l0 k l0 y329 y332 bt339.1 bt343.1 bt347.1 (bt339.1.length : Int) 0))))))) else (none)) else (none))) else (none))) else (none))) = some r := by rw [if_pos rfl] at H; exact H
    clear H
    have H := H1
    clear H1
    obtain ⟨y323, hy323⟩ : ∃ y_ : List (S35), y_ = (([] : List (S35))) := ⟨_, rfl⟩
    replace H : (if y323.length + l0.length < 8796093022208 then ((some (y323 ++ l0 : List (S35))).bind fun y326 => (if y326.length < 8796093022208 then ((some (y326 ++ [(⟨77, 0⟩ : S35)] : List (S35))).bind fun y329 => (if 0 ≤ (l0.length : Int) then (if (l0.length : Int) ≤ (y329.length : Int) then ((some (y329.take ((l0.length : Int) : Int).toNat : List (S35))).bind fun y332 => ((block_Good.f k y332).bind fun t336 => ((block_Price.f k y332 a1).bind fun bt337 => ((block_Parts.f k y332 a1).bind fun bt339 => ((block_Parts.f k y332 a1).bind fun bt343 => ((pylonref17_Parts.f k l0 a1).bind fun bt347 => (pylonlaw17_BlockKeeps.l0 k l0 y329 y332 bt339.1 bt343.1 bt347.1 (bt339.1.length : Int) 0))))))) else (none)) else (none))) else (none))) else (none)) = some r := by first | (rw [hy323]; with_reducible exact H) | (have H2_ := (Option.bind_some _ _).symm.trans H; rw [hy323]; with_reducible exact H2_) | (have H2_ := (Option.bind_some _ _).symm.trans H; with_reducible exact H2_) | with_reducible exact H | (rw [hy323]; exact H) | exact H
    have Ny323 := Aside0.mk hy323
    clear hy323
    by_cases c5 : y323.length + l0.length < 8796093022208
    · rw [if_pos c5] at H
      have LMc5 := Aside0.mk c5
      clear c5
      obtain ⟨y326, hy326⟩ : ∃ y_ : List (S35), y_ = (y323 ++ l0) := ⟨_, rfl⟩
      replace H : (if y326.length < 8796093022208 then ((some (y326 ++ [(⟨77, 0⟩ : S35)] : List (S35))).bind fun y329 => (if 0 ≤ (l0.length : Int) then (if (l0.length : Int) ≤ (y329.length : Int) then ((some (y329.take ((l0.length : Int) : Int).toNat : List (S35))).bind fun y332 => ((block_Good.f k y332).bind fun t336 => ((block_Price.f k y332 a1).bind fun bt337 => ((block_Parts.f k y332 a1).bind fun bt339 => ((block_Parts.f k y332 a1).bind fun bt343 => ((pylonref17_Parts.f k l0 a1).bind fun bt347 => (pylonlaw17_BlockKeeps.l0 k l0 y329 y332 bt339.1 bt343.1 bt347.1 (bt339.1.length : Int) 0))))))) else (none)) else (none))) else (none)) = some r := by first | (rw [hy326]; with_reducible exact H) | (have H2_ := (Option.bind_some _ _).symm.trans H; rw [hy326]; with_reducible exact H2_) | (have H2_ := (Option.bind_some _ _).symm.trans H; with_reducible exact H2_) | with_reducible exact H | (rw [hy326]; exact H) | exact H
      have Ny326 := Aside0.mk hy326
      clear hy326
      by_cases c6 : y326.length < 8796093022208
      · rw [if_pos c6] at H
        have LMc6 := Aside0.mk c6
        clear c6
        obtain ⟨y329, hy329⟩ : ∃ y_ : List (S35), y_ = (y326 ++ [(⟨77, 0⟩ : S35)]) := ⟨_, rfl⟩
        replace H : (if 0 ≤ (l0.length : Int) then (if (l0.length : Int) ≤ (y329.length : Int) then ((some (y329.take ((l0.length : Int) : Int).toNat : List (S35))).bind fun y332 => ((block_Good.f k y332).bind fun t336 => ((block_Price.f k y332 a1).bind fun bt337 => ((block_Parts.f k y332 a1).bind fun bt339 => ((block_Parts.f k y332 a1).bind fun bt343 => ((pylonref17_Parts.f k l0 a1).bind fun bt347 => (pylonlaw17_BlockKeeps.l0 k l0 y329 y332 bt339.1 bt343.1 bt347.1 (bt339.1.length : Int) 0))))))) else (none)) else (none)) = some r := by first | (rw [hy329]; with_reducible exact H) | (have H2_ := (Option.bind_some _ _).symm.trans H; rw [hy329]; with_reducible exact H2_) | (have H2_ := (Option.bind_some _ _).symm.trans H; with_reducible exact H2_) | with_reducible exact H | (rw [hy329]; exact H) | exact H
        have Ny329 := Aside0.mk hy329
        clear hy329
        by_cases c7 : 0 ≤ (l0.length : Int)
        · rw [if_pos c7] at H
          have c7b0 := eq_true c7
          have c7b1 : decide (0 ≤ (l0.length : Int)) = true := decide_eq_true c7
          clear c7
          by_cases c8 : (l0.length : Int) ≤ (y329.length : Int)
          · rw [if_pos c8] at H
            have c8b0 := eq_true c8
            have c8b1 : decide ((l0.length : Int) ≤ (y329.length : Int)) = true := decide_eq_true c8
            clear c8
            obtain ⟨y332, hy332⟩ : ∃ y_ : List (S35), y_ = (y329.take ((l0.length : Int) : Int).toNat) := ⟨_, rfl⟩
            replace H : ((block_Good.f k y332).bind fun t336 => ((block_Price.f k y332 a1).bind fun bt337 => ((block_Parts.f k y332 a1).bind fun bt339 => ((block_Parts.f k y332 a1).bind fun bt343 => ((pylonref17_Parts.f k l0 a1).bind fun bt347 => (pylonlaw17_BlockKeeps.l0 k l0 y329 y332 bt339.1 bt343.1 bt347.1 (bt339.1.length : Int) 0)))))) = some r := by first | (rw [hy332]; with_reducible exact H) | (have H2_ := (Option.bind_some _ _).symm.trans H; rw [hy332]; with_reducible exact H2_) | (have H2_ := (Option.bind_some _ _).symm.trans H; with_reducible exact H2_) | with_reducible exact H | (rw [hy332]; exact H) | exact H
            have Ny332 := Aside0.mk hy332
            clear hy332
            replace H := Option.bind_eq_some_iff.mp H
            obtain ⟨t336, A90, H⟩ := H
            replace H : ((block_Price.f k y332 a1).bind fun bt337 => ((block_Parts.f k y332 a1).bind fun bt339 => ((block_Parts.f k y332 a1).bind fun bt343 => ((pylonref17_Parts.f k l0 a1).bind fun bt347 => (pylonlaw17_BlockKeeps.l0 k l0 y329 y332 bt339.1 bt343.1 bt347.1 (bt339.1.length : Int) 0))))) = some r := H
            have A9 := Aside0.mk A90
            clear A90
            replace H := Option.bind_eq_some_iff.mp H
            obtain ⟨⟨t337, t338⟩, A100, H⟩ := H
            replace H : ((block_Parts.f k y332 a1).bind fun bt339 => ((block_Parts.f k y332 a1).bind fun bt343 => ((pylonref17_Parts.f k l0 a1).bind fun bt347 => (pylonlaw17_BlockKeeps.l0 k l0 y329 y332 bt339.1 bt343.1 bt347.1 (bt339.1.length : Int) 0)))) = some r := H
            have A10 := Aside0.mk A100
            clear A100
            replace H := Option.bind_eq_some_iff.mp H
            obtain ⟨⟨t339, t340⟩, A110, H⟩ := H
            replace H : ((block_Parts.f k y332 a1).bind fun bt343 => ((pylonref17_Parts.f k l0 a1).bind fun bt347 => (pylonlaw17_BlockKeeps.l0 k l0 y329 y332 t339 bt343.1 bt347.1 (t339.length : Int) 0))) = some r := H
            have A11 := Aside0.mk A110
            clear A110
            replace H := Option.bind_eq_some_iff.mp H
            obtain ⟨⟨t343, t344⟩, A120, H⟩ := H
            replace H : ((pylonref17_Parts.f k l0 a1).bind fun bt347 => (pylonlaw17_BlockKeeps.l0 k l0 y329 y332 t339 t343 bt347.1 (t339.length : Int) 0)) = some r := H
            have A12 := Aside0.mk A120
            clear A120
            replace H := Option.bind_eq_some_iff.mp H
            obtain ⟨⟨t347, t348⟩, A130, H⟩ := H
            replace H : (pylonlaw17_BlockKeeps.l0 k l0 y329 y332 t339 t343 t347 (t339.length : Int) 0) = some r := H
            have A13 := Aside0.mk A130
            clear A130
            have H' := Aside0.mk H
            clear H
            go_enter Try.func8, Try.ntmps8
            go_wp2_with (first | ((with_reducible refine gate_callee (f := 9) rfl ?_); refine goesL_ (some 14) rfl rfl Try.func9 (by kernel_rfl) rfl #[] rfl (by (try simp only [List.map_toArray, List.map_cons, List.map_nil]); first | done | rfl | (simp only [List.length_drop, List.length_take]; rfl)) ?_; (with_reducible refine (pylonlaw17_awake.calls k  true _ A3.out).mono ?_); rintro e w14 ⟨rfl, hb⟩; refine ⟨_, rfl, ?_⟩; have n0_ := Aside0.mk (below_step (by repeat (first | (with_reducible first | exact HB.out | apply below_alloc | apply pw_below_drewN | apply below_drew1) | exact HB.out)) hb); clear HB; have HB := n0_; clear n0_; (try clear hb); (try clear hb2); (try clear hk); (try clear hi)) | ((with_reducible refine gate_dst (N := 16) rfl ?_); (try (refine gate_guard (by rfl) ?_; dsimp only)); refine Kd.R_lit k35 _ 35 ?hg (N := 16) ?hd (xs := ([] : List (S35))) (inner := []) (ok := fun _ => True) (okp := fun _ => True) ?hr ?hp (fun _ hk => hk) trivial (Below.refl _ _) (Nat.le_refl _) (by simp) ?_; (case hd => rfl); (case hg => rfl); (case hr => first | (go_simp; done) | (go_simp; rfl)); (case hp => exact (Reps.none _ _)); intro v324 w15 ho16 hb hg_ hnew_; clear hg_ hnew_; (first | rw [← Ny323.out] at ho16 | (simp only [Int.reduceToNat] at ho16; rw [← Ny323.out] at ho16)); have n0_ := Aside0.mk (Kd.R_lower ho16 (below_size (by repeat (first | (with_reducible first | exact HB.out | apply below_alloc | apply pw_below_drewN | apply below_drew1) | exact HB.out)))); have n1_ := Aside0.mk (below_step (by repeat (first | (with_reducible first | exact HB.out | apply below_alloc | apply pw_below_drewN | apply below_drew1) | exact HB.out)) hb); clear HB; have HO325 := n0_; have HB := n1_; clear n0_ n1_; clear hb ho16) | ((with_reducible refine gate_builtin (b := .append) (xs := #[.tmp 16, .tmp 17]) rfl ?_); (try (refine gate_guard (by rfl) ?_; dsimp only)); at_builtin; refine Kd.R_append_rows k35 (w0 := w) w.heap.size rfl (.tmp 16) (.tmp 17) 22 35 (.agg #[(.int .i64 0), (.int .i64 0)]) 16 rfl Try.underlying22 info35 rfl (by decide) (by omega) v324 y323 l0 _ _ _ (fun _ => True) (fun _ => False) rfl rfl ?aO ?aR (fun _ _ h => h) (fun _ h => h.elim) ?aF ?aB ?aS ?aL ?_; (case aR => repeat (first | exact (Kd.C_below HR0.out HB.out) | (with_reducible refine Kd.C_alloc ?_ _) | (with_reducible refine Kd.C_drewN ?_ _) | (with_reducible refine Kd.C_drew ?_))); (case aB => exact (by repeat (first | (with_reducible first | exact HB.out | apply below_alloc | apply pw_below_drewN | apply below_drew1) | exact HB.out))); (case aF => exact (fun _ _ => trivial)); (case aO => exact (by (with_reducible repeat (first | apply Kd.R_alloc | apply Kd.R_drewN | apply Kd.R_drew)); exact HO325.out)); (case aS => exact (below_size (by repeat (first | (with_reducible first | exact HB.out | apply below_alloc | apply pw_below_drewN | apply below_drew1) | exact HB.out)))); (case aL => have := LMc5.out; omega); intro v327 w17 ho hb hg hat; rw [← Ny326.out] at ho; have n0_ := Aside0.mk (hb); have n1_ := Aside0.mk (ho); clear HB; clear HO325; have HB := n0_; have HO328 := n1_; clear n0_ n1_; clear ho hb hg hat) | ((with_reducible refine gate_builtin (b := .append) (xs := #[.tmp 18, .tmp 20]) rfl ?_); (try (refine gate_guard (by rfl) ?_; dsimp only)); at_builtin; refine Kd.R_append k35 (w0 := w) w.heap.size rfl (.tmp 18) (.tmp 20) 22 35 (.agg #[(.int .i64 0), (.int .i64 0)]) 16 rfl Try.underlying22 info35 rfl (by decide) (by omega) v327 y326 (⟨77, 0⟩ : S35) [.int .i64 77, .int .i64 0] (fun _ => True) (fun _ => False) rfl rfl ?aP (fun _ hk => hk.elim) ?aF ?aO ?aB ?aS ?aL ?_; (case aP => exact k35_mkM _ _ _ (⟨77, 0⟩ : S35)); (case aB => exact (by repeat (first | (with_reducible first | exact HB.out | apply below_alloc | apply pw_below_drewN | apply below_drew1) | exact HB.out))); (case aF => exact (fun _ _ => trivial)); (case aO => exact (by (with_reducible repeat (first | apply Kd.R_alloc | apply Kd.R_drewN | apply Kd.R_drew)); exact HO328.out)); (case aS => exact (below_size (by repeat (first | (with_reducible first | exact HB.out | apply below_alloc | apply pw_below_drewN | apply below_drew1) | exact HB.out)))); (case aL => have := LMc6.out; omega); intro v330 w18 ho hb hg hat; rw [← Ny329.out] at ho; have n0_ := Aside0.mk (hb); have n1_ := Aside0.mk (ho); clear HB; clear HO328; have HB := n0_; have HO331 := n1_; clear n0_ n1_; clear ho hb hg hat; obtain ⟨Ao20, co20, eo20⟩ := Kd.R_slice HO331.out; subst eo20; have q19 : ((l0.length : Int) : Int) ≤ ((y329.length : Int) : Int) := of_decide_eq_true (by first | (with_reducible assumption) | assumption); obtain ⟨i019, hi019, _, hsz19, _⟩ := info_parts info35; have hroom19 : y329.length ≤ co20 := (Kd.R_reads' HO331.out).2.1; have hC19 : Kd.C k35 _ Ao20 y329.length y329 := (Kd.R_reads' HO331.out).2.2; have hcut19 := cut_to (P := Try.prog) 22 35 .i64 Try.underlying22 hi019 Ao20 y329.length co20 (l0.length : Int) (of_decide_eq_true (by first | (with_reducible assumption) | assumption)) q19 hroom19; have hr19 := Kd.C_take (m := ((l0.length : Int) : Int).toNat) hC19 (by omega); have hy19 : y332.length = ((l0.length : Int) : Int).toNat := (by rw [Ny332.out, List.length_take]; omega); rw [← Ny332.out] at hr19; rw [← hy19] at hcut19; have HR335 := Aside0.mk hr19; have HC335 := Aside0.mk (show y332.length ≤ co20 from by omega); clear hr19 hC19 hroom19 hi019 hsz19; have KY19 := Aside0.mk hy19; clear hy19; have KL19 := Aside0.mk (show ((l0.length : Int) : Int).toNat ≤ y329.length from by omega); replace q19 := eq_true q19) | ((with_reducible refine gate_callee (f := 14) rfl ?_); refine goesL_ (some 27) rfl rfl Try.func14 (by kernel_rfl) rfl #[.slice Ao20 y332.length co20] rfl (by (try simp only [List.map_toArray, List.map_cons, List.map_nil]); first | done | rfl | (simp only [List.length_drop, List.length_take]; rfl)) ?_; (with_reducible refine (block_Good.calls k _ _ y332 t336 _ ?side1 ?side2 A9.out).mono ?_); (case side1 => repeat (first | exact (by repeat (first | (with_reducible exact HR335.out) | (with_reducible refine Kd.C_alloc ?_ _) | (with_reducible refine Kd.C_drewN ?_ _) | (with_reducible refine Kd.C_drew ?_) | exact HR335.out)) | (with_reducible refine Kd.C_alloc ?_ _) | (with_reducible refine Kd.C_drewN ?_ _) | (with_reducible refine Kd.C_drew ?_))); (case side2 => exact HC335.out); rintro e w21 ⟨rfl, hb⟩; refine ⟨_, rfl, ?_⟩; have n0_ := Aside0.mk (Kd.R_below (by (with_reducible repeat (first | apply Kd.R_alloc | apply Kd.R_drewN | apply Kd.R_drew)); exact HO331.out) hb); have n1_ := Aside0.mk (Kd.C_below (by repeat (first | (with_reducible exact HR335.out) | (with_reducible refine Kd.C_alloc ?_ _) | (with_reducible refine Kd.C_drewN ?_ _) | (with_reducible refine Kd.C_drew ?_) | exact HR335.out)) hb); have n2_ := Aside0.mk (below_step (by repeat (first | (with_reducible first | exact HB.out | apply below_alloc | apply pw_below_drewN | apply below_drew1) | exact HB.out)) hb); clear HO331; clear HR335; clear HB; have HO331 := n0_; have HR335 := n1_; have HB := n2_; clear n0_ n1_ n2_; (try clear hb); (try clear hb2); (try clear hk); (try clear hi)) | ((with_reducible refine gate_callee (f := 13) rfl ?_); refine goesL_ (some 30) rfl rfl Try.func13 (by kernel_rfl) rfl #[.slice Ao20 y332.length co20, .int .i64 a1] rfl (by (try simp only [List.map_toArray, List.map_cons, List.map_nil]); first | done | rfl | (simp only [List.length_drop, List.length_take]; rfl)) ?_; (with_reducible refine (block_Price.calls k _ _ y332 a1 t337 t338 _ ?side1 ?side2 A10.out).mono ?_); (case side1 => repeat (first | exact (by repeat (first | (with_reducible exact HR335.out) | (with_reducible refine Kd.C_alloc ?_ _) | (with_reducible refine Kd.C_drewN ?_ _) | (with_reducible refine Kd.C_drew ?_) | exact HR335.out)) | (with_reducible refine Kd.C_alloc ?_ _) | (with_reducible refine Kd.C_drewN ?_ _) | (with_reducible refine Kd.C_drew ?_))); (case side2 => exact HC335.out); rintro e w22 ⟨rfl, hb⟩; refine ⟨_, rfl, ?_⟩; have n0_ := Aside0.mk (Kd.R_below (by (with_reducible repeat (first | apply Kd.R_alloc | apply Kd.R_drewN | apply Kd.R_drew)); exact HO331.out) hb); have n1_ := Aside0.mk (Kd.C_below (by repeat (first | (with_reducible exact HR335.out) | (with_reducible refine Kd.C_alloc ?_ _) | (with_reducible refine Kd.C_drewN ?_ _) | (with_reducible refine Kd.C_drew ?_) | exact HR335.out)) hb); have n2_ := Aside0.mk (below_step (by repeat (first | (with_reducible first | exact HB.out | apply below_alloc | apply pw_below_drewN | apply below_drew1) | exact HB.out)) hb); clear HO331; clear HR335; clear HB; have HO331 := n0_; have HR335 := n1_; have HB := n2_; clear n0_ n1_ n2_; (try clear hb); (try clear hb2); (try clear hk); (try clear hi)) | ((with_reducible refine gate_callee (f := 12) rfl ?_); refine goesL_ (some 34) rfl rfl Try.func12 (by kernel_rfl) rfl #[.slice Ao20 y332.length co20, .int .i64 a1] rfl (by (try simp only [List.map_toArray, List.map_cons, List.map_nil]); first | done | rfl | (simp only [List.length_drop, List.length_take]; rfl)) ?_; (with_reducible refine (block_Parts.calls k _ _ y332 a1 t339 t340 _ ?side1 ?side2 A11.out).mono ?_); (case side1 => repeat (first | exact (by repeat (first | (with_reducible exact HR335.out) | (with_reducible refine Kd.C_alloc ?_ _) | (with_reducible refine Kd.C_drewN ?_ _) | (with_reducible refine Kd.C_drew ?_) | exact HR335.out)) | (with_reducible refine Kd.C_alloc ?_ _) | (with_reducible refine Kd.C_drewN ?_ _) | (with_reducible refine Kd.C_drew ?_))); (case side2 => exact HC335.out); clear A11; rintro e w23 ⟨v341, rfl, ho0, hb⟩; refine ⟨_, rfl, ?_⟩; have n0_ := Aside0.mk (Kd.R_below (by (with_reducible repeat (first | apply Kd.R_alloc | apply Kd.R_drewN | apply Kd.R_drew)); exact HO331.out) hb); have n1_ := Aside0.mk (Kd.R_lower ho0 (below_size (by repeat (first | (with_reducible first | exact HB.out | apply below_alloc | apply pw_below_drewN | apply below_drew1) | exact HB.out)))); have n2_ := Aside0.mk (Kd.C_below (by repeat (first | (with_reducible exact HR335.out) | (with_reducible refine Kd.C_alloc ?_ _) | (with_reducible refine Kd.C_drewN ?_ _) | (with_reducible refine Kd.C_drew ?_) | exact HR335.out)) hb); have n3_ := Aside0.mk (below_step (by repeat (first | (with_reducible first | exact HB.out | apply below_alloc | apply pw_below_drewN | apply below_drew1) | exact HB.out)) hb); clear HO331; clear HR335; clear HB; have HO331 := n0_; have HO342 := n1_; have HR335 := n2_; have HB := n3_; clear n0_ n1_ n2_ n3_; (try clear hb); (try clear hb2); (try clear hk); (try clear hi); (try clear ho0)) | ((with_reducible refine gate_callee (f := 12) rfl ?_); refine goesL_ (some 40) rfl rfl Try.func12 (by kernel_rfl) rfl #[.slice Ao20 y332.length co20, .int .i64 a1] rfl (by (try simp only [List.map_toArray, List.map_cons, List.map_nil]); first | done | rfl | (simp only [List.length_drop, List.length_take]; rfl)) ?_; (with_reducible refine (block_Parts.calls k _ _ y332 a1 t343 t344 _ ?side1 ?side2 A12.out).mono ?_); (case side1 => repeat (first | exact (by repeat (first | (with_reducible exact HR335.out) | (with_reducible refine Kd.C_alloc ?_ _) | (with_reducible refine Kd.C_drewN ?_ _) | (with_reducible refine Kd.C_drew ?_) | exact HR335.out)) | (with_reducible refine Kd.C_alloc ?_ _) | (with_reducible refine Kd.C_drewN ?_ _) | (with_reducible refine Kd.C_drew ?_))); (case side2 => exact HC335.out); clear A12; rintro e w24 ⟨v345, rfl, ho0, hb⟩; refine ⟨_, rfl, ?_⟩; have n0_ := Aside0.mk (Kd.R_below (by (with_reducible repeat (first | apply Kd.R_alloc | apply Kd.R_drewN | apply Kd.R_drew)); exact HO331.out) hb); have n1_ := Aside0.mk (Kd.R_elder' (by (with_reducible repeat (first | apply Kd.R_alloc | apply Kd.R_drewN | apply Kd.R_drew)); exact HO342.out) (Kd.R_base ho0) hb); have n2_ := Aside0.mk (Kd.R_lower (Kd.R_new' ho0 (Kd.R_lt (by (with_reducible repeat (first | apply Kd.R_alloc | apply Kd.R_drewN | apply Kd.R_drew)); exact HO342.out))) (below_size (by repeat (first | (with_reducible first | exact HB.out | apply below_alloc | apply pw_below_drewN | apply below_drew1) | exact HB.out)))); have n3_ := Aside0.mk (Kd.C_below (by repeat (first | (with_reducible exact HR335.out) | (with_reducible refine Kd.C_alloc ?_ _) | (with_reducible refine Kd.C_drewN ?_ _) | (with_reducible refine Kd.C_drew ?_) | exact HR335.out)) hb); have n4_ := Aside0.mk (below_step (by repeat (first | (with_reducible first | exact HB.out | apply below_alloc | apply pw_below_drewN | apply below_drew1) | exact HB.out)) hb); clear HO331; clear HO342; clear HR335; clear HB; have HO331 := n0_; have HO342 := n1_; have HO346 := n2_; have HR335 := n3_; have HB := n4_; clear n0_ n1_ n2_ n3_ n4_; (try clear hb); (try clear hb2); (try clear hk); (try clear hi); (try clear ho0)) | ((with_reducible refine gate_callee (f := 10) rfl ?_); refine goesL_ (some 46) rfl rfl Try.func10 (by kernel_rfl) rfl #[.slice A0 l0.length c0, .int .i64 a1] rfl (by (try simp only [List.map_toArray, List.map_cons, List.map_nil]); first | done | rfl | (simp only [List.length_drop, List.length_take]; rfl)) ?_; (with_reducible refine (pylonref17_Parts.calls k _ _ l0 a1 t347 t348 _ ?side1 ?side2 A13.out).mono ?_); (case side1 => repeat (first | exact (Kd.C_below HR0.out HB.out) | (with_reducible refine Kd.C_alloc ?_ _) | (with_reducible refine Kd.C_drewN ?_ _) | (with_reducible refine Kd.C_drew ?_))); (case side2 => exact HC0.out); rintro e w25 ⟨v349, rfl, ho0, hb⟩; refine ⟨_, rfl, ?_⟩; have n0_ := Aside0.mk (Kd.R_below (by (with_reducible repeat (first | apply Kd.R_alloc | apply Kd.R_drewN | apply Kd.R_drew)); exact HO331.out) hb); have n1_ := Aside0.mk (Kd.R_elder' (by (with_reducible repeat (first | apply Kd.R_alloc | apply Kd.R_drewN | apply Kd.R_drew)); exact HO342.out) (Kd.R_base ho0) hb); have n2_ := Aside0.mk (Kd.R_elder' (by (with_reducible repeat (first | apply Kd.R_alloc | apply Kd.R_drewN | apply Kd.R_drew)); exact HO346.out) (Kd.R_base ho0) hb); have n3_ := Aside0.mk (Kd.R_lower (Kd.R_new' (Kd.R_new' ho0 (Kd.R_lt (by (with_reducible repeat (first | apply Kd.R_alloc | apply Kd.R_drewN | apply Kd.R_drew)); exact HO342.out))) (Kd.R_lt (by (with_reducible repeat (first | apply Kd.R_alloc | apply Kd.R_drewN | apply Kd.R_drew)); exact HO346.out))) (below_size (by repeat (first | (with_reducible first | exact HB.out | apply below_alloc | apply pw_below_drewN | apply below_drew1) | exact HB.out)))); have n4_ := Aside0.mk (Kd.C_below (by repeat (first | (with_reducible exact HR335.out) | (with_reducible refine Kd.C_alloc ?_ _) | (with_reducible refine Kd.C_drewN ?_ _) | (with_reducible refine Kd.C_drew ?_) | exact HR335.out)) hb); have n5_ := Aside0.mk (below_step (by repeat (first | (with_reducible first | exact HB.out | apply below_alloc | apply pw_below_drewN | apply below_drew1) | exact HB.out)) hb); clear HO331; clear HO342; clear HO346; clear HR335; clear HB; have HO331 := n0_; have HO342 := n1_; have HO346 := n2_; have HO350 := n3_; have HR335 := n4_; have HB := n5_; clear n0_ n1_ n2_ n3_ n4_ n5_; (try clear hb); (try clear hb2); (try clear hk); (try clear hi); (try clear ho0); obtain ⟨Ao26, co26, eo26⟩ := Kd.R_slice HO342.out; subst eo26))
            go_loopg [51] k (fun kq v51 w' => ∃ (x7_1 : List Int) (x51_1 : Int), v51 = .int .i64 x51_1 ∧ Aside0 (pylonlaw17_BlockKeeps.l0 kq l0 y329 y332 x7_1 t343 t347 (t339.length : Int) x51_1 = some r) ∧ Aside0 (kq ≤ k) ∧ Aside0 (Kd.R k35 35 w' w.heap.size (fun _ => True) (.slice Ao20 y329.length co20) y329) ∧ Aside0 (Kd.R (Kd.int .i64) 2 w' w.heap.size (fun k_ => some k_ ≠ (v345 : Value).ownBlock ∧ some k_ ≠ (v349 : Value).ownBlock) (.slice Ao26 t339.length co26) x7_1) ∧ Aside0 (Kd.R (Kd.int .i64) 2 w' w.heap.size (fun k_ => some k_ ≠ ((.slice Ao26 t339.length co26) : Value).ownBlock ∧ some k_ ≠ (v349 : Value).ownBlock) v345 t343) ∧ Aside0 (Kd.R (Kd.int .i64) 2 w' w.heap.size (fun k_ => some k_ ≠ ((.slice Ao26 t339.length co26) : Value).ownBlock ∧ some k_ ≠ (v345 : Value).ownBlock) v349 t347) ∧ Aside0 (Below w.heap.size w w'))
            case atStart => exact ⟨(t339), (0), (by first | rfl | (simp; done) | (simp [*]; done)), H', ⟨Nat.le_refl _⟩, ⟨by (with_reducible repeat (first | apply Kd.R_alloc | apply Kd.R_drewN | apply Kd.R_drew)); exact HO331.out⟩, ⟨by (with_reducible repeat (first | apply Kd.R_alloc | apply Kd.R_drewN | apply Kd.R_drew)); exact Kd.R_mono HO342.out (fun _ hk => ⟨hk.1.2, hk.2⟩)⟩, ⟨by (with_reducible repeat (first | apply Kd.R_alloc | apply Kd.R_drewN | apply Kd.R_drew)); exact Kd.R_mono HO346.out (fun _ hk => ⟨hk.1.2, hk.2⟩)⟩, ⟨by (with_reducible repeat (first | apply Kd.R_alloc | apply Kd.R_drewN | apply Kd.R_drew)); exact Kd.R_mono HO350.out (fun _ hk => ⟨hk.1.2, hk.2⟩)⟩, ⟨by repeat (first | (with_reducible first | exact HB.out | apply below_alloc | apply pw_below_drewN | apply below_drew1) | exact HB.out)⟩⟩
            case round =>
              clear H'
              try clear c1
              try clear q1
              try clear p2
              try clear c4
              try clear c5
              try clear c6
              try clear c7
              try clear c7b0
              try clear c7b1
              try clear c8
              try clear c8b0
              try clear c8b1
              try clear c9
              try clear c10
              try clear c12
              try clear c13
              try clear c14
              try clear q19
              try clear q19
              obtain ⟨x7_1, x51_1, rfl, HA, HK1, HO_5, HO_7, HO_9, HO_11, HB⟩ := hrel
              have hl7_1 := (Kd.R_reads' HO_7.out).1
              rw [hl7_1] at HO_7
              (try simp only [hl7_1])
              (try simp only [hl7_1] at HO_5)
              (try simp only [hl7_1] at HO_9)
              (try simp only [hl7_1] at HO_11)
              cases gk with
              | zero => exact absurd HA.out (by simp [pylonlaw17_BlockKeeps.l0])
              | succ k1 =>
                have H := HA.out
                clear HA
                simp only [pylonlaw17_BlockKeeps.l0] at H
                by_cases c27 : x51_1 < (t339.length : Int)
                · rw [if_pos c27] at H
                  have c27b0 : decide (x51_1 < (t339.length : Int)) = true := decide_eq_true c27
                  (try (have c27z0 := c27b0; simp only [hl7_1] at c27z0))
                  clear c27
                  by_cases c28 : 0 ≤ x51_1
                  · rw [if_pos c28] at H
                    have c28b0 : decide (0 ≤ x51_1) = true := decide_eq_true c28
                    clear c28
                    by_cases c29 : x51_1 < (x7_1.length : Int)
                    · rw [if_pos c29] at H
                      have c29b0 : decide (x51_1 < (x7_1.length : Int)) = true := decide_eq_true c29
                      (try (have c29z0 := c29b0; simp only [hl7_1] at c29z0))
                      clear c29
                      obtain ⟨y351, hy351⟩ : ∃ y_ : List Int, y_ = (x7_1.set (x51_1 : Int).toNat (-7)) := ⟨_, rfl⟩
                      replace H : (pylonlaw17_BlockKeeps.l0 k1 l0 y329 y332 y351 t343 t347 (t339.length : Int) (wrap64 (x51_1 + 1))) = some r := by first | (rw [hy351]; with_reducible exact H) | (have H2_ := (Option.bind_some _ _).symm.trans H; rw [hy351]; with_reducible exact H2_) | (have H2_ := (Option.bind_some _ _).symm.trans H; with_reducible exact H2_) | with_reducible exact H | (rw [hy351]; exact H) | exact H
                      have Ny351 := Aside0.mk hy351
                      clear hy351
                      have H' := Aside0.mk H
                      clear H
                      have p30 : 0 ≤ (x51_1 : Int) := of_decide_eq_true (by first | (with_reducible assumption) | assumption)
                      have q30 : (x51_1 : Int) < ((x7_1.length : Int) : Int) := of_decide_eq_true (by first | (with_reducible assumption) | assumption)
                      obtain ⟨go30, co30, eo30, gb30, gl30, cl30, HG30⟩ := Kd.R_form HO_7.out (by omega)
                      (first | cases eo30 | (injection eo30 with ea_ en_ ec_; (first | subst ea_ | (injection ea_ with ea_; subst ea_)); subst ec_; clear en_))
                      have GB30 := Aside0.mk gb30
                      have GG30 := Aside0.mk HG30
                      clear gb30 gl30 HG30
                      obtain ⟨hx30_0, hf30_0⟩ := Kd.R_celln 0 HO_7.out (x51_1 : Int) p30 q30
                      replace p30 := eq_true p30
                      replace q30 := eq_true q30
                      have HP31 := Kd.R_putg HO_7.out (x51_1 : Int) (-7)
                      go_wp2_with (first | ((with_reducible refine gate_store (t := 2) (p := 56) rfl ?_); refine store_event (t := 2) (p := 56) (v := ?vo_w32) (w1 := (wr.setCell ⟨go30, (x51_1 : Int).toNat, none⟩ (.int .i64 (-7)))) ?hg ?ho ?hn ?hr ?_; (case ho => rfl); (case hg => rfl); (case hn => rfl); (case hr => first | (go_simp; done) | (go_simp; rfl)); intro w32 hw; have hg : wr.grownBy w32 (some go30) := (by rw [hw]; exact HP31.2); have hp_ : Kd.R (Kd.int .i64) 2 w32 w.heap.size (fun k_ => some k_ ≠ (v345 : Value).ownBlock ∧ some k_ ≠ (v349 : Value).ownBlock) (.slice (some ⟨go30, 0, none⟩) x7_1.length co26) y351 := (by rw [hw, Ny351.out]; exact HP31.1); clear HP31; have n0_ := Aside0.mk (Kd.R_over' (v := (.slice (some ⟨go30, 0, none⟩) x7_1.length co26)) (by (with_reducible repeat (first | apply Kd.R_alloc | apply Kd.R_drewN | apply Kd.R_drew)); exact HO_5.out) (Kd.R_typed HO_7.out) (by decide) hg); have n1_ := Aside0.mk (hp_); have n2_ := Aside0.mk (Kd.R_after (v := (.slice (some ⟨go30, 0, none⟩) x7_1.length co26)) (v1 := (.slice (some ⟨go30, 0, none⟩) x7_1.length co26)) (ok := (fun k_ => some k_ ≠ (v349 : Value).ownBlock)) (by (with_reducible repeat (first | apply Kd.R_alloc | apply Kd.R_drewN | apply Kd.R_drew)); exact Kd.R_mono HO_9.out (fun _ hk => ⟨hk.2, hk.1⟩)) hg (.inl rfl)); have n3_ := Aside0.mk (Kd.R_after (v := (.slice (some ⟨go30, 0, none⟩) x7_1.length co26)) (v1 := (.slice (some ⟨go30, 0, none⟩) x7_1.length co26)) (ok := (fun k_ => some k_ ≠ (v345 : Value).ownBlock)) (by (with_reducible repeat (first | apply Kd.R_alloc | apply Kd.R_drewN | apply Kd.R_drew)); exact Kd.R_mono HO_11.out (fun _ hk => ⟨hk.2, hk.1⟩)) hg (.inl rfl)); have n4_ := Aside0.mk ((by rw [hw]; exact below_set (HB.out) GB30.out : Below w.heap.size w w32)); clear HO_5; clear HO_7; clear HO_9; clear HO_11; clear HB; have HO_5 := n0_; have HO_7 := n1_; have HO_9 := n2_; have HO_11 := n3_; have HB := n4_; clear n0_ n1_ n2_ n3_ n4_; clear hg hw hp_))
                      (try simp only [← hl7_1])
                      go_roundg k1
                      case measure => have := HK1.out; omega
                      case rel => exact ⟨(y351), (wrap64 (x51_1 + 1)), (by first | rfl | (simp; done) | (simp [*]; done)), H', ⟨by have := HK1.out; omega⟩, ⟨by (try simp only [hl7_1]); (with_reducible repeat (first | apply Kd.R_alloc | apply Kd.R_drewN | apply Kd.R_drew)); exact HO_5.out⟩, ⟨by (try simp only [hl7_1]); (with_reducible repeat (first | apply Kd.R_alloc | apply Kd.R_drewN | apply Kd.R_drew)); exact HO_7.out⟩, ⟨by (try simp only [hl7_1]); (with_reducible repeat (first | apply Kd.R_alloc | apply Kd.R_drewN | apply Kd.R_drew)); exact Kd.R_mono HO_9.out (fun _ hk => ⟨hk.2, hk.1⟩)⟩, ⟨by (try simp only [hl7_1]); (with_reducible repeat (first | apply Kd.R_alloc | apply Kd.R_drewN | apply Kd.R_drew)); exact Kd.R_mono HO_11.out (fun _ hk => ⟨hk.2, hk.1⟩)⟩, ⟨by repeat (first | (with_reducible first | exact HB.out | apply below_alloc | apply pw_below_drewN | apply below_drew1) | exact HB.out)⟩⟩
                    · rw [if_neg c29] at H
                      exact absurd H (by simp)
                  · rw [if_neg c28] at H
                    exact absurd H (by simp)
                · rw [if_neg c27] at H
                  have c27b0 : decide (x51_1 < (t339.length : Int)) = false := decide_eq_false c27
                  (try (have c27z0 := c27b0; simp only [hl7_1] at c27z0))
                  clear c27
                  have H' := Aside0.mk H
                  clear H
                  go_wp2
                  go_loopg [7, 58] k1 (fun kq v7 v58 w' => ∃ (x7_2 : List Int) (x58_2 : Int), v58 = .int .i64 x58_2 ∧ Aside0 (pylonlaw17_BlockKeeps.l1 kq l0 y329 y332 x7_2 t343 t347 x58_2 = some r) ∧ Aside0 (kq ≤ k1) ∧ Aside0 (Kd.R k35 35 w' w.heap.size (fun _ => True) (.slice Ao20 y329.length co20) y329) ∧ Aside0 (Kd.R (Kd.int .i64) 2 w' w.heap.size (fun k_ => some k_ ≠ (v345 : Value).ownBlock ∧ some k_ ≠ (v349 : Value).ownBlock) v7 x7_2) ∧ Aside0 (Kd.R (Kd.int .i64) 2 w' w.heap.size (fun k_ => some k_ ≠ (v7 : Value).ownBlock ∧ some k_ ≠ (v349 : Value).ownBlock) v345 t343) ∧ Aside0 (Kd.R (Kd.int .i64) 2 w' w.heap.size (fun k_ => some k_ ≠ (v7 : Value).ownBlock ∧ some k_ ≠ (v345 : Value).ownBlock) v349 t347) ∧ Aside0 (Below w.heap.size w w'))
                  case atStart => exact ⟨(x7_1), (0), (by first | rfl | (simp; done) | (simp [*]; done)), H', ⟨Nat.le_refl _⟩, ⟨by (try simp only [hl7_1]); (with_reducible repeat (first | apply Kd.R_alloc | apply Kd.R_drewN | apply Kd.R_drew)); exact HO_5.out⟩, ⟨by (try simp only [hl7_1]); (with_reducible repeat (first | apply Kd.R_alloc | apply Kd.R_drewN | apply Kd.R_drew)); exact HO_7.out⟩, ⟨by (try simp only [hl7_1]); (with_reducible repeat (first | apply Kd.R_alloc | apply Kd.R_drewN | apply Kd.R_drew)); exact HO_9.out⟩, ⟨by (try simp only [hl7_1]); (with_reducible repeat (first | apply Kd.R_alloc | apply Kd.R_drewN | apply Kd.R_drew)); exact HO_11.out⟩, ⟨by repeat (first | (with_reducible first | exact HB.out | apply below_alloc | apply pw_below_drewN | apply below_drew1) | exact HB.out)⟩⟩
                  case round =>
                    clear H'
                    try clear c1
                    try clear q1
                    try clear c2
                    try clear p2
                    try clear p3
                    try clear q3
                    try clear hx3
                    try clear hf3
                    try clear c4
                    try clear c5
                    try clear c6
                    try clear p6
                    try clear c7
                    try clear c7b0
                    try clear c7b1
                    try clear c8
                    try clear c8b0
                    try clear c8b1
                    try clear c9
                    try clear c10
                    try clear c12
                    try clear c13
                    try clear c14
                    try clear q19
                    try clear c27
                    try clear c27b0
                    try clear c28
                    try clear c28b0
                    try clear c29
                    try clear c29b0
                    try clear p30
                    try clear q30
                    try clear hx30
                    try clear hf30
                    try clear hx30_0
                    try clear p2
                    try clear p30
                    try clear q1
                    try clear q19
                    try clear q30
                    obtain ⟨x7_2, x58_2, rfl, HA, HK2, HO_5, HO_7, HO_9, HO_11, HB⟩ := hrel
                    cases gk with
                    | zero => exact absurd HA.out (by simp [pylonlaw17_BlockKeeps.l1])
                    | succ k2 =>
                      have H := HA.out
                      clear HA
                      simp only [pylonlaw17_BlockKeeps.l1] at H
                      by_cases c33 : x58_2 < 20
                      · rw [if_pos c33] at H
                        have c33b0 : decide (x58_2 < 20) = true := decide_eq_true c33
                        clear c33
                        by_cases c34 : x7_2.length < 17592186044416
                        · rw [if_pos c34] at H
                          have LMc34 := Aside0.mk c34
                          clear c34
                          obtain ⟨y352, hy352⟩ : ∃ y_ : List Int, y_ = (x7_2 ++ [(-7)]) := ⟨_, rfl⟩
                          replace H : (pylonlaw17_BlockKeeps.l1 k2 l0 y329 y332 y352 t343 t347 (wrap64 (x58_2 + 1))) = some r := by first | (rw [hy352]; with_reducible exact H) | (have H2_ := (Option.bind_some _ _).symm.trans H; rw [hy352]; with_reducible exact H2_) | (have H2_ := (Option.bind_some _ _).symm.trans H; with_reducible exact H2_) | with_reducible exact H | (rw [hy352]; exact H) | exact H
                          have Ny352 := Aside0.mk hy352
                          clear hy352
                          have H' := Aside0.mk H
                          clear H
                          go_wp2_with (first | ((with_reducible refine gate_builtin (b := .append) (xs := #[.tmp 60, .tmp 61]) rfl ?_); (try (refine gate_guard (by rfl) ?_; dsimp only)); at_builtin; refine Kd.R_append (Kd.int .i64) (w0 := w) w.heap.size rfl (.tmp 60) (.tmp 61) 24 2 (.int .i64 0) 8 rfl Try.underlying24 info2 rfl (by decide) (by omega) u7 x7_2 (-7) [.int .i64 (-7)] (fun k_ => some k_ ≠ (v345 : Value).ownBlock ∧ some k_ ≠ (v349 : Value).ownBlock) (fun _ => False) rfl rfl ?aP (fun _ hk => hk.elim) ?aF ?aO ?aB ?aS ?aL ?_; (case aP => exact rfl); (case aB => exact (by repeat (first | (with_reducible first | exact HB.out | apply below_alloc | apply pw_below_drewN | apply below_drew1) | exact HB.out))); (case aF => exact (fun k_ hk => ⟨Kd.fresh' (Kd.R_lt (by (with_reducible repeat (first | apply Kd.R_alloc | apply Kd.R_drewN | apply Kd.R_drew)); exact HO_9.out)) k_ hk, Kd.fresh' (Kd.R_lt (by (with_reducible repeat (first | apply Kd.R_alloc | apply Kd.R_drewN | apply Kd.R_drew)); exact HO_11.out)) k_ hk⟩)); (case aO => exact (by (with_reducible repeat (first | apply Kd.R_alloc | apply Kd.R_drewN | apply Kd.R_drew)); exact HO_7.out)); (case aS => exact (below_size (by repeat (first | (with_reducible first | exact HB.out | apply below_alloc | apply pw_below_drewN | apply below_drew1) | exact HB.out)))); (case aL => have := LMc34.out; omega); intro v353 w35 ho hb hg hat; rw [← Ny352.out] at ho; have n0_ := Aside0.mk (Kd.R_over' (by (with_reducible repeat (first | apply Kd.R_alloc | apply Kd.R_drewN | apply Kd.R_drew)); exact HO_5.out) (Kd.R_typed (by (with_reducible repeat (first | apply Kd.R_alloc | apply Kd.R_drewN | apply Kd.R_drew)); exact HO_7.out)) (by decide) hg); have n1_ := Aside0.mk (Kd.R_after (ok := (fun k_ => some k_ ≠ (v349 : Value).ownBlock)) (by (with_reducible repeat (first | apply Kd.R_alloc | apply Kd.R_drewN | apply Kd.R_drew)); exact Kd.R_mono HO_9.out (fun _ hk => ⟨hk.2, hk.1⟩)) hg hat); have n2_ := Aside0.mk (Kd.R_after (ok := (fun k_ => some k_ ≠ (v345 : Value).ownBlock)) (by (with_reducible repeat (first | apply Kd.R_alloc | apply Kd.R_drewN | apply Kd.R_drew)); exact Kd.R_mono HO_11.out (fun _ hk => ⟨hk.2, hk.1⟩)) hg hat); have n3_ := Aside0.mk (hb); have n4_ := Aside0.mk (ho); clear HO_5; clear HO_9; clear HO_11; clear HB; clear HO_7; have HO_5 := n0_; have HO_9 := n1_; have HO_11 := n2_; have HB := n3_; have HO354 := n4_; clear n0_ n1_ n2_ n3_ n4_; clear ho hb hg hat))
                          go_roundg k2
                          case measure => have := HK1.out; have := HK2.out; omega
                          case rel => exact ⟨(y352), (wrap64 (x58_2 + 1)), (by first | rfl | (simp; done) | (simp [*]; done)), H', ⟨by have := HK1.out; have := HK2.out; omega⟩, ⟨by (try simp only [hl7_1]); (with_reducible repeat (first | apply Kd.R_alloc | apply Kd.R_drewN | apply Kd.R_drew)); exact HO_5.out⟩, ⟨by (try simp only [hl7_1]); (with_reducible repeat (first | apply Kd.R_alloc | apply Kd.R_drewN | apply Kd.R_drew)); exact HO354.out⟩, ⟨by (try simp only [hl7_1]); (with_reducible repeat (first | apply Kd.R_alloc | apply Kd.R_drewN | apply Kd.R_drew)); exact Kd.R_mono HO_9.out (fun _ hk => ⟨hk.2, hk.1⟩)⟩, ⟨by (try simp only [hl7_1]); (with_reducible repeat (first | apply Kd.R_alloc | apply Kd.R_drewN | apply Kd.R_drew)); exact Kd.R_mono HO_11.out (fun _ hk => ⟨hk.2, hk.1⟩)⟩, ⟨by repeat (first | (with_reducible first | exact HB.out | apply below_alloc | apply pw_below_drewN | apply below_drew1) | exact HB.out)⟩⟩
                        · rw [if_neg c34] at H
                          exact absurd H (by simp)
                      · rw [if_neg c33] at H
                        have c33b0 : decide (x58_2 < 20) = false := decide_eq_false c33
                        clear c33
                        replace H := Option.bind_eq_some_iff.mp H
                        obtain ⟨t355, A360, H⟩ := H
                        replace H : (if t355 = true then (if 0 ≤ (l0.length : Int) then (if (l0.length : Int) < (y329.length : Int) then (if ((rd_T35 y329 (l0.length : Int)).f0) = 77 then ((pylonref01_SameNumbers.f k2 t343 t347).bind fun t357 => (some t357)) else (some false)) else (none)) else (none)) else (some false)) = some r := H
                        have A36 := Aside0.mk A360
                        clear A360
                        by_cases c37 : t355 = true
                        · subst c37
                          have H1 : (if 0 ≤ (l0.length : Int) then (if (l0.length : Int) < (y329.length : Int) then (if ((rd_T35 y329 (l0.length : Int)).f0) = 77 then ((pylonref01_SameNumbers.f k2 t343 t347).bind fun t357 => (some t357)) else (some false)) else (none)) else (none)) = some r := by rw [if_pos rfl] at H; exact H
                          clear H
                          have H := H1
                          clear H1
                          by_cases c38 : 0 ≤ (l0.length : Int)
                          · rw [if_pos c38] at H
                            have c38b0 : decide (0 ≤ (l0.length : Int)) = true := decide_eq_true c38
                            (try (have c38z0 := c38b0; simp only [hl7_1] at c38z0))
                            have c38b1 : decide (0 ≤ l0.length) = true := decide_eq_true (by omega)
                            (try (have c38z1 := c38b1; simp only [hl7_1] at c38z1))
                            clear c38
                            by_cases c39 : (l0.length : Int) < (y329.length : Int)
                            · rw [if_pos c39] at H
                              have c39b0 : decide ((l0.length : Int) < (y329.length : Int)) = true := decide_eq_true c39
                              (try (have c39z0 := c39b0; simp only [hl7_1] at c39z0))
                              have c39b1 : decide (l0.length < y329.length) = true := decide_eq_true (Int.ofNat_lt.mp c39)
                              (try (have c39z1 := c39b1; simp only [hl7_1] at c39z1))
                              clear c39
                              by_cases c40 : ((rd_T35 y329 (l0.length : Int)).f0) = 77
                              · rw [if_pos c40] at H
                                have c40b0 : (((rd_T35 y329 (l0.length : Int)).f0) == 77) = true := beq_iff_eq.mpr c40
                                (try (have c40z0 := c40b0; simp only [hl7_1] at c40z0))
                                have c40b1 : (((rd_T35 y329 (l0.length : Int)).f0) != 77) = false := bne_eq_false_iff_eq.mpr c40
                                (try (have c40z1 := c40b1; simp only [hl7_1] at c40z1))
                                clear c40
                                replace H := Option.bind_eq_some_iff.mp H
                                obtain ⟨t357, A410, H⟩ := H
                                replace H : (some t357) = some r := H
                                have A41 := Aside0.mk A410
                                clear A410
                                obtain rfl := Option.some.inj H
                                go_wp2_with (first | ((with_reducible refine gate_callee (f := 19) rfl ?_); refine goesL_ (some 66) rfl rfl Try.func19 (by kernel_rfl) rfl #[.slice Ao20 y332.length co20, .slice A0 l0.length c0] rfl (by (try simp only [List.map_toArray, List.map_cons, List.map_nil]); first | done | rfl | (simp only [List.length_drop, List.length_take]; rfl)) ?_; (with_reducible refine (pylonref08_SameSteps.calls k2 _ _ y332 _ _ l0 true _ ?side1 ?side2 ?side3 ?side4 A36.out).mono ?_); (case side1 => repeat (first | exact (by refine Kd.C_take_eq (k := k35) (A := Ao20) (m := ((l0.length : Int) : Int).toNat) Ny332.out KL19.out ?_; exact (Kd.R_reads' HO_5.out).2.2) | (with_reducible refine Kd.C_alloc ?_ _) | (with_reducible refine Kd.C_drewN ?_ _) | (with_reducible refine Kd.C_drew ?_))); (case side2 => exact HC335.out); (case side3 => repeat (first | exact (Kd.C_below HR0.out HB.out) | (with_reducible refine Kd.C_alloc ?_ _) | (with_reducible refine Kd.C_drewN ?_ _) | (with_reducible refine Kd.C_drew ?_))); (case side4 => exact HC0.out); rintro e w' ⟨rfl, ⟨nd, rfl⟩⟩; refine ⟨_, rfl, ?_⟩; have p356 : 0 ≤ ((l0.length : Int) : Int) := of_decide_eq_true (by first | (with_reducible assumption) | assumption); have q356 : (l0.length : Int) < (y329.length : Int) := of_decide_eq_true (by first | (with_reducible assumption) | assumption); obtain ⟨ad356, e356, hx356_0, hx356_1⟩ := at_T35 (Kd.R_reads' HO_5.out).2.2 (l0.length : Int) p356 q356; cases e356; (try simp only [Go.IntWalk.toNatUp] at hx356_0); (try simp only [Go.IntWalk.toNatUp] at hx356_1); (try simp only [hl7_1] at p356); (try simp only [hl7_1] at q356); (try simp only [hl7_1] at hx356_0); (try simp only [hl7_1] at hx356_1); replace p356 := eq_true p356; replace q356 := eq_true q356; obtain ⟨Ao42, co42, eo42⟩ := Kd.R_slice HO_9.out; subst eo42; obtain ⟨Ao43, co43, eo43⟩ := Kd.R_slice HO_11.out; subst eo43) | (go_at_call 16; (with_reducible refine (pylonref01_SameNumbers.calls k2 _ _ t343 _ _ t347 t357 _ ?side1 ?side2 ?side3 ?side4 A41.out).mono ?_); (case side1 => repeat (first | exact (Kd.R_reads' HO_9.out).2.2 | (with_reducible refine Kd.C_alloc ?_ _) | (with_reducible refine Kd.C_drewN ?_ _) | (with_reducible refine Kd.C_drew ?_))); (case side2 => exact (Kd.R_reads' HO_9.out).2.1); (case side3 => repeat (first | exact (Kd.R_reads' HO_11.out).2.2 | (with_reducible refine Kd.C_alloc ?_ _) | (with_reducible refine Kd.C_drewN ?_ _) | (with_reducible refine Kd.C_drew ?_))); (case side4 => exact (Kd.R_reads' HO_11.out).2.1); rintro e w' ⟨rfl, ⟨nd, rfl⟩⟩))
                                go_ret
                                exact ⟨by first | rfl | (simp [errW_none, errW_some] <;> rfl) | (simp [*, errW_none, errW_some] <;> rfl), by repeat (first | (with_reducible first | exact HB.out | apply below_alloc | apply pw_below_drewN | apply below_drew1) | exact HB.out)⟩
                              · rw [if_neg c40] at H
                                have c40b0 : (((rd_T35 y329 (l0.length : Int)).f0) == 77) = false := beq_eq_false_iff_ne.mpr c40
                                (try (have c40z0 := c40b0; simp only [hl7_1] at c40z0))
                                have c40b1 : (((rd_T35 y329 (l0.length : Int)).f0) != 77) = true := bne_iff_ne.mpr c40
                                (try (have c40z1 := c40b1; simp only [hl7_1] at c40z1))
                                obtain rfl := Option.some.inj H
                                go_wp2_with (first | ((with_reducible refine gate_callee (f := 19) rfl ?_); refine goesL_ (some 66) rfl rfl Try.func19 (by kernel_rfl) rfl #[.slice Ao20 y332.length co20, .slice A0 l0.length c0] rfl (by (try simp only [List.map_toArray, List.map_cons, List.map_nil]); first | done | rfl | (simp only [List.length_drop, List.length_take]; rfl)) ?_; (with_reducible refine (pylonref08_SameSteps.calls k2 _ _ y332 _ _ l0 true _ ?side1 ?side2 ?side3 ?side4 A36.out).mono ?_); (case side1 => repeat (first | exact (by refine Kd.C_take_eq (k := k35) (A := Ao20) (m := ((l0.length : Int) : Int).toNat) Ny332.out KL19.out ?_; exact (Kd.R_reads' HO_5.out).2.2) | (with_reducible refine Kd.C_alloc ?_ _) | (with_reducible refine Kd.C_drewN ?_ _) | (with_reducible refine Kd.C_drew ?_))); (case side2 => exact HC335.out); (case side3 => repeat (first | exact (Kd.C_below HR0.out HB.out) | (with_reducible refine Kd.C_alloc ?_ _) | (with_reducible refine Kd.C_drewN ?_ _) | (with_reducible refine Kd.C_drew ?_))); (case side4 => exact HC0.out); rintro e w' ⟨rfl, ⟨nd, rfl⟩⟩; refine ⟨_, rfl, ?_⟩; have p356 : 0 ≤ ((l0.length : Int) : Int) := of_decide_eq_true (by first | (with_reducible assumption) | assumption); have q356 : (l0.length : Int) < (y329.length : Int) := of_decide_eq_true (by first | (with_reducible assumption) | assumption); obtain ⟨ad356, e356, hx356_0, hx356_1⟩ := at_T35 (Kd.R_reads' HO_5.out).2.2 (l0.length : Int) p356 q356; cases e356; (try simp only [Go.IntWalk.toNatUp] at hx356_0); (try simp only [Go.IntWalk.toNatUp] at hx356_1); (try simp only [hl7_1] at p356); (try simp only [hl7_1] at q356); (try simp only [hl7_1] at hx356_0); (try simp only [hl7_1] at hx356_1); replace p356 := eq_true p356; replace q356 := eq_true q356))
                                go_ret
                                exact ⟨by first | rfl | (simp [errW_none, errW_some] <;> rfl) | (simp [*, errW_none, errW_some] <;> rfl), by repeat (first | (with_reducible first | exact HB.out | apply below_alloc | apply pw_below_drewN | apply below_drew1) | exact HB.out)⟩
                            · rw [if_neg c39] at H
                              exact absurd H (by simp)
                          · rw [if_neg c38] at H
                            exact absurd H (by simp)
                        · replace c37 := Bool.eq_false_iff.mpr c37
                          subst c37
                          have H1 : (some false) = some r := by rw [if_neg (show ¬ (false = true) by decide)] at H; exact H
                          clear H
                          have H := H1
                          clear H1
                          obtain rfl := Option.some.inj H
                          go_wp2_with (first | ((with_reducible refine gate_callee (f := 19) rfl ?_); refine goesL_ (some 66) rfl rfl Try.func19 (by kernel_rfl) rfl #[.slice Ao20 y332.length co20, .slice A0 l0.length c0] rfl (by (try simp only [List.map_toArray, List.map_cons, List.map_nil]); first | done | rfl | (simp only [List.length_drop, List.length_take]; rfl)) ?_; (with_reducible refine (pylonref08_SameSteps.calls k2 _ _ y332 _ _ l0 false _ ?side1 ?side2 ?side3 ?side4 A36.out).mono ?_); (case side1 => repeat (first | exact (by refine Kd.C_take_eq (k := k35) (A := Ao20) (m := ((l0.length : Int) : Int).toNat) Ny332.out KL19.out ?_; exact (Kd.R_reads' HO_5.out).2.2) | (with_reducible refine Kd.C_alloc ?_ _) | (with_reducible refine Kd.C_drewN ?_ _) | (with_reducible refine Kd.C_drew ?_))); (case side2 => exact HC335.out); (case side3 => repeat (first | exact (Kd.C_below HR0.out HB.out) | (with_reducible refine Kd.C_alloc ?_ _) | (with_reducible refine Kd.C_drewN ?_ _) | (with_reducible refine Kd.C_drew ?_))); (case side4 => exact HC0.out); rintro e w' ⟨rfl, ⟨nd, rfl⟩⟩; refine ⟨_, rfl, ?_⟩))
                          go_ret
                          exact ⟨by first | rfl | (simp [errW_none, errW_some] <;> rfl) | (simp [*, errW_none, errW_some] <;> rfl), by repeat (first | (with_reducible first | exact HB.out | apply below_alloc | apply pw_below_drewN | apply below_drew1) | exact HB.out)⟩
          · rw [if_neg c8] at H
            exact absurd H (by simp)
        · rw [if_neg c7] at H
          exact absurd H (by simp)
      · rw [if_neg c6] at H
        exact absurd H (by simp)
    · rw [if_neg c5] at H
      exact absurd H (by simp)
  · replace c4 := Bool.eq_false_iff.mpr c4
    subst c4
    have H1 : (some false) = some r := by rw [if_neg (show ¬ (false = true) by decide)] at H; exact H
    clear H
    have H := H1
    clear H1
    obtain rfl := Option.some.inj H
    go_enter Try.func8, Try.ntmps8
    go_wp2_with (first | ((with_reducible refine gate_callee (f := 9) rfl ?_); refine goesL_ (some 14) rfl rfl Try.func9 (by kernel_rfl) rfl #[] rfl (by (try simp only [List.map_toArray, List.map_cons, List.map_nil]); first | done | rfl | (simp only [List.length_drop, List.length_take]; rfl)) ?_; (with_reducible refine (pylonlaw17_awake.calls k  false _ A3.out).mono ?_); rintro e w44 ⟨rfl, hb⟩; refine ⟨_, rfl, ?_⟩; have n0_ := Aside0.mk (below_step (by repeat (first | (with_reducible first | exact HB.out | apply below_alloc | apply pw_below_drewN | apply below_drew1) | exact HB.out)) hb); clear HB; have HB := n0_; clear n0_; (try clear hb); (try clear hb2); (try clear hk); (try clear hi)))
    go_ret
    exact ⟨by first | rfl | (simp [errW_none, errW_some] <;> rfl) | (simp [*, errW_none, errW_some] <;> rfl), by repeat (first | (with_reducible first | exact HB.out | apply below_alloc | apply pw_below_drewN | apply below_drew1) | exact HB.out)⟩
/-- THE ONE PURE STATEMENT of pylonlaw17_BlockKeeps. -/
def pylonlaw17_BlockKeeps.Pure : Prop := ∀ (l0 : List (S35)) (a1 : Int), (l0.length * 16 ≤ 140737488351232 ∧ ∀ y_ ∈ l0, okS35 y_) → ((Lit.int .i64 a1).wf = true) → ∃ k, pylonlaw17_BlockKeeps.f k l0 a1 = some true

end Go.Proofs.Ythejabcfbbmkeaa.PB
