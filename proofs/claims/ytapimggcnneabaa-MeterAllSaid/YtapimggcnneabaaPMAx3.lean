-- Written by a program of this session for this claim (wip/print2.sh). Lean checks it.
import Derived.Test.YtapimggcnneabaaPMAx0
import Derived.Test.YtapimggcnneabaaPMAx2
namespace Go.Proofs.Ytapimggcnneabaa.PMA
open Go.Proofs.YtapimggcnneabaaW.PrintWords
attribute [local go_sem high] fx_eql fx_neq fx_lss fx_leq fx_gtr fx_geq fx_add fx_sub fx_mul fx_neg fx_toint cxx_add cxx_sub cxx_mul cxx_eql cxx_neq cxx_pick st_float st_complex
open Go.RowKit Go.Proofs.YtapimggcnneabaaW.PrintWords Go.Proofs.YtapimggcnneabaaW.PrintLast Go.Proofs.YtapimggcnneabaaW.PrintMore
attribute [local go_sem] max2_int min2_int max_two min_two max_three min_three max_four min_four   -- for this text's walks alone
set_option linter.unusedVariables false
set_option linter.unusedSimpArgs false

/-! ### pylonref12_Point: function 69 -/
mutual
def pylonref12_Point.j0 : Nat → Int → Int → Bool → Int → Int → Int → Int → Int → Option (Cx × Int)
 | 0, _, _, _, _, _, _, _, _ => none
 | k + 1, x1, x2, x22, x175000, x175001, x175002, x175003, x175004 => if x22 = true then (some (cx 0 0, 8)) else (if x175001 < 0 then (pylonref12_Point.j1 k x1 x2 true x175000 x175001 x175002 x175003 x175004) else (if x175001 > 10000000 then (pylonref12_Point.j1 k x1 x2 true x175000 x175001 x175002 x175003 x175004) else (if x175002 < 0 then (pylonref12_Point.j1 k x1 x2 true x175000 x175001 x175002 x175003 x175004) else (if x175002 > 10000000 then (pylonref12_Point.j1 k x1 x2 true x175000 x175001 x175002 x175003 x175004) else (if x175003 < (-10000000) then (pylonref12_Point.j1 k x1 x2 true x175000 x175001 x175002 x175003 x175004) else (pylonref12_Point.j1 k x1 x2 (decide (x175003 > 10000000)) x175000 x175001 x175002 x175003 x175004))))))
def pylonref12_Point.j1 : Nat → Int → Int → Bool → Int → Int → Int → Int → Int → Option (Cx × Int)
 | 0, _, _, _, _, _, _, _, _ => none
 | k + 1, x1, x2, x50, x175000, x175001, x175002, x175003, x175004 => if x50 = true then (some (cx 0 0, 5)) else ((pylonref12_turned.f k (wrap64 ((wrap64 (x175001 - x175002)) * x1)) (wrap64 (x175003 * x1)) x2).bind fun bt175 => ((pylonref02_Made.f bt175.1 bt175.2).bind fun t178 => (some (t178, 0))))
end
def pylonref12_Point.f (k : Nat) (a0_0 : Int) (a0_1 : Int) (a0_2 : Int) (a0_3 : Int) (a0_4 : Int) (a1 : Int) (a2 : Int) : Option (Cx × Int) := if a1 < 1 then (pylonref12_Point.j0 k a1 a2 true a0_0 a0_1 a0_2 a0_3 a0_4) else (if a1 > 1000 then (pylonref12_Point.j0 k a1 a2 true a0_0 a0_1 a0_2 a0_3 a0_4) else (if a2 < 0 then (pylonref12_Point.j0 k a1 a2 true a0_0 a0_1 a0_2 a0_3 a0_4) else (pylonref12_Point.j0 k a1 a2 (decide (a2 > 3)) a0_0 a0_1 a0_2 a0_3 a0_4)))
theorem pylonref12_Point.mono_l : ∀ k, (∀ y0 y1 y2 y3 y4 y5 y6 y7, LeO (pylonref12_Point.j0 k y0 y1 y2 y3 y4 y5 y6 y7) (pylonref12_Point.j0 (k + 1) y0 y1 y2 y3 y4 y5 y6 y7)) ∧ (∀ y0 y1 y2 y3 y4 y5 y6 y7, LeO (pylonref12_Point.j1 k y0 y1 y2 y3 y4 y5 y6 y7) (pylonref12_Point.j1 (k + 1) y0 y1 y2 y3 y4 y5 y6 y7))
 | 0 => ⟨fun _ _ _ _ _ _ _ _ r h => by simp [pylonref12_Point.j0] at h, fun _ _ _ _ _ _ _ _ r h => by simp [pylonref12_Point.j1] at h⟩
 | k + 1 => by
  obtain ⟨ih0, ih1⟩ := pylonref12_Point.mono_l k
  refine ⟨?_, ?_⟩
  ·
   intro y0 y1 y2 y3 y4 y5 y6 y7
   unfold pylonref12_Point.j0
   repeat' first
   | (with_reducible exact ih0 _ _ _ _ _ _ _ _)
   | (with_reducible exact ih1 _ _ _ _ _ _ _ _)
   | (with_reducible exact pylonref12_turned.mono _ _ _ _)
   | (with_reducible exact LeO.refl _)
   | (with_reducible exact LeO.none _)
   | (with_reducible refine LeO.ite ?_ ?_)
   | (with_reducible refine LeO.bind ?_ (fun _ => ?_))
   | exact ih0 _ _ _ _ _ _ _ _
   | exact ih1 _ _ _ _ _ _ _ _
   | exact pylonref12_turned.mono _ _ _ _
   | exact LeO.none _
   | refine LeO.ite ?_ ?_
   | refine LeO.bind ?_ (fun _ => ?_)
  ·
   intro y0 y1 y2 y3 y4 y5 y6 y7
   unfold pylonref12_Point.j1
   repeat' first
   | (with_reducible exact ih0 _ _ _ _ _ _ _ _)
   | (with_reducible exact ih1 _ _ _ _ _ _ _ _)
   | (with_reducible exact pylonref12_turned.mono _ _ _ _)
   | (with_reducible exact LeO.refl _)
   | (with_reducible exact LeO.none _)
   | (with_reducible refine LeO.ite ?_ ?_)
   | (with_reducible refine LeO.bind ?_ (fun _ => ?_))
   | exact ih0 _ _ _ _ _ _ _ _
   | exact ih1 _ _ _ _ _ _ _ _
   | exact pylonref12_turned.mono _ _ _ _
   | exact LeO.none _
   | refine LeO.ite ?_ ?_
   | refine LeO.bind ?_ (fun _ => ?_)
theorem pylonref12_Point.mono : ∀ a0 a1 a2 a3 a4 a5 a6 k, LeO (pylonref12_Point.f k a0 a1 a2 a3 a4 a5 a6) (pylonref12_Point.f (k + 1) a0 a1 a2 a3 a4 a5 a6) := by
 intro a0 a1 a2 a3 a4 a5 a6 k
 obtain ⟨ih0, ih1⟩ := pylonref12_Point.mono_l k
 unfold pylonref12_Point.f
 repeat' first
   | (with_reducible exact ih0 _ _ _ _ _ _ _ _)
   | (with_reducible exact ih1 _ _ _ _ _ _ _ _)
   | (with_reducible exact pylonref12_turned.mono _ _ _ _)
   | (with_reducible exact LeO.refl _)
   | (with_reducible exact LeO.none _)
   | (with_reducible refine LeO.ite ?_ ?_)
   | (with_reducible refine LeO.bind ?_ (fun _ => ?_))
   | exact ih0 _ _ _ _ _ _ _ _
   | exact ih1 _ _ _ _ _ _ _ _
   | exact pylonref12_turned.mono _ _ _ _
   | exact LeO.none _
   | refine LeO.ite ?_ ?_
   | refine LeO.bind ?_ (fun _ => ?_)
set_option maxHeartbeats 8000000 in
set_option maxRecDepth 100000 in
theorem pylonref12_Point.calls (k : Nat) (a0_0 : Int) (a0_1 : Int) (a0_2 : Int) (a0_3 : Int) (a0_4 : Int) (a1 : Int) (a2 : Int) (r1 : Cx) (r2 : Int) (w : World) (h : pylonref12_Point.f k a0_0 a0_1 a0_2 a0_3 a0_4 a1 a2 = some (r1, r2)) :
  Calls Try.prog 69 #[.agg #[.int .i64 a0_0, .int .i64 a0_1, .int .i64 a0_2, .int .i64 a0_3, .int .u8 a0_4], .int .i64 a1, .int .i64 a2] w fun e w' => e = .returned (.tuple #[.complex .f64 r1.re r1.im, .int .i64 r2]) ∧ Below w.heap.size w w' := by
 have hu25 := Try.underlying25
 have hu111 := Try.underlying111
 have HB := Aside0.mk (Below.refl w.heap.size w)
 have H : (if a1 < 1 then (pylonref12_Point.j0 k a1 a2 true a0_0 a0_1 a0_2 a0_3 a0_4) else (if a1 > 1000 then (pylonref12_Point.j0 k a1 a2 true a0_0 a0_1 a0_2 a0_3 a0_4) else (if a2 < 0 then (pylonref12_Point.j0 k a1 a2 true a0_0 a0_1 a0_2 a0_3 a0_4) else (pylonref12_Point.j0 k a1 a2 (decide (a2 > 3)) a0_0 a0_1 a0_2 a0_3 a0_4)))) = some (r1, r2) := h
 clear h
 have HC4 := Aside0.mk H
 clear H
 go_enter Try.func69, Try.ntmps69
 go_upto_region 1 with (first | ((with_reducible refine gate_dst (N := 3) rfl ?_); refine box_event ?hg (N := 3) ?hd (cs := #[.int .i64 a0_0, .int .i64 a0_1, .int .i64 a0_2, .int .i64 a0_3, .int .u8 a0_4]) (t := 25) ?hr ?_; (case hd => rfl); (case hg => rfl); (case hr => first | (go_simp; done) | (go_simp; rfl)); intro gb174 hg w5 hbox hb; have n0_ := Aside0.mk (below_step (by repeat (first | (with_reducible first | exact HB.out | apply lA_ | apply lN_ | apply l1_) | exact HB.out)) hb); have n1_ := Aside0.mk (hbox); have n2_ := Aside0.mk ((by rw [hg]; exact (below_size (by repeat (first | (with_reducible first | exact HB.out | apply lA_ | apply lN_ | apply l1_) | exact HB.out))) : w.heap.size ≤ gb174)); have n3_ := Aside0.mk ((by rw [hg]; exact (below_size (by repeat (first | (with_reducible first | exact HB.out | apply lA_ | apply lN_ | apply l1_) | exact HB.out))) : w.heap.size ≤ gb174)); clear HB; have HB := n0_; have BK174 := n1_; have GW174 := n2_; have GE174 := n3_; clear n0_ n1_ n2_ n3_; clear hb hbox hg))
 (try simp only [Act.put, List.setIfInBounds_toArray, List.set_cons_zero, List.set_cons_succ])
 go_cut [22] (fun v22 wc => ∃ (kq : Nat) (x22_3 : Bool), v22 = .bool x22_3 ∧ Aside0 (pylonref12_Point.j0 kq a1 a2 x22_3 a0_0 a0_1 a0_2 a0_3 a0_4 = some (r1, r2)) ∧ Aside0 (kq ≤ k) ∧ Aside0 (wc.heap[gb174]? = some (.cells #[.int .i64 a0_0, .int .i64 a0_1, .int .i64 a0_2, .int .i64 a0_3, .int .u8 a0_4] 25 (0, 0))) ∧ Aside0 (Below w.heap.size w wc))
 case first =>
  have H := HC4.out
  clear HC4
  by_cases c6 : a1 < 1
  ·
   rw [if_pos c6] at H
   have c6b0 : decide (a1 < 1) = true := decide_eq_true c6
   clear c6
   (first | rw [c6b0] | (simp only [i64_w, i32_w]; rw [c6b0]) | skip)
   have H' := Aside0.mk H
   clear H
   go_wp2
   go_meet
   case rel => exact ⟨_, (true), (by first | rfl | (simp; done) | (simp [*]; done)), H', ⟨by first | omega | exact Nat.le_refl _⟩, ⟨by (with_reducible repeat (first | refine bN_ ?_ _ | refine bD_ ?_ | refine bA_ ?_ _)); exact BK174.out⟩, ⟨by repeat (first | (with_reducible first | exact HB.out | apply lA_ | apply lN_ | apply l1_ | refine lS_ ?_ GE174.out) | exact HB.out)⟩⟩
  ·
   rw [if_neg c6] at H
   have c6b0 : decide (a1 < 1) = false := decide_eq_false c6
   clear c6
   (first | rw [c6b0] | (simp only [i64_w, i32_w]; rw [c6b0]) | skip)
   by_cases c7 : a1 > 1000
   ·
    rw [if_pos c7] at H
    have c7b0 : decide (1000 < a1) = true := decide_eq_true c7
    clear c7
    have H' := Aside0.mk H
    clear H
    go_wp2
    go_meet
    case rel => exact ⟨_, (true), (by first | rfl | (simp; done) | (simp [*]; done)), H', ⟨by first | omega | exact Nat.le_refl _⟩, ⟨by (with_reducible repeat (first | refine bN_ ?_ _ | refine bD_ ?_ | refine bA_ ?_ _)); exact BK174.out⟩, ⟨by repeat (first | (with_reducible first | exact HB.out | apply lA_ | apply lN_ | apply l1_ | refine lS_ ?_ GE174.out) | exact HB.out)⟩⟩
   ·
    rw [if_neg c7] at H
    have c7b0 : decide (1000 < a1) = false := decide_eq_false c7
    clear c7
    by_cases c8 : a2 < 0
    ·
     rw [if_pos c8] at H
     have c8b0 : decide (a2 < 0) = true := decide_eq_true c8
     clear c8
     have H' := Aside0.mk H
     clear H
     go_wp2
     go_meet
     case rel => exact ⟨_, (true), (by first | rfl | (simp; done) | (simp [*]; done)), H', ⟨by first | omega | exact Nat.le_refl _⟩, ⟨by (with_reducible repeat (first | refine bN_ ?_ _ | refine bD_ ?_ | refine bA_ ?_ _)); exact BK174.out⟩, ⟨by repeat (first | (with_reducible first | exact HB.out | apply lA_ | apply lN_ | apply l1_ | refine lS_ ?_ GE174.out) | exact HB.out)⟩⟩
    ·
     rw [if_neg c8] at H
     have c8b0 : decide (a2 < 0) = false := decide_eq_false c8
     clear c8
     have H' := Aside0.mk H
     clear H
     go_wp2
     go_meet
     case rel => exact ⟨_, (decide (a2 > 3)), (by first | rfl | (simp; done) | (simp [*]; done) | (by_cases hdp0_ : a2 > 3 <;> simp [*] <;> done)), H', ⟨by first | omega | exact Nat.le_refl _⟩, ⟨by (with_reducible repeat (first | refine bN_ ?_ _ | refine bD_ ?_ | refine bA_ ?_ _)); exact BK174.out⟩, ⟨by repeat (first | (with_reducible first | exact HB.out | apply lA_ | apply lN_ | apply l1_ | refine lS_ ?_ GE174.out) | exact HB.out)⟩⟩
 case rest =>
  clear HC4
  try clear p2
  try clear c6
  try clear c6b0
  try clear c7
  try clear c7b0
  try clear c8
  try clear c8b0
  obtain ⟨kq, x22_3, rfl, HA, HJ3, BK174, HB⟩ := hcut
  cases kq with
  | zero => exact absurd HA.out (by simp [pylonref12_Point.j0])
  | succ kj3 =>
   have H := HA.out
   clear HA
   simp only [pylonref12_Point.j0] at H
   by_cases c9 : x22_3 = true
   ·
    subst c9
    have H1 : (some (cx 0 0, 8)) = some (r1, r2) := by rw [if_pos rfl] at H; exact H
    clear H
    have H := H1
    clear H1
    simp only [Option.some.injEq, Prod.mk.injEq] at H
    obtain ⟨rfl, rfl⟩ := H
    go_wp2
    go_ret2
    exact ⟨by first | rfl | (simp [errW_none, errW_some] <;> rfl) | (simp [*, errW_none, errW_some] <;> rfl), by repeat (first | (with_reducible first | exact HB.out | apply lA_ | apply lN_ | apply l1_ | refine lS_ ?_ GE174.out) | exact HB.out)⟩
   ·
    replace c9 := Bool.eq_false_iff.mpr c9
    subst c9
    have H1 : (if a0_1 < 0 then (pylonref12_Point.j1 kj3 a1 a2 true a0_0 a0_1 a0_2 a0_3 a0_4) else (if a0_1 > 10000000 then (pylonref12_Point.j1 kj3 a1 a2 true a0_0 a0_1 a0_2 a0_3 a0_4) else (if a0_2 < 0 then (pylonref12_Point.j1 kj3 a1 a2 true a0_0 a0_1 a0_2 a0_3 a0_4) else (if a0_2 > 10000000 then (pylonref12_Point.j1 kj3 a1 a2 true a0_0 a0_1 a0_2 a0_3 a0_4) else (if a0_3 < (-10000000) then (pylonref12_Point.j1 kj3 a1 a2 true a0_0 a0_1 a0_2 a0_3 a0_4) else (pylonref12_Point.j1 kj3 a1 a2 (decide (a0_3 > 10000000)) a0_0 a0_1 a0_2 a0_3 a0_4)))))) = some (r1, r2) := by rw [if_neg (show ¬ (false = true) by decide)] at H; exact H
    clear H
    have H := H1
    clear H1
    have HC10 := Aside0.mk H
    clear H
    go_upto_region 3 with (fail)
    go_cut [50] (fun v50 wc => ∃ (kq : Nat) (x50_9 : Bool), v50 = .bool x50_9 ∧ Aside0 (pylonref12_Point.j1 kq a1 a2 x50_9 a0_0 a0_1 a0_2 a0_3 a0_4 = some (r1, r2)) ∧ Aside0 (kq ≤ kj3) ∧ Aside0 (wc.heap[gb174]? = some (.cells #[.int .i64 a0_0, .int .i64 a0_1, .int .i64 a0_2, .int .i64 a0_3, .int .u8 a0_4] 25 (0, 0))) ∧ Aside0 (Below w.heap.size w wc))
    case first =>
     have H := HC10.out
     clear HC10
     by_cases c11 : a0_1 < 0
     ·
      rw [if_pos c11] at H
      have c11b0 : decide (a0_1 < 0) = true := decide_eq_true c11
      clear c11
      (first | rw [c11b0] | (simp only [i64_w, i32_w]; rw [c11b0]) | skip)
      have H' := Aside0.mk H
      clear H
      have hcz12_0 : wc.cell? ⟨gb174, 0, none⟩ = some (.int .i64 a0_0) := (bC_ BK174.out 0).trans rfl
      have hcz12_1 : wc.cell? ⟨gb174, 1, none⟩ = some (.int .i64 a0_1) := (bC_ BK174.out 1).trans rfl
      have hcz12_2 : wc.cell? ⟨gb174, 2, none⟩ = some (.int .i64 a0_2) := (bC_ BK174.out 2).trans rfl
      have hcz12_3 : wc.cell? ⟨gb174, 3, none⟩ = some (.int .i64 a0_3) := (bC_ BK174.out 3).trans rfl
      have hcz12_4 : wc.cell? ⟨gb174, 4, none⟩ = some (.int .u8 a0_4) := (bC_ BK174.out 4).trans rfl
      have hfz12_0 := bZ_ BK174.out 0
      have hfz12_1 := bZ_ BK174.out 1
      have hfz12_2 := bZ_ BK174.out 2
      have hfz12_3 := bZ_ BK174.out 3
      have hfz12_4 := bZ_ BK174.out 4
      go_wp2
      go_meet
      case rel => exact ⟨_, (true), (by first | rfl | (simp; done) | (simp [*]; done)), H', ⟨by have := HJ3.out; first | omega | exact Nat.le_refl _⟩, ⟨by (with_reducible repeat (first | refine bN_ ?_ _ | refine bD_ ?_ | refine bA_ ?_ _)); exact BK174.out⟩, ⟨by repeat (first | (with_reducible first | exact HB.out | apply lA_ | apply lN_ | apply l1_ | refine lS_ ?_ GE174.out) | exact HB.out)⟩⟩
     ·
      rw [if_neg c11] at H
      have c11b0 : decide (a0_1 < 0) = false := decide_eq_false c11
      clear c11
      (first | rw [c11b0] | (simp only [i64_w, i32_w]; rw [c11b0]) | skip)
      by_cases c13 : a0_1 > 10000000
      ·
       rw [if_pos c13] at H
       have c13b0 : decide (10000000 < a0_1) = true := decide_eq_true c13
       clear c13
       have H' := Aside0.mk H
       clear H
       have hcz14_0 : wc.cell? ⟨gb174, 0, none⟩ = some (.int .i64 a0_0) := (bC_ BK174.out 0).trans rfl
       have hcz14_1 : wc.cell? ⟨gb174, 1, none⟩ = some (.int .i64 a0_1) := (bC_ BK174.out 1).trans rfl
       have hcz14_2 : wc.cell? ⟨gb174, 2, none⟩ = some (.int .i64 a0_2) := (bC_ BK174.out 2).trans rfl
       have hcz14_3 : wc.cell? ⟨gb174, 3, none⟩ = some (.int .i64 a0_3) := (bC_ BK174.out 3).trans rfl
       have hcz14_4 : wc.cell? ⟨gb174, 4, none⟩ = some (.int .u8 a0_4) := (bC_ BK174.out 4).trans rfl
       have hfz14_0 := bZ_ BK174.out 0
       have hfz14_1 := bZ_ BK174.out 1
       have hfz14_2 := bZ_ BK174.out 2
       have hfz14_3 := bZ_ BK174.out 3
       have hfz14_4 := bZ_ BK174.out 4
       go_wp2
       go_meet
       case rel => exact ⟨_, (true), (by first | rfl | (simp; done) | (simp [*]; done)), H', ⟨by have := HJ3.out; first | omega | exact Nat.le_refl _⟩, ⟨by (with_reducible repeat (first | refine bN_ ?_ _ | refine bD_ ?_ | refine bA_ ?_ _)); exact BK174.out⟩, ⟨by repeat (first | (with_reducible first | exact HB.out | apply lA_ | apply lN_ | apply l1_ | refine lS_ ?_ GE174.out) | exact HB.out)⟩⟩
      ·
       rw [if_neg c13] at H
       have c13b0 : decide (10000000 < a0_1) = false := decide_eq_false c13
       clear c13
       by_cases c15 : a0_2 < 0
       ·
        rw [if_pos c15] at H
        have c15b0 : decide (a0_2 < 0) = true := decide_eq_true c15
        clear c15
        have H' := Aside0.mk H
        clear H
        have hcz16_0 : wc.cell? ⟨gb174, 0, none⟩ = some (.int .i64 a0_0) := (bC_ BK174.out 0).trans rfl
        have hcz16_1 : wc.cell? ⟨gb174, 1, none⟩ = some (.int .i64 a0_1) := (bC_ BK174.out 1).trans rfl
        have hcz16_2 : wc.cell? ⟨gb174, 2, none⟩ = some (.int .i64 a0_2) := (bC_ BK174.out 2).trans rfl
        have hcz16_3 : wc.cell? ⟨gb174, 3, none⟩ = some (.int .i64 a0_3) := (bC_ BK174.out 3).trans rfl
        have hcz16_4 : wc.cell? ⟨gb174, 4, none⟩ = some (.int .u8 a0_4) := (bC_ BK174.out 4).trans rfl
        have hfz16_0 := bZ_ BK174.out 0
        have hfz16_1 := bZ_ BK174.out 1
        have hfz16_2 := bZ_ BK174.out 2
        have hfz16_3 := bZ_ BK174.out 3
        have hfz16_4 := bZ_ BK174.out 4
        go_wp2
        go_meet
        case rel => exact ⟨_, (true), (by first | rfl | (simp; done) | (simp [*]; done)), H', ⟨by have := HJ3.out; first | omega | exact Nat.le_refl _⟩, ⟨by (with_reducible repeat (first | refine bN_ ?_ _ | refine bD_ ?_ | refine bA_ ?_ _)); exact BK174.out⟩, ⟨by repeat (first | (with_reducible first | exact HB.out | apply lA_ | apply lN_ | apply l1_ | refine lS_ ?_ GE174.out) | exact HB.out)⟩⟩
       ·
        rw [if_neg c15] at H
        have c15b0 : decide (a0_2 < 0) = false := decide_eq_false c15
        clear c15
        by_cases c17 : a0_2 > 10000000
        ·
         rw [if_pos c17] at H
         have c17b0 : decide (10000000 < a0_2) = true := decide_eq_true c17
         clear c17
         have H' := Aside0.mk H
         clear H
         have hcz18_0 : wc.cell? ⟨gb174, 0, none⟩ = some (.int .i64 a0_0) := (bC_ BK174.out 0).trans rfl
         have hcz18_1 : wc.cell? ⟨gb174, 1, none⟩ = some (.int .i64 a0_1) := (bC_ BK174.out 1).trans rfl
         have hcz18_2 : wc.cell? ⟨gb174, 2, none⟩ = some (.int .i64 a0_2) := (bC_ BK174.out 2).trans rfl
         have hcz18_3 : wc.cell? ⟨gb174, 3, none⟩ = some (.int .i64 a0_3) := (bC_ BK174.out 3).trans rfl
         have hcz18_4 : wc.cell? ⟨gb174, 4, none⟩ = some (.int .u8 a0_4) := (bC_ BK174.out 4).trans rfl
         have hfz18_0 := bZ_ BK174.out 0
         have hfz18_1 := bZ_ BK174.out 1
         have hfz18_2 := bZ_ BK174.out 2
         have hfz18_3 := bZ_ BK174.out 3
         have hfz18_4 := bZ_ BK174.out 4
         go_wp2
         go_meet
         case rel => exact ⟨_, (true), (by first | rfl | (simp; done) | (simp [*]; done)), H', ⟨by have := HJ3.out; first | omega | exact Nat.le_refl _⟩, ⟨by (with_reducible repeat (first | refine bN_ ?_ _ | refine bD_ ?_ | refine bA_ ?_ _)); exact BK174.out⟩, ⟨by repeat (first | (with_reducible first | exact HB.out | apply lA_ | apply lN_ | apply l1_ | refine lS_ ?_ GE174.out) | exact HB.out)⟩⟩
        ·
         rw [if_neg c17] at H
         have c17b0 : decide (10000000 < a0_2) = false := decide_eq_false c17
         clear c17
         by_cases c19 : a0_3 < (-10000000)
         ·
          rw [if_pos c19] at H
          have c19b0 : decide (a0_3 < (-10000000)) = true := decide_eq_true c19
          clear c19
          have H' := Aside0.mk H
          clear H
          have hcz20_0 : wc.cell? ⟨gb174, 0, none⟩ = some (.int .i64 a0_0) := (bC_ BK174.out 0).trans rfl
          have hcz20_1 : wc.cell? ⟨gb174, 1, none⟩ = some (.int .i64 a0_1) := (bC_ BK174.out 1).trans rfl
          have hcz20_2 : wc.cell? ⟨gb174, 2, none⟩ = some (.int .i64 a0_2) := (bC_ BK174.out 2).trans rfl
          have hcz20_3 : wc.cell? ⟨gb174, 3, none⟩ = some (.int .i64 a0_3) := (bC_ BK174.out 3).trans rfl
          have hcz20_4 : wc.cell? ⟨gb174, 4, none⟩ = some (.int .u8 a0_4) := (bC_ BK174.out 4).trans rfl
          have hfz20_0 := bZ_ BK174.out 0
          have hfz20_1 := bZ_ BK174.out 1
          have hfz20_2 := bZ_ BK174.out 2
          have hfz20_3 := bZ_ BK174.out 3
          have hfz20_4 := bZ_ BK174.out 4
          go_wp2
          go_meet
          case rel => exact ⟨_, (true), (by first | rfl | (simp; done) | (simp [*]; done)), H', ⟨by have := HJ3.out; first | omega | exact Nat.le_refl _⟩, ⟨by (with_reducible repeat (first | refine bN_ ?_ _ | refine bD_ ?_ | refine bA_ ?_ _)); exact BK174.out⟩, ⟨by repeat (first | (with_reducible first | exact HB.out | apply lA_ | apply lN_ | apply l1_ | refine lS_ ?_ GE174.out) | exact HB.out)⟩⟩
         ·
          rw [if_neg c19] at H
          have c19b0 : decide (a0_3 < (-10000000)) = false := decide_eq_false c19
          clear c19
          have H' := Aside0.mk H
          clear H
          have hcz21_0 : wc.cell? ⟨gb174, 0, none⟩ = some (.int .i64 a0_0) := (bC_ BK174.out 0).trans rfl
          have hcz21_1 : wc.cell? ⟨gb174, 1, none⟩ = some (.int .i64 a0_1) := (bC_ BK174.out 1).trans rfl
          have hcz21_2 : wc.cell? ⟨gb174, 2, none⟩ = some (.int .i64 a0_2) := (bC_ BK174.out 2).trans rfl
          have hcz21_3 : wc.cell? ⟨gb174, 3, none⟩ = some (.int .i64 a0_3) := (bC_ BK174.out 3).trans rfl
          have hcz21_4 : wc.cell? ⟨gb174, 4, none⟩ = some (.int .u8 a0_4) := (bC_ BK174.out 4).trans rfl
          have hfz21_0 := bZ_ BK174.out 0
          have hfz21_1 := bZ_ BK174.out 1
          have hfz21_2 := bZ_ BK174.out 2
          have hfz21_3 := bZ_ BK174.out 3
          have hfz21_4 := bZ_ BK174.out 4
          go_wp2
          go_meet
          case rel => exact ⟨_, (decide (a0_3 > 10000000)), (by first | rfl | (simp; done) | (simp [*]; done) | (by_cases hdp0_ : a0_3 > 10000000 <;> simp [*] <;> done)), H', ⟨by have := HJ3.out; first | omega | exact Nat.le_refl _⟩, ⟨by (with_reducible repeat (first | refine bN_ ?_ _ | refine bD_ ?_ | refine bA_ ?_ _)); exact BK174.out⟩, ⟨by repeat (first | (with_reducible first | exact HB.out | apply lA_ | apply lN_ | apply l1_ | refine lS_ ?_ GE174.out) | exact HB.out)⟩⟩
    case rest =>
     clear HC10
     try clear c1
     try clear p2
     try clear c6
     try clear c6b0
     try clear c7
     try clear c7b0
     try clear c8
     try clear c8b0
     try clear c9
     try clear c11
     try clear c11b0
     try clear c13
     try clear c13b0
     try clear c15
     try clear c15b0
     try clear c17
     try clear c17b0
     try clear c19
     try clear c19b0
     try clear hcz12_0
     try clear hcz12_1
     try clear hcz12_2
     try clear hcz12_3
     try clear hcz12_4
     try clear hcz14_0
     try clear hcz14_1
     try clear hcz14_2
     try clear hcz14_3
     try clear hcz14_4
     try clear hcz16_0
     try clear hcz16_1
     try clear hcz16_2
     try clear hcz16_3
     try clear hcz16_4
     try clear hcz18_0
     try clear hcz18_1
     try clear hcz18_2
     try clear hcz18_3
     try clear hcz18_4
     try clear hcz20_0
     try clear hcz20_1
     try clear hcz20_2
     try clear hcz20_3
     try clear hcz20_4
     try clear hcz21_0
     try clear hcz21_1
     try clear hcz21_2
     try clear hcz21_3
     try clear hcz21_4
     try clear hfz12_0
     try clear hfz12_1
     try clear hfz12_2
     try clear hfz12_3
     try clear hfz12_4
     try clear hfz14_0
     try clear hfz14_1
     try clear hfz14_2
     try clear hfz14_3
     try clear hfz14_4
     try clear hfz16_0
     try clear hfz16_1
     try clear hfz16_2
     try clear hfz16_3
     try clear hfz16_4
     try clear hfz18_0
     try clear hfz18_1
     try clear hfz18_2
     try clear hfz18_3
     try clear hfz18_4
     try clear hfz20_0
     try clear hfz20_1
     try clear hfz20_2
     try clear hfz20_3
     try clear hfz20_4
     try clear hfz21_0
     try clear hfz21_1
     try clear hfz21_2
     try clear hfz21_3
     try clear hfz21_4
     try clear p2
     obtain ⟨kq, x50_9, rfl, HA, HJ9, BK174, HB⟩ := hcut
     cases kq with
     | zero => exact absurd HA.out (by simp [pylonref12_Point.j1])
     | succ kj9 =>
      have H := HA.out
      clear HA
      simp only [pylonref12_Point.j1] at H
      by_cases c22 : x50_9 = true
      ·
       subst c22
       have H1 : (some (cx 0 0, 5)) = some (r1, r2) := by rw [if_pos rfl] at H; exact H
       clear H
       have H := H1
       clear H1
       simp only [Option.some.injEq, Prod.mk.injEq] at H
       obtain ⟨rfl, rfl⟩ := H
       go_wp2
       go_ret2
       exact ⟨by first | rfl | (simp [errW_none, errW_some] <;> rfl) | (simp [*, errW_none, errW_some] <;> rfl), by repeat (first | (with_reducible first | exact HB.out | apply lA_ | apply lN_ | apply l1_ | refine lS_ ?_ GE174.out) | exact HB.out)⟩
      ·
       replace c22 := Bool.eq_false_iff.mpr c22
       subst c22
       have H1 : ((pylonref12_turned.f kj9 (wrap64 ((wrap64 (a0_1 - a0_2)) * a1)) (wrap64 (a0_3 * a1)) a2).bind fun bt175 => ((pylonref02_Made.f bt175.1 bt175.2).bind fun t178 => (some (t178, 0)))) = some (r1, r2) := by rw [if_neg (show ¬ (false = true) by decide)] at H; exact H
       clear H
       have H := H1
       clear H1
       replace H := Option.bind_eq_some_iff.mp H
       obtain ⟨⟨t175, t176⟩, A230, H⟩ := H
       replace H : ((pylonref02_Made.f t175 t176).bind fun t178 => (some (t178, 0))) = some (r1, r2) := H
       have A23 := Aside0.mk A230
       clear A230
       replace H := Option.bind_eq_some_iff.mp H
       obtain ⟨t178, A240, H⟩ := H
       replace H : (some (t178, 0)) = some (r1, r2) := H
       have A24 := Aside0.mk A240
       clear A240
       simp only [Option.some.injEq, Prod.mk.injEq] at H
       obtain ⟨rfl, rfl⟩ := H
       have hcz25_0 : wc.cell? ⟨gb174, 0, none⟩ = some (.int .i64 a0_0) := (bC_ BK174.out 0).trans rfl
       have hcz25_1 : wc.cell? ⟨gb174, 1, none⟩ = some (.int .i64 a0_1) := (bC_ BK174.out 1).trans rfl
       have hcz25_2 : wc.cell? ⟨gb174, 2, none⟩ = some (.int .i64 a0_2) := (bC_ BK174.out 2).trans rfl
       have hcz25_3 : wc.cell? ⟨gb174, 3, none⟩ = some (.int .i64 a0_3) := (bC_ BK174.out 3).trans rfl
       have hcz25_4 : wc.cell? ⟨gb174, 4, none⟩ = some (.int .u8 a0_4) := (bC_ BK174.out 4).trans rfl
       have hfz25_0 := bZ_ BK174.out 0
       have hfz25_1 := bZ_ BK174.out 1
       have hfz25_2 := bZ_ BK174.out 2
       have hfz25_3 := bZ_ BK174.out 3
       have hfz25_4 := bZ_ BK174.out 4
       go_wp2_with (first | ((with_reducible refine gate_callee (f := 85) rfl ?_); refine goesL_ (some 64) rfl rfl Try.func85 (by kernel_rfl) rfl #[.agg #[.int .i64 (wrap64 ((wrap64 (a0_1 - a0_2)) * a1)), .int .i64 (wrap64 (a0_3 * a1))], .int .i64 a2] rfl (by (try simp only [List.map_toArray, List.map_cons, List.map_nil]); first | done | rfl | (simp only [List.length_drop, List.length_take]; rfl)) ?_; (with_reducible refine (pylonref12_turned.calls kj9 (wrap64 ((wrap64 (a0_1 - a0_2)) * a1)) (wrap64 (a0_3 * a1)) a2 t175 t176 _ A23.out).mono ?_); rintro e w26 ⟨rfl, hb⟩; refine ⟨_, rfl, ?_⟩; have n0_ := Aside0.mk (bB_ (g := gb174) (o := .cells #[.int .i64 a0_0, .int .i64 a0_1, .int .i64 a0_2, .int .i64 a0_3, .int .u8 a0_4] 25 (0, 0)) (by (with_reducible repeat (first | refine bN_ ?_ _ | refine bD_ ?_ | refine bA_ ?_ _)); exact BK174.out) hb); have n1_ := Aside0.mk (below_step (by repeat (first | (with_reducible first | exact HB.out | apply lA_ | apply lN_ | apply l1_ | refine lS_ ?_ GE174.out) | exact HB.out)) hb); clear BK174; clear HB; have BK174 := n0_; have HB := n1_; clear n0_ n1_; (try clear hb); (try clear hb2); (try clear hk); (try clear hi)) | ((with_reducible refine gate_dst (N := 8) rfl ?_); refine box_event ?hg (N := 8) ?hd (cs := #[.int .i64 0, .int .i64 0]) (t := 111) ?hr ?_; (case hd => rfl); (case hg => rfl); (case hr => first | (go_simp; done) | (go_simp; rfl)); intro gb177 hg w27 hbox hb; have n0_ := Aside0.mk (bB_ (g := gb174) (o := .cells #[.int .i64 a0_0, .int .i64 a0_1, .int .i64 a0_2, .int .i64 a0_3, .int .u8 a0_4] 25 (0, 0)) (by (with_reducible repeat (first | refine bN_ ?_ _ | refine bD_ ?_ | refine bA_ ?_ _)); exact BK174.out) hb); have n1_ := Aside0.mk (below_step (by repeat (first | (with_reducible first | exact HB.out | apply lA_ | apply lN_ | apply l1_ | refine lS_ ?_ GE174.out) | exact HB.out)) hb); have n2_ := Aside0.mk (hbox); have n3_ := Aside0.mk ((by rw [hg]; exact (below_size (by repeat (first | (with_reducible first | exact HB.out | apply lA_ | apply lN_ | apply l1_ | refine lS_ ?_ GE174.out) | exact HB.out))) : w.heap.size ≤ gb177)); have n4_ := Aside0.mk ((by rw [hg]; exact (below_size (by repeat (first | (with_reducible first | exact HB.out | apply lA_ | apply lN_ | apply l1_ | refine lS_ ?_ GE174.out) | exact HB.out))) : w.heap.size ≤ gb177)); have n5_ := Aside0.mk ((by rw [hg]; exact Nat.ne_of_lt (blk_lt (g := gb174) (o := .cells #[.int .i64 a0_0, .int .i64 a0_1, .int .i64 a0_2, .int .i64 a0_3, .int .u8 a0_4] 25 (0, 0)) (by (with_reducible repeat (first | refine bN_ ?_ _ | refine bD_ ?_ | refine bA_ ?_ _)); exact BK174.out)) : gb174 ≠ gb177)); have n6_ := Aside0.mk ((by rw [hg]; exact Nat.ne_of_gt (blk_lt (g := gb174) (o := .cells #[.int .i64 a0_0, .int .i64 a0_1, .int .i64 a0_2, .int .i64 a0_3, .int .u8 a0_4] 25 (0, 0)) (by (with_reducible repeat (first | refine bN_ ?_ _ | refine bD_ ?_ | refine bA_ ?_ _)); exact BK174.out)) : gb177 ≠ gb174)); clear BK174; clear HB; have BK174 := n0_; have HB := n1_; have BK177 := n2_; have GW177 := n3_; have GE177 := n4_; have NB174_177 := n5_; have NB177_174 := n6_; clear n0_ n1_ n2_ n3_ n4_ n5_ n6_; clear hb hbox hg; have hnb28 := NB177_174.out; have hnc28 := NB174_177.out; have hcz29_0 : w27.cell? ⟨gb177, 0, none⟩ = some (.int .i64 0) := (bC_ BK177.out 0).trans rfl; have hcz29_1 : w27.cell? ⟨gb177, 1, none⟩ = some (.int .i64 0) := (bC_ BK177.out 1).trans rfl; have hfz29_0 := bZ_ BK177.out 0; have hfz29_1 := bZ_ BK177.out 1) | ((with_reducible refine gate_callee (f := 80) rfl ?_); refine goesL_ (some 66) rfl rfl Try.func80 (by kernel_rfl) rfl #[.agg #[.int .i64 t175, .int .i64 t176]] rfl (by (try simp only [List.map_toArray, List.map_cons, List.map_nil]); first | done | rfl | (simp only [List.length_drop, List.length_take]; rfl)) ?_; (with_reducible refine (pylonref02_Made.calls t175 t176 t178 _ A24.out).mono ?_); rintro e w30 ⟨rfl, hb⟩; refine ⟨_, rfl, ?_⟩; have n0_ := Aside0.mk (bB_ (g := gb174) (o := .cells #[.int .i64 a0_0, .int .i64 a0_1, .int .i64 a0_2, .int .i64 a0_3, .int .u8 a0_4] 25 (0, 0)) (by (with_reducible repeat (first | refine bN_ ?_ _ | refine bD_ ?_ | refine bA_ ?_ _)); refine bF_ ?_ NB174_177.out _; (with_reducible repeat (first | refine bN_ ?_ _ | refine bD_ ?_ | refine bA_ ?_ _)); refine bF_ ?_ NB174_177.out _; (with_reducible repeat (first | refine bN_ ?_ _ | refine bD_ ?_ | refine bA_ ?_ _)); exact BK174.out) hb); have n1_ := Aside0.mk (bB_ (g := gb177) (o := .cells #[.int .i64 t175, .int .i64 t176] 111 (0, 0)) (by (with_reducible repeat (first | refine bN_ ?_ _ | refine bD_ ?_ | refine bA_ ?_ _)); refine bP_ (cs := #[.int .i64 t175, .int .i64 0]) ?_ 1 _ rfl; (with_reducible repeat (first | refine bN_ ?_ _ | refine bD_ ?_ | refine bA_ ?_ _)); refine bP_ (cs := #[.int .i64 0, .int .i64 0]) ?_ 0 _ rfl; (with_reducible repeat (first | refine bN_ ?_ _ | refine bD_ ?_ | refine bA_ ?_ _)); exact BK177.out) hb); have n2_ := Aside0.mk (below_step (by repeat (first | (with_reducible first | exact HB.out | apply lA_ | apply lN_ | apply l1_ | refine lS_ ?_ GE174.out | refine lS_ ?_ GE177.out) | exact HB.out)) hb); clear BK174; clear BK177; clear HB; have BK174 := n0_; have BK177 := n1_; have HB := n2_; clear n0_ n1_ n2_; (try clear hb); (try clear hb2); (try clear hk); (try clear hi)))
       go_ret2
       exact ⟨by first | rfl | (simp [errW_none, errW_some] <;> rfl) | (simp [*, errW_none, errW_some] <;> rfl), by repeat (first | (with_reducible first | exact HB.out | apply lA_ | apply lN_ | apply l1_ | refine lS_ ?_ GE174.out | refine lS_ ?_ GE177.out) | exact HB.out)⟩

/-! ### pylonref12_Series: function 42 -/
def pylonref12_Series.l0 : Nat → List (S25) → Int → Int → List Cx → Int → Int → Option (List Cx × Int)
 | 0, _, _, _, _, _, _ => none
 | k + 1, x0, x1, x2, x8, x16, x17 => if x17 < x16 then (if 0 ≤ x17 then (if x17 < (x0.length : Int) then ((pylonref12_Point.f k ((rd_T25 x0 x17).f0) ((rd_T25 x0 x17).f1) ((rd_T25 x0 x17).f2) ((rd_T25 x0 x17).f3) ((rd_T25 x0 x17).f4) x1 x2).bind fun bt180 => (if bt180.2 = 0 then (if x8.length < 8796093022208 then (pylonref12_Series.l0 k x0 x1 x2 (x8 ++ [bt180.1]) x16 (wrap64 (x17 + 1))) else (none)) else (some (([] : List Cx), bt180.2)))) else (none)) else (none)) else (some (x8, 0))
def pylonref12_Series.f (k : Nat) (l0 : List (S25)) (a1 : Int) (a2 : Int) : Option (List Cx × Int) := if (l0.length : Int) > 40000 then (some (([] : List Cx), 9)) else (pylonref12_Series.l0 k l0 a1 a2 ([] : List Cx) (l0.length : Int) 0)
theorem pylonref12_Series.mono_l : ∀ k, (∀ y0 y1 y2 y3 y4 y5, LeO (pylonref12_Series.l0 k y0 y1 y2 y3 y4 y5) (pylonref12_Series.l0 (k + 1) y0 y1 y2 y3 y4 y5))
 | 0 => fun _ _ _ _ _ _ r h => by simp [pylonref12_Series.l0] at h
 | k + 1 => by
  have ih0 := pylonref12_Series.mono_l k
  ·
   intro y0 y1 y2 y3 y4 y5
   unfold pylonref12_Series.l0
   repeat' first
   | (with_reducible exact ih0 _ _ _ _ _ _)
   | (with_reducible exact pylonref12_Point.mono _ _ _ _ _ _ _ _)
   | (with_reducible exact LeO.refl _)
   | (with_reducible exact LeO.none _)
   | (with_reducible refine LeO.ite ?_ ?_)
   | (with_reducible refine LeO.bind ?_ (fun _ => ?_))
   | exact ih0 _ _ _ _ _ _
   | exact pylonref12_Point.mono _ _ _ _ _ _ _ _
   | exact LeO.none _
   | refine LeO.ite ?_ ?_
   | refine LeO.bind ?_ (fun _ => ?_)
theorem pylonref12_Series.mono : ∀ a0 a1 a2 k, LeO (pylonref12_Series.f k a0 a1 a2) (pylonref12_Series.f (k + 1) a0 a1 a2) := by
 intro a0 a1 a2 k
 have ih0 := pylonref12_Series.mono_l k
 unfold pylonref12_Series.f
 repeat' first
   | (with_reducible exact ih0 _ _ _ _ _ _)
   | (with_reducible exact pylonref12_Point.mono _ _ _ _ _ _ _ _)
   | (with_reducible exact LeO.refl _)
   | (with_reducible exact LeO.none _)
   | (with_reducible refine LeO.ite ?_ ?_)
   | (with_reducible refine LeO.bind ?_ (fun _ => ?_))
   | exact ih0 _ _ _ _ _ _
   | exact pylonref12_Point.mono _ _ _ _ _ _ _ _
   | exact LeO.none _
   | refine LeO.ite ?_ ?_
   | refine LeO.bind ?_ (fun _ => ?_)
set_option maxHeartbeats 8000000 in
set_option maxRecDepth 100000 in
theorem pylonref12_Series.calls (k : Nat) (A0 : Option Addr) (c0 : Nat) (l0 : List (S25)) (a1 : Int) (a2 : Int) (r1 : List Cx) (r2 : Int) (w : World) (hr0 : Kd.C k25 w A0 l0.length l0) (hc0 : l0.length ≤ c0) (h : pylonref12_Series.f k l0 a1 a2 = some (r1, r2)) :
  Calls Try.prog 42 #[.slice A0 l0.length c0, .int .i64 a1, .int .i64 a2] w fun e w' => ∃ v0_ : Value, e = .returned (.tuple #[v0_, .int .i64 r2]) ∧ Kd.R Kd.c128 31 w' w.heap.size (fun _ => True) v0_ r1 ∧ Below w.heap.size w w' := by
 have hu25 := Try.underlying25
 have HR0 := Aside0.mk hr0
 have HC0 := Aside0.mk hc0
 clear hr0 hc0
 have HB := Aside0.mk (Below.refl w.heap.size w)
 have H : (if (l0.length : Int) > 40000 then (some (([] : List Cx), 9)) else (pylonref12_Series.l0 k l0 a1 a2 ([] : List Cx) (l0.length : Int) 0)) = some (r1, r2) := h
 clear h
 by_cases c4 : (l0.length : Int) > 40000
 ·
  rw [if_pos c4] at H
  have c4b0 : decide (40000 < (l0.length : Int)) = true := decide_eq_true c4
  have c4b1 : decide (40000 < l0.length) = true := decide_eq_true (by omega)
  clear c4
  simp only [Option.some.injEq, Prod.mk.injEq] at H
  obtain ⟨rfl, rfl⟩ := H
  go_enter Try.func42, Try.ntmps42
  go_wp2
  go_ret2
  exact ⟨_, by first | rfl | (simp [errW_none, errW_some] <;> rfl) | (simp [*, errW_none, errW_some] <;> rfl), by first | exact Kd.R_nil _ _ _ _ _ | exact Kd.N_nil _ _ _ _ _ | exact Kd.V_nil _ _ _ _ _ | exact Kd.Q_nil _ _ _ _ _ | exact Kd.S_nil _ _ _ _ _, by repeat (first | (with_reducible first | exact HB.out | apply lA_ | apply lN_ | apply l1_) | exact HB.out)⟩
 ·
  rw [if_neg c4] at H
  have c4b0 : decide (40000 < (l0.length : Int)) = false := decide_eq_false c4
  have c4b1 : decide (40000 < l0.length) = false := decide_eq_false (by omega)
  clear c4
  have H' := Aside0.mk H
  clear H
  go_enter Try.func42, Try.ntmps42
  go_wp2
  go_loopg [8, 17] k (fun kq v8 v17 w' => ∃ (x8_1 : List Cx) (x17_1 : Int), v17 = .int .i64 x17_1 ∧ Aside0 (pylonref12_Series.l0 kq l0 a1 a2 x8_1 (l0.length : Int) x17_1 = some (r1, r2)) ∧ Aside0 (kq ≤ k) ∧ Aside0 (Kd.R Kd.c128 31 w' w.heap.size (fun _ => True) v8 x8_1) ∧ Aside0 (Below w.heap.size w w'))
  case atStart => exact ⟨(([] : List Cx)), (0), (by first | rfl | (simp; done) | (simp [*]; done)), H', ⟨Nat.le_refl _⟩, ⟨by first | exact Kd.R_nil _ _ _ _ _ | exact Kd.N_nil _ _ _ _ _ | exact Kd.V_nil _ _ _ _ _ | exact Kd.Q_nil _ _ _ _ _ | exact Kd.S_nil _ _ _ _ _⟩, ⟨by repeat (first | (with_reducible first | exact HB.out | apply lA_ | apply lN_ | apply l1_) | exact HB.out)⟩⟩
  case round =>
   clear H'
   try clear c1
   try clear p2
   try clear c4
   try clear c4b0
   try clear c4b1
   obtain ⟨x8_1, x17_1, rfl, HA, HK1, HO_8, HB⟩ := hrel
   cases gk with
   | zero => exact absurd HA.out (by simp [pylonref12_Series.l0])
   | succ k1 =>
    have H := HA.out
    clear HA
    simp only [pylonref12_Series.l0] at H
    by_cases c5 : x17_1 < (l0.length : Int)
    ·
     rw [if_pos c5] at H
     have c5b0 : decide (x17_1 < (l0.length : Int)) = true := decide_eq_true c5
     clear c5
     by_cases c6 : 0 ≤ x17_1
     ·
      rw [if_pos c6] at H
      have c6b0 : decide (0 ≤ x17_1) = true := decide_eq_true c6
      clear c6
      by_cases c7 : x17_1 < (l0.length : Int)
      ·
       rw [if_pos c7] at H
       have c7b0 : decide (x17_1 < (l0.length : Int)) = true := decide_eq_true c7
       clear c7
       replace H := Option.bind_eq_some_iff.mp H
       obtain ⟨⟨t180, t181⟩, A80, H⟩ := H
       replace H : (if t181 = 0 then (if x8_1.length < 8796093022208 then (pylonref12_Series.l0 k1 l0 a1 a2 (x8_1 ++ [t180]) (l0.length : Int) (wrap64 (x17_1 + 1))) else (none)) else (some (([] : List Cx), t181))) = some (r1, r2) := H
       have A8 := Aside0.mk A80
       clear A80
       by_cases c9 : t181 = 0
       ·
        rw [if_pos c9] at H
        have c9b0 : (t181 == 0) = true := beq_iff_eq.mpr c9
        have c9b1 : (t181 != 0) = false := bne_eq_false_iff_eq.mpr c9
        clear c9
        by_cases c10 : x8_1.length < 8796093022208
        ·
         rw [if_pos c10] at H
         have LMc10 := Aside0.mk c10
         clear c10
         obtain ⟨y182, hy182⟩ : ∃ y_ : List Cx, y_ = (x8_1 ++ [t180]) := ⟨_, rfl⟩
         replace H : (pylonref12_Series.l0 k1 l0 a1 a2 y182 (l0.length : Int) (wrap64 (x17_1 + 1))) = some (r1, r2) := by first | (rw [hy182]; with_reducible exact H) | (have H2_ := (Option.bind_some _ _).symm.trans H; rw [hy182]; with_reducible exact H2_) | (have H2_ := (Option.bind_some _ _).symm.trans H; with_reducible exact H2_) | with_reducible exact H | (rw [hy182]; exact H) | exact H
         have Ny182 := Aside0.mk hy182
         clear hy182
         have H' := Aside0.mk H
         clear H
         have p179 : 0 ≤ (x17_1 : Int) := of_decide_eq_true (by first | (with_reducible assumption) | assumption)
         have q179 : x17_1 < (l0.length : Int) := of_decide_eq_true (by first | (with_reducible assumption) | assumption)
         obtain ⟨ad179, e179, hx179_0, hx179_1, hx179_2, hx179_3, hx179_4⟩ := at_T25 HR0.out x17_1 p179 q179
         cases e179
         replace hx179_0 := (HB.out.cell (World.block_lt_of_cell? w _ hx179_0)).trans hx179_0
         replace hx179_1 := (HB.out.cell (World.block_lt_of_cell? w _ hx179_1)).trans hx179_1
         replace hx179_2 := (HB.out.cell (World.block_lt_of_cell? w _ hx179_2)).trans hx179_2
         replace hx179_3 := (HB.out.cell (World.block_lt_of_cell? w _ hx179_3)).trans hx179_3
         replace hx179_4 := (HB.out.cell (World.block_lt_of_cell? w _ hx179_4)).trans hx179_4
         replace p179 := eq_true p179
         replace q179 := eq_true q179
         go_wp2_with (first | ((with_reducible refine gate_callee (f := 69) rfl ?_); refine goesL_ (some 27) rfl rfl Try.func69 (by kernel_rfl) rfl #[.agg #[.int .i64 ((rd_T25 l0 x17_1).f0), .int .i64 ((rd_T25 l0 x17_1).f1), .int .i64 ((rd_T25 l0 x17_1).f2), .int .i64 ((rd_T25 l0 x17_1).f3), .int .u8 ((rd_T25 l0 x17_1).f4)], .int .i64 a1, .int .i64 a2] rfl (by (try simp only [List.map_toArray, List.map_cons, List.map_nil]); first | done | rfl | (simp only [List.length_drop, List.length_take]; rfl)) ?_; (with_reducible refine (pylonref12_Point.calls k1 ((rd_T25 l0 x17_1).f0) ((rd_T25 l0 x17_1).f1) ((rd_T25 l0 x17_1).f2) ((rd_T25 l0 x17_1).f3) ((rd_T25 l0 x17_1).f4) a1 a2 t180 t181 _ A8.out).mono ?_); rintro e w11 ⟨rfl, hb⟩; refine ⟨_, rfl, ?_⟩; have n0_ := Aside0.mk (Kd.R_below (by (with_reducible repeat (first | apply Kd.R_alloc | apply Kd.R_drewN | apply Kd.R_drew)); exact HO_8.out) hb); have n1_ := Aside0.mk (below_step (by repeat (first | (with_reducible first | exact HB.out | apply lA_ | apply lN_ | apply l1_) | exact HB.out)) hb); clear HO_8; clear HB; have HO_8 := n0_; have HB := n1_; clear n0_ n1_; (try clear hb); (try clear hb2); (try clear hk); (try clear hi)) | ((with_reducible refine gate_builtin (b := .append) (xs := #[.tmp 33, .tmp 35]) rfl ?_); at_builtin; refine Kd.R_append Kd.c128 (w0 := w) w.heap.size rfl (.tmp 33) (.tmp 35) 26 31 (.complex .f64 0 0) 16 rfl Try.underlying26 info31 rfl (by decide) (by omega) u8 x8_1 t180 [.complex .f64 t180.re t180.im] (fun _ => True) (fun _ => False) rfl rfl ?aP (fun _ hk => hk.elim) ?aF ?aO ?aB ?aS ?aL ?_; (case aP => exact rfl); (case aB => exact (by repeat (first | (with_reducible first | exact HB.out | apply lA_ | apply lN_ | apply l1_) | exact HB.out))); (case aF => exact (fun _ _ => trivial)); (case aO => exact (by (with_reducible repeat (first | apply Kd.R_alloc | apply Kd.R_drewN | apply Kd.R_drew)); exact HO_8.out)); (case aS => exact (below_size (by repeat (first | (with_reducible first | exact HB.out | apply lA_ | apply lN_ | apply l1_) | exact HB.out)))); (case aL => have := LMc10.out; omega); intro v183 w12 ho hb hg hat; rw [← Ny182.out] at ho; have n0_ := Aside0.mk (hb); have n1_ := Aside0.mk (ho); clear HB; clear HO_8; have HB := n0_; have HO184 := n1_; clear n0_ n1_; clear ho hb hg hat))
         go_roundg k1
         case measure => have := HK1.out; omega
         case rel => exact ⟨(y182), (wrap64 (x17_1 + 1)), (by first | rfl | (simp; done) | (simp [*]; done)), H', ⟨by have := HK1.out; omega⟩, ⟨by (with_reducible repeat (first | apply Kd.R_alloc | apply Kd.R_drewN | apply Kd.R_drew)); exact HO184.out⟩, ⟨by repeat (first | (with_reducible first | exact HB.out | apply lA_ | apply lN_ | apply l1_) | exact HB.out)⟩⟩
        ·
         rw [if_neg c10] at H
         exact absurd H (by simp)
       ·
        rw [if_neg c9] at H
        have c9b0 : (t181 == 0) = false := beq_eq_false_iff_ne.mpr c9
        have c9b1 : (t181 != 0) = true := bne_iff_ne.mpr c9
        simp only [Option.some.injEq, Prod.mk.injEq] at H
        obtain ⟨rfl, rfl⟩ := H
        have p179 : 0 ≤ (x17_1 : Int) := of_decide_eq_true (by first | (with_reducible assumption) | assumption)
        have q179 : x17_1 < (l0.length : Int) := of_decide_eq_true (by first | (with_reducible assumption) | assumption)
        obtain ⟨ad179, e179, hx179_0, hx179_1, hx179_2, hx179_3, hx179_4⟩ := at_T25 HR0.out x17_1 p179 q179
        cases e179
        replace hx179_0 := (HB.out.cell (World.block_lt_of_cell? w _ hx179_0)).trans hx179_0
        replace hx179_1 := (HB.out.cell (World.block_lt_of_cell? w _ hx179_1)).trans hx179_1
        replace hx179_2 := (HB.out.cell (World.block_lt_of_cell? w _ hx179_2)).trans hx179_2
        replace hx179_3 := (HB.out.cell (World.block_lt_of_cell? w _ hx179_3)).trans hx179_3
        replace hx179_4 := (HB.out.cell (World.block_lt_of_cell? w _ hx179_4)).trans hx179_4
        replace p179 := eq_true p179
        replace q179 := eq_true q179
        go_wp2_with (first | ((with_reducible refine gate_callee (f := 69) rfl ?_); refine goesL_ (some 27) rfl rfl Try.func69 (by kernel_rfl) rfl #[.agg #[.int .i64 ((rd_T25 l0 x17_1).f0), .int .i64 ((rd_T25 l0 x17_1).f1), .int .i64 ((rd_T25 l0 x17_1).f2), .int .i64 ((rd_T25 l0 x17_1).f3), .int .u8 ((rd_T25 l0 x17_1).f4)], .int .i64 a1, .int .i64 a2] rfl (by (try simp only [List.map_toArray, List.map_cons, List.map_nil]); first | done | rfl | (simp only [List.length_drop, List.length_take]; rfl)) ?_; (with_reducible refine (pylonref12_Point.calls k1 ((rd_T25 l0 x17_1).f0) ((rd_T25 l0 x17_1).f1) ((rd_T25 l0 x17_1).f2) ((rd_T25 l0 x17_1).f3) ((rd_T25 l0 x17_1).f4) a1 a2 t180 t181 _ A8.out).mono ?_); rintro e w13 ⟨rfl, hb⟩; refine ⟨_, rfl, ?_⟩; have n0_ := Aside0.mk (Kd.R_below (by (with_reducible repeat (first | apply Kd.R_alloc | apply Kd.R_drewN | apply Kd.R_drew)); exact HO_8.out) hb); have n1_ := Aside0.mk (below_step (by repeat (first | (with_reducible first | exact HB.out | apply lA_ | apply lN_ | apply l1_) | exact HB.out)) hb); clear HO_8; clear HB; have HO_8 := n0_; have HB := n1_; clear n0_ n1_; (try clear hb); (try clear hb2); (try clear hk); (try clear hi)))
        go_ret2
        exact ⟨_, by first | rfl | (simp [errW_none, errW_some] <;> rfl) | (simp [*, errW_none, errW_some] <;> rfl), by first | exact Kd.R_nil _ _ _ _ _ | exact Kd.N_nil _ _ _ _ _ | exact Kd.V_nil _ _ _ _ _ | exact Kd.Q_nil _ _ _ _ _ | exact Kd.S_nil _ _ _ _ _, by repeat (first | (with_reducible first | exact HB.out | apply lA_ | apply lN_ | apply l1_) | exact HB.out)⟩
      ·
       rw [if_neg c7] at H
       exact absurd H (by simp)
     ·
      rw [if_neg c6] at H
      exact absurd H (by simp)
    ·
     rw [if_neg c5] at H
     have c5b0 : decide (x17_1 < (l0.length : Int)) = false := decide_eq_false c5
     clear c5
     simp only [Option.some.injEq, Prod.mk.injEq] at H
     obtain ⟨rfl, rfl⟩ := H
     go_wp2
     go_ret2
     exact ⟨_, by first | rfl | (simp [errW_none, errW_some] <;> rfl) | (simp [*, errW_none, errW_some] <;> rfl), by (with_reducible repeat (first | apply Kd.R_alloc | apply Kd.R_drewN | apply Kd.R_drew)); exact HO_8.out, by repeat (first | (with_reducible first | exact HB.out | apply lA_ | apply lN_ | apply l1_) | exact HB.out)⟩

/-! ### pylonref02_whole: function 86 -/
def pylonref02_whole.f (a0 : Nat) (a1 : Int) : Option (Int × Bool) := if fge a0 (fneg (floatOfInt .f64 a1)) = true then (if (fle a0 (floatOfInt .f64 a1) = true) then (if f2iok a0 = true then (some (f2i a0, feq (floatOfInt .f64 (f2i a0)) a0)) else (none)) else (some (0, false))) else (some (0, false))
set_option maxHeartbeats 8000000 in
set_option maxRecDepth 100000 in
theorem pylonref02_whole.calls (a0 : Nat) (a1 : Int) (r1 : Int) (r2 : Bool) (w : World) (h : pylonref02_whole.f a0 a1 = some (r1, r2)) :
  Calls Try.prog 86 #[.float .f64 a0, .int .i64 a1] w fun e w' => e = .returned (.tuple #[.int .i64 r1, .bool r2]) ∧ Drawn0 w w' := by
 have H : (if fge a0 (fneg (floatOfInt .f64 a1)) = true then (if (fle a0 (floatOfInt .f64 a1) = true) then (if f2iok a0 = true then (some (f2i a0, feq (floatOfInt .f64 (f2i a0)) a0)) else (none)) else (some (0, false))) else (some (0, false))) = some (r1, r2) := h
 clear h
 by_cases c3 : fge a0 (fneg (floatOfInt .f64 a1)) = true
 ·
  rw [if_pos c3] at H
  have c3b0 : fge a0 (fneg (floatOfInt .f64 a1)) = true := c3
  clear c3
  by_cases c4 : (fle a0 (floatOfInt .f64 a1) = true)
  ·
   rw [if_pos c4] at H
   have c4b0 : fle a0 (floatOfInt .f64 a1) = true := c4
   clear c4
   by_cases c5 : f2iok a0 = true
   ·
    rw [if_pos c5] at H
    have c5b0 := eq_true c5
    have c5b1 : decide (f2iok a0 = true) = true := decide_eq_true c5
    clear c5
    simp only [Option.some.injEq, Prod.mk.injEq] at H
    obtain ⟨rfl, rfl⟩ := H
    go_enter Try.func86, Try.ntmps86
    go_wp2
    go_ret2
    exact ⟨by first | rfl | (simp; done) | (simp [*]; done), by repeat (first | exact Drawn0.refl _ | apply Drawn0.step)⟩
   ·
    rw [if_neg c5] at H
    exact absurd H (by simp)
  ·
   rw [if_neg c4] at H
   have c4b0 : fle a0 (floatOfInt .f64 a1) = false := Bool.eq_false_iff.mpr c4
   clear c4
   simp only [Option.some.injEq, Prod.mk.injEq] at H
   obtain ⟨rfl, rfl⟩ := H
   go_enter Try.func86, Try.ntmps86
   go_wp2
   go_ret2
   exact ⟨by first | rfl | (simp; done) | (simp [*]; done), by repeat (first | exact Drawn0.refl _ | apply Drawn0.step)⟩
 ·
  rw [if_neg c3] at H
  have c3b0 : fge a0 (fneg (floatOfInt .f64 a1)) = false := Bool.eq_false_iff.mpr c3
  clear c3
  simp only [Option.some.injEq, Prod.mk.injEq] at H
  obtain ⟨rfl, rfl⟩ := H
  go_enter Try.func86, Try.ntmps86
  go_wp2
  go_ret2
  exact ⟨by first | rfl | (simp; done) | (simp [*]; done), by repeat (first | exact Drawn0.refl _ | apply Drawn0.step)⟩

/-! ### pylonref02_Within: function 73 -/
def pylonref02_Within.f (a0 : Cx) (a1 : Int) : Option (Int × Int × Bool) := (pylonref02_whole.f a0.re a1).bind fun bt186 => ((pylonref02_whole.f a0.im a1).bind fun bt188 => (if bt186.2 = true then (some (bt186.1, bt188.1, bt188.2)) else (some (bt186.1, bt188.1, false))))
set_option maxHeartbeats 8000000 in
set_option maxRecDepth 100000 in
theorem pylonref02_Within.calls (a0 : Cx) (a1 : Int) (r1 : Int) (r2 : Int) (r3 : Bool) (w : World) (h : pylonref02_Within.f a0 a1 = some (r1, r2, r3)) :
  Calls Try.prog 73 #[.complex .f64 a0.re a0.im, .int .i64 a1] w fun e w' => e = .returned (.tuple #[.agg #[.int .i64 r1, .int .i64 r2], .bool r3]) ∧ Below w.heap.size w w' := by
 have hu111 := Try.underlying111
 have HB := Aside0.mk (Below.refl w.heap.size w)
 have H : ((pylonref02_whole.f a0.re a1).bind fun bt186 => ((pylonref02_whole.f a0.im a1).bind fun bt188 => (if bt186.2 = true then (some (bt186.1, bt188.1, bt188.2)) else (some (bt186.1, bt188.1, false))))) = some (r1, r2, r3) := h
 clear h
 replace H := Option.bind_eq_some_iff.mp H
 obtain ⟨⟨t186, t187⟩, A30, H⟩ := H
 replace H : ((pylonref02_whole.f a0.im a1).bind fun bt188 => (if t187 = true then (some (t186, bt188.1, bt188.2)) else (some (t186, bt188.1, false)))) = some (r1, r2, r3) := H
 have A3 := Aside0.mk A30
 clear A30
 replace H := Option.bind_eq_some_iff.mp H
 obtain ⟨⟨t188, t189⟩, A40, H⟩ := H
 replace H : (if t187 = true then (some (t186, t188, t189)) else (some (t186, t188, false))) = some (r1, r2, r3) := H
 have A4 := Aside0.mk A40
 clear A40
 by_cases c5 : t187 = true
 ·
  subst c5
  have H1 : (some (t186, t188, t189)) = some (r1, r2, r3) := by rw [if_pos rfl] at H; exact H
  clear H
  have H := H1
  clear H1
  simp only [Option.some.injEq, Prod.mk.injEq] at H
  obtain ⟨rfl, rfl, rfl⟩ := H
  go_enter Try.func73, Try.ntmps73
  go_wp2_with (first | ((with_reducible refine gate_dst (N := 4) rfl ?_); refine box_event ?hg (N := 4) ?hd (cs := #[.int .i64 0, .int .i64 0]) (t := 111) ?hr ?_; (case hd => rfl); (case hg => rfl); (case hr => first | (go_simp; done) | (go_simp; rfl)); intro gb185 hg w6 hbox hb; have n0_ := Aside0.mk (below_step (by repeat (first | (with_reducible first | exact HB.out | apply lA_ | apply lN_ | apply l1_) | exact HB.out)) hb); have n1_ := Aside0.mk (hbox); have n2_ := Aside0.mk ((by rw [hg]; exact (below_size (by repeat (first | (with_reducible first | exact HB.out | apply lA_ | apply lN_ | apply l1_) | exact HB.out))) : w.heap.size ≤ gb185)); have n3_ := Aside0.mk ((by rw [hg]; exact (below_size (by repeat (first | (with_reducible first | exact HB.out | apply lA_ | apply lN_ | apply l1_) | exact HB.out))) : w.heap.size ≤ gb185)); clear HB; have HB := n0_; have BK185 := n1_; have GW185 := n2_; have GE185 := n3_; clear n0_ n1_ n2_ n3_; clear hb hbox hg) | ((with_reducible refine gate_callee (f := 86) rfl ?_); refine goesL_ (some 14) rfl rfl Try.func86 (by kernel_rfl) rfl #[.float .f64 a0.re, .int .i64 a1] rfl (by (try simp only [List.map_toArray, List.map_cons, List.map_nil]); first | done | rfl | (simp only [List.length_drop, List.length_take]; rfl)) ?_; (with_reducible refine (pylonref02_whole.calls a0.re a1 t186 true _ A3.out).mono ?_); rintro e w' ⟨rfl, ⟨nd, rfl⟩⟩; refine ⟨_, rfl, ?_⟩; (try (rw [drewN_self w6]; generalize hq_ : World.drewN w6 _ = w6; have n0_ : Aside0 (w6.heap[gb185]? = some (.cells #[.int .i64 0, .int .i64 0] 111 (0, 0))) := ⟨by rw [← hq_]; exact (by (with_reducible repeat (first | refine bN_ ?_ _ | refine bD_ ?_ | refine bA_ ?_ _)); exact BK185.out)⟩; have n1_ : Aside0 (Below w.heap.size w w6) := ⟨by rw [← hq_]; exact (by repeat (first | (with_reducible first | exact HB.out | apply lA_ | apply lN_ | apply l1_ | refine lS_ ?_ GE185.out) | exact HB.out))⟩; clear BK185 HB hq_; have BK185 := n0_; have HB := n1_; clear n0_ n1_))) | ((with_reducible refine gate_callee (f := 86) rfl ?_); refine goesL_ (some 21) rfl rfl Try.func86 (by kernel_rfl) rfl #[.float .f64 a0.im, .int .i64 a1] rfl (by (try simp only [List.map_toArray, List.map_cons, List.map_nil]); first | done | rfl | (simp only [List.length_drop, List.length_take]; rfl)) ?_; (with_reducible refine (pylonref02_whole.calls a0.im a1 t188 t189 _ A4.out).mono ?_); rintro e w' ⟨rfl, ⟨nd, rfl⟩⟩; refine ⟨_, rfl, ?_⟩; (try (rw [drewN_self w6]; generalize hq_ : World.drewN w6 _ = w6; have n0_ : Aside0 (w6.heap[gb185]? = some (.cells #[.int .i64 0, .int .i64 0] 111 (0, 0))) := ⟨by rw [← hq_]; exact (by (with_reducible repeat (first | refine bN_ ?_ _ | refine bD_ ?_ | refine bA_ ?_ _)); exact BK185.out)⟩; have n1_ : Aside0 (Below w.heap.size w w6) := ⟨by rw [← hq_]; exact (by repeat (first | (with_reducible first | exact HB.out | apply lA_ | apply lN_ | apply l1_ | refine lS_ ?_ GE185.out) | exact HB.out))⟩; clear BK185 HB hq_; have BK185 := n0_; have HB := n1_; clear n0_ n1_)); have hcz7_0 : w6.cell? ⟨gb185, 0, none⟩ = some (.int .i64 0) := (bC_ BK185.out 0).trans rfl; have hcz7_1 : w6.cell? ⟨gb185, 1, none⟩ = some (.int .i64 0) := (bC_ BK185.out 1).trans rfl; have hfz7_0 := bZ_ BK185.out 0; have hfz7_1 := bZ_ BK185.out 1))
  refine bodyPost_ret (results_ct rfl _ _ gb185 111 #[.int .i64 t186, .int .i64 t188] (0, 0) _ rfl (by (with_reducible repeat (first | refine bN_ ?_ _ | refine bD_ ?_ | refine bA_ ?_ _)); refine bP_ (cs := #[.int .i64 t186, .int .i64 0]) ?_ 1 _ rfl; (with_reducible repeat (first | refine bN_ ?_ _ | refine bD_ ?_ | refine bA_ ?_ _)); refine bP_ (cs := #[.int .i64 0, .int .i64 0]) ?_ 0 _ rfl; (with_reducible repeat (first | refine bN_ ?_ _ | refine bD_ ?_ | refine bA_ ?_ _)); exact BK185.out) Try.underlying111 rfl (by kernel_rfl)) rfl ?_
  exact ⟨by first | rfl | (simp [errW_none, errW_some] <;> rfl) | (simp [*, errW_none, errW_some] <;> rfl), by repeat (first | (with_reducible first | exact HB.out | apply lA_ | apply lN_ | apply l1_ | refine lS_ ?_ GE185.out) | exact HB.out)⟩
 ·
  replace c5 := Bool.eq_false_iff.mpr c5
  subst c5
  have H1 : (some (t186, t188, false)) = some (r1, r2, r3) := by rw [if_neg (show ¬ (false = true) by decide)] at H; exact H
  clear H
  have H := H1
  clear H1
  simp only [Option.some.injEq, Prod.mk.injEq] at H
  obtain ⟨rfl, rfl, rfl⟩ := H
  go_enter Try.func73, Try.ntmps73
  go_wp2_with (first | ((with_reducible refine gate_dst (N := 4) rfl ?_); refine box_event ?hg (N := 4) ?hd (cs := #[.int .i64 0, .int .i64 0]) (t := 111) ?hr ?_; (case hd => rfl); (case hg => rfl); (case hr => first | (go_simp; done) | (go_simp; rfl)); intro gb185 hg w8 hbox hb; have n0_ := Aside0.mk (below_step (by repeat (first | (with_reducible first | exact HB.out | apply lA_ | apply lN_ | apply l1_) | exact HB.out)) hb); have n1_ := Aside0.mk (hbox); have n2_ := Aside0.mk ((by rw [hg]; exact (below_size (by repeat (first | (with_reducible first | exact HB.out | apply lA_ | apply lN_ | apply l1_) | exact HB.out))) : w.heap.size ≤ gb185)); have n3_ := Aside0.mk ((by rw [hg]; exact (below_size (by repeat (first | (with_reducible first | exact HB.out | apply lA_ | apply lN_ | apply l1_) | exact HB.out))) : w.heap.size ≤ gb185)); clear HB; have HB := n0_; have BK185 := n1_; have GW185 := n2_; have GE185 := n3_; clear n0_ n1_ n2_ n3_; clear hb hbox hg) | ((with_reducible refine gate_callee (f := 86) rfl ?_); refine goesL_ (some 14) rfl rfl Try.func86 (by kernel_rfl) rfl #[.float .f64 a0.re, .int .i64 a1] rfl (by (try simp only [List.map_toArray, List.map_cons, List.map_nil]); first | done | rfl | (simp only [List.length_drop, List.length_take]; rfl)) ?_; (with_reducible refine (pylonref02_whole.calls a0.re a1 t186 false _ A3.out).mono ?_); rintro e w' ⟨rfl, ⟨nd, rfl⟩⟩; refine ⟨_, rfl, ?_⟩; (try (rw [drewN_self w8]; generalize hq_ : World.drewN w8 _ = w8; have n0_ : Aside0 (w8.heap[gb185]? = some (.cells #[.int .i64 0, .int .i64 0] 111 (0, 0))) := ⟨by rw [← hq_]; exact (by (with_reducible repeat (first | refine bN_ ?_ _ | refine bD_ ?_ | refine bA_ ?_ _)); exact BK185.out)⟩; have n1_ : Aside0 (Below w.heap.size w w8) := ⟨by rw [← hq_]; exact (by repeat (first | (with_reducible first | exact HB.out | apply lA_ | apply lN_ | apply l1_ | refine lS_ ?_ GE185.out) | exact HB.out))⟩; clear BK185 HB hq_; have BK185 := n0_; have HB := n1_; clear n0_ n1_))) | ((with_reducible refine gate_callee (f := 86) rfl ?_); refine goesL_ (some 21) rfl rfl Try.func86 (by kernel_rfl) rfl #[.float .f64 a0.im, .int .i64 a1] rfl (by (try simp only [List.map_toArray, List.map_cons, List.map_nil]); first | done | rfl | (simp only [List.length_drop, List.length_take]; rfl)) ?_; (with_reducible refine (pylonref02_whole.calls a0.im a1 t188 t189 _ A4.out).mono ?_); rintro e w' ⟨rfl, ⟨nd, rfl⟩⟩; refine ⟨_, rfl, ?_⟩; (try (rw [drewN_self w8]; generalize hq_ : World.drewN w8 _ = w8; have n0_ : Aside0 (w8.heap[gb185]? = some (.cells #[.int .i64 0, .int .i64 0] 111 (0, 0))) := ⟨by rw [← hq_]; exact (by (with_reducible repeat (first | refine bN_ ?_ _ | refine bD_ ?_ | refine bA_ ?_ _)); exact BK185.out)⟩; have n1_ : Aside0 (Below w.heap.size w w8) := ⟨by rw [← hq_]; exact (by repeat (first | (with_reducible first | exact HB.out | apply lA_ | apply lN_ | apply l1_ | refine lS_ ?_ GE185.out) | exact HB.out))⟩; clear BK185 HB hq_; have BK185 := n0_; have HB := n1_; clear n0_ n1_)); have hcz9_0 : w8.cell? ⟨gb185, 0, none⟩ = some (.int .i64 0) := (bC_ BK185.out 0).trans rfl; have hcz9_1 : w8.cell? ⟨gb185, 1, none⟩ = some (.int .i64 0) := (bC_ BK185.out 1).trans rfl; have hfz9_0 := bZ_ BK185.out 0; have hfz9_1 := bZ_ BK185.out 1))
  refine bodyPost_ret (results_ct rfl _ _ gb185 111 #[.int .i64 t186, .int .i64 t188] (0, 0) _ rfl (by (with_reducible repeat (first | refine bN_ ?_ _ | refine bD_ ?_ | refine bA_ ?_ _)); refine bP_ (cs := #[.int .i64 t186, .int .i64 0]) ?_ 1 _ rfl; (with_reducible repeat (first | refine bN_ ?_ _ | refine bD_ ?_ | refine bA_ ?_ _)); refine bP_ (cs := #[.int .i64 0, .int .i64 0]) ?_ 0 _ rfl; (with_reducible repeat (first | refine bN_ ?_ _ | refine bD_ ?_ | refine bA_ ?_ _)); exact BK185.out) Try.underlying111 rfl (by kernel_rfl)) rfl ?_
  exact ⟨by first | rfl | (simp [errW_none, errW_some] <;> rfl) | (simp [*, errW_none, errW_some] <;> rfl), by repeat (first | (with_reducible first | exact HB.out | apply lA_ | apply lN_ | apply l1_ | refine lS_ ?_ GE185.out) | exact HB.out)⟩

/-! ### pylonref12_Fits: function 68 -/
def pylonref12_Fits.f (a0 : Cx) : Option (Int × Int × Bool) := (pylonref02_Within.f a0 10000000000).bind fun bt191 => (some (bt191.1, bt191.2.1, bt191.2.2))
set_option maxHeartbeats 8000000 in
set_option maxRecDepth 100000 in
theorem pylonref12_Fits.calls (a0 : Cx) (r1 : Int) (r2 : Int) (r3 : Bool) (w : World) (h : pylonref12_Fits.f a0 = some (r1, r2, r3)) :
  Calls Try.prog 68 #[.complex .f64 a0.re a0.im] w fun e w' => e = .returned (.tuple #[.agg #[.int .i64 r1, .int .i64 r2], .bool r3]) ∧ Below w.heap.size w w' := by
 have hu111 := Try.underlying111
 have HB := Aside0.mk (Below.refl w.heap.size w)
 have H : ((pylonref02_Within.f a0 10000000000).bind fun bt191 => (some (bt191.1, bt191.2.1, bt191.2.2))) = some (r1, r2, r3) := h
 clear h
 replace H := Option.bind_eq_some_iff.mp H
 obtain ⟨⟨t191, t192, t193⟩, A20, H⟩ := H
 replace H : (some (t191, t192, t193)) = some (r1, r2, r3) := H
 have A2 := Aside0.mk A20
 clear A20
 simp only [Option.some.injEq, Prod.mk.injEq] at H
 obtain ⟨rfl, rfl, rfl⟩ := H
 go_enter Try.func68, Try.ntmps68
 go_wp2_with (first | ((with_reducible refine gate_dst (N := 2) rfl ?_); refine box_event ?hg (N := 2) ?hd (cs := #[.int .i64 0, .int .i64 0]) (t := 111) ?hr ?_; (case hd => rfl); (case hg => rfl); (case hr => first | (go_simp; done) | (go_simp; rfl)); intro gb190 hg w3 hbox hb; have n0_ := Aside0.mk (below_step (by repeat (first | (with_reducible first | exact HB.out | apply lA_ | apply lN_ | apply l1_) | exact HB.out)) hb); have n1_ := Aside0.mk (hbox); have n2_ := Aside0.mk ((by rw [hg]; exact (below_size (by repeat (first | (with_reducible first | exact HB.out | apply lA_ | apply lN_ | apply l1_) | exact HB.out))) : w.heap.size ≤ gb190)); have n3_ := Aside0.mk ((by rw [hg]; exact (below_size (by repeat (first | (with_reducible first | exact HB.out | apply lA_ | apply lN_ | apply l1_) | exact HB.out))) : w.heap.size ≤ gb190)); clear HB; have HB := n0_; have BK190 := n1_; have GW190 := n2_; have GE190 := n3_; clear n0_ n1_ n2_ n3_; clear hb hbox hg) | ((with_reducible refine gate_callee (f := 73) rfl ?_); refine goesL_ (some 5) rfl rfl Try.func73 (by kernel_rfl) rfl #[.complex .f64 a0.re a0.im, .int .i64 10000000000] rfl (by (try simp only [List.map_toArray, List.map_cons, List.map_nil]); first | done | rfl | (simp only [List.length_drop, List.length_take]; rfl)) ?_; (with_reducible refine (pylonref02_Within.calls a0 10000000000 t191 t192 t193 _ A2.out).mono ?_); rintro e w4 ⟨rfl, hb⟩; refine ⟨_, rfl, ?_⟩; have n0_ := Aside0.mk (bB_ (g := gb190) (o := .cells #[.int .i64 0, .int .i64 0] 111 (0, 0)) (by (with_reducible repeat (first | refine bN_ ?_ _ | refine bD_ ?_ | refine bA_ ?_ _)); exact BK190.out) hb); have n1_ := Aside0.mk (below_step (by repeat (first | (with_reducible first | exact HB.out | apply lA_ | apply lN_ | apply l1_ | refine lS_ ?_ GE190.out) | exact HB.out)) hb); clear BK190; clear HB; have BK190 := n0_; have HB := n1_; clear n0_ n1_; (try clear hb); (try clear hb2); (try clear hk); (try clear hi); have hcz5_0 : w4.cell? ⟨gb190, 0, none⟩ = some (.int .i64 0) := (bC_ BK190.out 0).trans rfl; have hcz5_1 : w4.cell? ⟨gb190, 1, none⟩ = some (.int .i64 0) := (bC_ BK190.out 1).trans rfl; have hfz5_0 := bZ_ BK190.out 0; have hfz5_1 := bZ_ BK190.out 1))
 refine bodyPost_ret (results_ct rfl _ _ gb190 111 #[.int .i64 t191, .int .i64 t192] (0, 0) _ rfl (by (with_reducible repeat (first | refine bN_ ?_ _ | refine bD_ ?_ | refine bA_ ?_ _)); refine bP_ (cs := #[.int .i64 t191, .int .i64 0]) ?_ 1 _ rfl; (with_reducible repeat (first | refine bN_ ?_ _ | refine bD_ ?_ | refine bA_ ?_ _)); refine bP_ (cs := #[.int .i64 0, .int .i64 0]) ?_ 0 _ rfl; (with_reducible repeat (first | refine bN_ ?_ _ | refine bD_ ?_ | refine bA_ ?_ _)); exact BK190.out) Try.underlying111 rfl (by kernel_rfl)) rfl ?_
 exact ⟨by first | rfl | (simp [errW_none, errW_some] <;> rfl) | (simp [*, errW_none, errW_some] <;> rfl), by repeat (first | (with_reducible first | exact HB.out | apply lA_ | apply lN_ | apply l1_ | refine lS_ ?_ GE190.out) | exact HB.out)⟩

/-! ### pylonref12_sums: function 81 -/
def pylonref12_sums.l0 : Nat → List Cx → Int → Int → Int → Int → Int → Int → Option (Int × Int × Int × Int × Int)
 | 0, _, _, _, _, _, _, _ => none
 | k + 1, x0, x7, x8, x18, x19, x196000, x196001 => if x19 < x18 then (if 0 ≤ x19 then (if x19 < (x0.length : Int) then ((pylonref12_Fits.f (rdOf (cx 0 0) x0 x19)).bind fun bt197 => (if bt197.2.2 = true then (pylonref12_sums.l0 k x0 (wrap64 (x7 + (mx bt197.1 0))) (wrap64 (x8 + (mx (wrap64 (-bt197.1)) 0))) x18 (wrap64 (x19 + 1)) (wrap64 (x196000 + bt197.1)) (wrap64 (x196001 + bt197.2.1))) else (some (0, 0, 0, 0, 5)))) else (none)) else (none)) else (some (x196000, x196001, x7, x8, 0))
def pylonref12_sums.f (k : Nat) (l0 : List Cx) : Option (Int × Int × Int × Int × Int) := if (l0.length : Int) > 40000 then (some (0, 0, 0, 0, 9)) else (pylonref12_sums.l0 k l0 0 0 (l0.length : Int) 0 0 0)
theorem pylonref12_sums.mono_l : ∀ k, (∀ y0 y1 y2 y3 y4 y5 y6, LeO (pylonref12_sums.l0 k y0 y1 y2 y3 y4 y5 y6) (pylonref12_sums.l0 (k + 1) y0 y1 y2 y3 y4 y5 y6))
 | 0 => fun _ _ _ _ _ _ _ r h => by simp [pylonref12_sums.l0] at h
 | k + 1 => by
  have ih0 := pylonref12_sums.mono_l k
  ·
   intro y0 y1 y2 y3 y4 y5 y6
   unfold pylonref12_sums.l0
   repeat' first
   | (with_reducible exact ih0 _ _ _ _ _ _ _)
   | (with_reducible exact LeO.refl _)
   | (with_reducible exact LeO.none _)
   | (with_reducible refine LeO.ite ?_ ?_)
   | (with_reducible refine LeO.bind ?_ (fun _ => ?_))
   | exact ih0 _ _ _ _ _ _ _
   | exact LeO.none _
   | refine LeO.ite ?_ ?_
   | refine LeO.bind ?_ (fun _ => ?_)
theorem pylonref12_sums.mono : ∀ a0 k, LeO (pylonref12_sums.f k a0) (pylonref12_sums.f (k + 1) a0) := by
 intro a0 k
 have ih0 := pylonref12_sums.mono_l k
 unfold pylonref12_sums.f
 repeat' first
   | (with_reducible exact ih0 _ _ _ _ _ _ _)
   | (with_reducible exact LeO.refl _)
   | (with_reducible exact LeO.none _)
   | (with_reducible refine LeO.ite ?_ ?_)
   | (with_reducible refine LeO.bind ?_ (fun _ => ?_))
   | exact ih0 _ _ _ _ _ _ _
   | exact LeO.none _
   | refine LeO.ite ?_ ?_
   | refine LeO.bind ?_ (fun _ => ?_)
set_option maxHeartbeats 8000000 in
set_option maxRecDepth 100000 in
theorem pylonref12_sums.calls (k : Nat) (A0 : Option Addr) (c0 : Nat) (l0 : List Cx) (r1 : Int) (r2 : Int) (r3 : Int) (r4 : Int) (r5 : Int) (w : World) (hr0 : Kd.C Kd.c128 w A0 l0.length l0) (hc0 : l0.length ≤ c0) (h : pylonref12_sums.f k l0 = some (r1, r2, r3, r4, r5)) :
  Calls Try.prog 81 #[.slice A0 l0.length c0] w fun e w' => e = .returned (.tuple #[.agg #[.int .i64 r1, .int .i64 r2], .int .i64 r3, .int .i64 r4, .int .i64 r5]) ∧ Below w.heap.size w w' := by
 have hu111 := Try.underlying111
 have HR0 := Aside0.mk hr0
 have HC0 := Aside0.mk hc0
 clear hr0 hc0
 have HB := Aside0.mk (Below.refl w.heap.size w)
 have H : (if (l0.length : Int) > 40000 then (some (0, 0, 0, 0, 9)) else (pylonref12_sums.l0 k l0 0 0 (l0.length : Int) 0 0 0)) = some (r1, r2, r3, r4, r5) := h
 clear h
 by_cases c2 : (l0.length : Int) > 40000
 ·
  rw [if_pos c2] at H
  have c2b0 : decide (40000 < (l0.length : Int)) = true := decide_eq_true c2
  have c2b1 : decide (40000 < l0.length) = true := decide_eq_true (by omega)
  clear c2
  simp only [Option.some.injEq, Prod.mk.injEq] at H
  obtain ⟨rfl, rfl, rfl, rfl, rfl⟩ := H
  go_enter Try.func81, Try.ntmps81
  go_wp2_with (first | ((with_reducible refine gate_dst (N := 2) rfl ?_); refine box_event ?hg (N := 2) ?hd (cs := #[.int .i64 0, .int .i64 0]) (t := 111) ?hr ?_; (case hd => rfl); (case hg => rfl); (case hr => first | (go_simp; done) | (go_simp; rfl)); intro gb194 hg w3 hbox hb; have n0_ := Aside0.mk (below_step (by repeat (first | (with_reducible first | exact HB.out | apply lA_ | apply lN_ | apply l1_) | exact HB.out)) hb); have n1_ := Aside0.mk (hbox); have n2_ := Aside0.mk ((by rw [hg]; exact (below_size (by repeat (first | (with_reducible first | exact HB.out | apply lA_ | apply lN_ | apply l1_) | exact HB.out))) : w.heap.size ≤ gb194)); have n3_ := Aside0.mk ((by rw [hg]; exact (below_size (by repeat (first | (with_reducible first | exact HB.out | apply lA_ | apply lN_ | apply l1_) | exact HB.out))) : w.heap.size ≤ gb194)); clear HB; have HB := n0_; have BK194 := n1_; have GW194 := n2_; have GE194 := n3_; clear n0_ n1_ n2_ n3_; clear hb hbox hg; have hcz4_0 : w3.cell? ⟨gb194, 0, none⟩ = some (.int .i64 0) := (bC_ BK194.out 0).trans rfl; have hcz4_1 : w3.cell? ⟨gb194, 1, none⟩ = some (.int .i64 0) := (bC_ BK194.out 1).trans rfl; have hfz4_0 := bZ_ BK194.out 0; have hfz4_1 := bZ_ BK194.out 1))
  refine bodyPost_ret (results_list (rs := [.cell 2 111, .tmp 3, .tmp 4, .tmp 5]) rfl (by simp) (.cell gb194 111 #[.int .i64 0, .int .i64 0] (0, 0) _ rfl (by (with_reducible repeat (first | refine bN_ ?_ _ | refine bD_ ?_ | refine bA_ ?_ _)); refine bP_ (cs := #[.int .i64 0, .int .i64 0]) ?_ 1 _ rfl; (with_reducible repeat (first | refine bN_ ?_ _ | refine bD_ ?_ | refine bA_ ?_ _)); refine bP_ (cs := #[.int .i64 0, .int .i64 0]) ?_ 0 _ rfl; (with_reducible repeat (first | refine bN_ ?_ _ | refine bD_ ?_ | refine bA_ ?_ _)); exact BK194.out) Try.underlying111 rfl (by kernel_rfl) (.tmp (.tmp (.tmp .nil))))) rfl ?_
  exact ⟨by first | rfl | (simp [errW_none, errW_some] <;> rfl) | (simp [*, errW_none, errW_some] <;> rfl), by repeat (first | (with_reducible first | exact HB.out | apply lA_ | apply lN_ | apply l1_ | refine lS_ ?_ GE194.out) | exact HB.out)⟩
 ·
  rw [if_neg c2] at H
  have c2b0 : decide (40000 < (l0.length : Int)) = false := decide_eq_false c2
  have c2b1 : decide (40000 < l0.length) = false := decide_eq_false (by omega)
  clear c2
  have H' := Aside0.mk H
  clear H
  go_enter Try.func81, Try.ntmps81
  go_wp2_with (first | ((with_reducible refine gate_dst (N := 2) rfl ?_); refine box_event ?hg (N := 2) ?hd (cs := #[.int .i64 0, .int .i64 0]) (t := 111) ?hr ?_; (case hd => rfl); (case hg => rfl); (case hr => first | (go_simp; done) | (go_simp; rfl)); intro gb194 hg w5 hbox hb; have n0_ := Aside0.mk (below_step (by repeat (first | (with_reducible first | exact HB.out | apply lA_ | apply lN_ | apply l1_) | exact HB.out)) hb); have n1_ := Aside0.mk (hbox); have n2_ := Aside0.mk ((by rw [hg]; exact (below_size (by repeat (first | (with_reducible first | exact HB.out | apply lA_ | apply lN_ | apply l1_) | exact HB.out))) : w.heap.size ≤ gb194)); have n3_ := Aside0.mk ((by rw [hg]; exact (below_size (by repeat (first | (with_reducible first | exact HB.out | apply lA_ | apply lN_ | apply l1_) | exact HB.out))) : w.heap.size ≤ gb194)); clear HB; have HB := n0_; have BK194 := n1_; have GW194 := n2_; have GE194 := n3_; clear n0_ n1_ n2_ n3_; clear hb hbox hg) | ((with_reducible refine gate_dst (N := 6) rfl ?_); refine box_event ?hg (N := 6) ?hd (cs := #[.int .i64 0, .int .i64 0]) (t := 111) ?hr ?_; (case hd => rfl); (case hg => rfl); (case hr => first | (go_simp; done) | (go_simp; rfl)); intro gb195 hg w6 hbox hb; have n0_ := Aside0.mk (bB_ (g := gb194) (o := .cells #[.int .i64 0, .int .i64 0] 111 (0, 0)) (by (with_reducible repeat (first | refine bN_ ?_ _ | refine bD_ ?_ | refine bA_ ?_ _)); exact BK194.out) hb); have n1_ := Aside0.mk (below_step (by repeat (first | (with_reducible first | exact HB.out | apply lA_ | apply lN_ | apply l1_ | refine lS_ ?_ GE194.out) | exact HB.out)) hb); have n2_ := Aside0.mk (hbox); have n3_ := Aside0.mk ((by rw [hg]; exact (below_size (by repeat (first | (with_reducible first | exact HB.out | apply lA_ | apply lN_ | apply l1_ | refine lS_ ?_ GE194.out) | exact HB.out))) : w.heap.size ≤ gb195)); have n4_ := Aside0.mk ((by rw [hg]; exact (below_size (by repeat (first | (with_reducible first | exact HB.out | apply lA_ | apply lN_ | apply l1_ | refine lS_ ?_ GE194.out) | exact HB.out))) : w.heap.size ≤ gb195)); have n5_ := Aside0.mk ((by rw [hg]; exact Nat.ne_of_lt (blk_lt (g := gb194) (o := .cells #[.int .i64 0, .int .i64 0] 111 (0, 0)) (by (with_reducible repeat (first | refine bN_ ?_ _ | refine bD_ ?_ | refine bA_ ?_ _)); exact BK194.out)) : gb194 ≠ gb195)); have n6_ := Aside0.mk ((by rw [hg]; exact Nat.ne_of_gt (blk_lt (g := gb194) (o := .cells #[.int .i64 0, .int .i64 0] 111 (0, 0)) (by (with_reducible repeat (first | refine bN_ ?_ _ | refine bD_ ?_ | refine bA_ ?_ _)); exact BK194.out)) : gb195 ≠ gb194)); clear BK194; clear HB; have BK194 := n0_; have HB := n1_; have BK195 := n2_; have GW195 := n3_; have GE195 := n4_; have NB194_195 := n5_; have NB195_194 := n6_; clear n0_ n1_ n2_ n3_ n4_ n5_ n6_; clear hb hbox hg; have hnb7 := NB195_194.out; have hnc7 := NB194_195.out; have hcz8_0 : w6.cell? ⟨gb195, 0, none⟩ = some (.int .i64 0) := (bC_ BK195.out 0).trans rfl; have hcz8_1 : w6.cell? ⟨gb195, 1, none⟩ = some (.int .i64 0) := (bC_ BK195.out 1).trans rfl; have hfz8_0 := bZ_ BK195.out 0; have hfz8_1 := bZ_ BK195.out 1))
  go_loopg [7, 8, 19] k (fun kq v7 v8 v19 w' => ∃ (x7_1 : Int) (x8_1 : Int) (x19_1 : Int) (x195000_1 : Int) (x195001_1 : Int) (x196000_1 : Int) (x196001_1 : Int), v7 = .int .i64 x7_1 ∧ v8 = .int .i64 x8_1 ∧ v19 = .int .i64 x19_1 ∧ Aside0 (pylonref12_sums.l0 kq l0 x7_1 x8_1 (l0.length : Int) x19_1 x196000_1 x196001_1 = some (r1, r2, r3, r4, r5)) ∧ Aside0 (kq ≤ k) ∧ Aside0 (w'.heap[gb194]? = some (.cells #[.int .i64 x195000_1, .int .i64 x195001_1] 111 (0, 0))) ∧ Aside0 (w'.heap[gb195]? = some (.cells #[.int .i64 x196000_1, .int .i64 x196001_1] 111 (0, 0))) ∧ Aside0 (Below w.heap.size w w'))
  case atStart => exact ⟨(0), (0), (0), (0), (0), (0), (0), (by first | rfl | (simp; done) | (simp [*]; done)), (by first | rfl | (simp; done) | (simp [*]; done)), (by first | rfl | (simp; done) | (simp [*]; done)), H', ⟨Nat.le_refl _⟩, ⟨by (with_reducible repeat (first | refine bN_ ?_ _ | refine bD_ ?_ | refine bA_ ?_ _)); refine bF_ ?_ NB194_195.out _; (with_reducible repeat (first | refine bN_ ?_ _ | refine bD_ ?_ | refine bA_ ?_ _)); refine bF_ ?_ NB194_195.out _; (with_reducible repeat (first | refine bN_ ?_ _ | refine bD_ ?_ | refine bA_ ?_ _)); exact BK194.out⟩, ⟨by (with_reducible repeat (first | refine bN_ ?_ _ | refine bD_ ?_ | refine bA_ ?_ _)); refine bP_ (cs := #[.int .i64 0, .int .i64 0]) ?_ 1 _ rfl; (with_reducible repeat (first | refine bN_ ?_ _ | refine bD_ ?_ | refine bA_ ?_ _)); refine bP_ (cs := #[.int .i64 0, .int .i64 0]) ?_ 0 _ rfl; (with_reducible repeat (first | refine bN_ ?_ _ | refine bD_ ?_ | refine bA_ ?_ _)); exact BK195.out⟩, ⟨by repeat (first | (with_reducible first | exact HB.out | apply lA_ | apply lN_ | apply l1_ | refine lS_ ?_ GE194.out | refine lS_ ?_ GE195.out) | exact HB.out)⟩⟩
  case round =>
   clear H'
   try clear c2
   try clear c2b0
   try clear c2b1
   try clear p2
   try clear c7
   try clear c8
   try clear hcz4_0
   try clear hcz4_1
   try clear hcz8_0
   try clear hcz8_1
   try clear hfz4_0
   try clear hfz4_1
   try clear hfz8_0
   try clear hfz8_1
   obtain ⟨x7_1, x8_1, x19_1, x195000_1, x195001_1, x196000_1, x196001_1, rfl, rfl, rfl, HA, HK1, BK194, BK195, HB⟩ := hrel
   cases gk with
   | zero => exact absurd HA.out (by simp [pylonref12_sums.l0])
   | succ k1 =>
    have H := HA.out
    clear HA
    simp only [pylonref12_sums.l0] at H
    by_cases c9 : x19_1 < (l0.length : Int)
    ·
     rw [if_pos c9] at H
     have c9b0 : decide (x19_1 < (l0.length : Int)) = true := decide_eq_true c9
     clear c9
     by_cases c10 : 0 ≤ x19_1
     ·
      rw [if_pos c10] at H
      have c10b0 : decide (0 ≤ x19_1) = true := decide_eq_true c10
      clear c10
      by_cases c11 : x19_1 < (l0.length : Int)
      ·
       rw [if_pos c11] at H
       have c11b0 : decide (x19_1 < (l0.length : Int)) = true := decide_eq_true c11
       clear c11
       replace H := Option.bind_eq_some_iff.mp H
       obtain ⟨⟨t197, t198, t199⟩, A120, H⟩ := H
       replace H : (if t199 = true then (pylonref12_sums.l0 k1 l0 (wrap64 (x7_1 + (mx t197 0))) (wrap64 (x8_1 + (mx (wrap64 (-t197)) 0))) (l0.length : Int) (wrap64 (x19_1 + 1)) (wrap64 (x196000_1 + t197)) (wrap64 (x196001_1 + t198))) else (some (0, 0, 0, 0, 5))) = some (r1, r2, r3, r4, r5) := H
       have A12 := Aside0.mk A120
       clear A120
       by_cases c13 : t199 = true
       ·
        subst c13
        have H1 : (pylonref12_sums.l0 k1 l0 (wrap64 (x7_1 + (mx t197 0))) (wrap64 (x8_1 + (mx (wrap64 (-t197)) 0))) (l0.length : Int) (wrap64 (x19_1 + 1)) (wrap64 (x196000_1 + t197)) (wrap64 (x196001_1 + t198))) = some (r1, r2, r3, r4, r5) := by rw [if_pos rfl] at H; exact H
        clear H
        have H := H1
        clear H1
        obtain ⟨ji14, hji14⟩ : ∃ j_ : Int, (mx t197 0) = j_ := ⟨_, rfl⟩
        replace H : (pylonref12_sums.l0 k1 l0 (wrap64 (x7_1 + (ji14))) (wrap64 (x8_1 + (mx (wrap64 (-t197)) 0))) (l0.length : Int) (wrap64 (x19_1 + 1)) (wrap64 (x196000_1 + t197)) (wrap64 (x196001_1 + t198))) = some (r1, r2, r3, r4, r5) := by first | (rw [hji14] at H; exact H) | (simp only [hji14] at H ⊢; exact H)
        (try rw [hji14] at A12)
        (try (have hji14l : 0 ≤ ji14 := by (rw [← hji14]; unfold mx; (repeat' split) <;> omega)))
        (try (have hji14m : 0 ≤ ji14 := by omega))
        have hji14_ : (if t197 < 0 then 0 else t197) = ji14 := hji14
        obtain ⟨ji15, hji15⟩ : ∃ j_ : Int, (mx (wrap64 (-t197)) 0) = j_ := ⟨_, rfl⟩
        replace H : (pylonref12_sums.l0 k1 l0 (wrap64 (x7_1 + (ji14))) (wrap64 (x8_1 + (ji15))) (l0.length : Int) (wrap64 (x19_1 + 1)) (wrap64 (x196000_1 + t197)) (wrap64 (x196001_1 + t198))) = some (r1, r2, r3, r4, r5) := by first | (rw [hji15] at H; exact H) | (simp only [hji15] at H ⊢; exact H)
        (try rw [hji15] at A12)
        (try (have hji15l : 0 ≤ ji15 := by (rw [← hji15]; unfold mx; (repeat' split) <;> omega)))
        (try (have hji15m : 0 ≤ ji15 := by omega))
        have hji15_ : (if (wrap64 (-t197)) < 0 then 0 else (wrap64 (-t197))) = ji15 := hji15
        have H' := Aside0.mk H
        clear H
        have p196 : 0 ≤ (x19_1 : Int) := of_decide_eq_true (by first | (with_reducible assumption) | assumption)
        have q196 : x19_1 < (l0.length : Int) := of_decide_eq_true (by first | (with_reducible assumption) | assumption)
        obtain ⟨ad196, e196, hx196_0⟩ := Kd.at_c128 HR0.out x19_1 p196 q196
        cases e196
        replace hx196_0 := (HB.out.cell (World.block_lt_of_cell? w _ hx196_0)).trans hx196_0
        replace p196 := eq_true p196
        replace q196 := eq_true q196
        go_wp2_with (first | ((with_reducible refine gate_callee (f := 68) rfl ?_); refine goesL_ (some 27) rfl rfl Try.func68 (by kernel_rfl) rfl #[.complex .f64 (rdOf (cx 0 0) l0 x19_1).re (rdOf (cx 0 0) l0 x19_1).im] rfl (by (try simp only [List.map_toArray, List.map_cons, List.map_nil]); first | done | rfl | (simp only [List.length_drop, List.length_take]; rfl)) ?_; (with_reducible refine (pylonref12_Fits.calls (rdOf (cx 0 0) l0 x19_1) t197 t198 true _ A12.out).mono ?_); rintro e w16 ⟨rfl, hb⟩; refine ⟨_, rfl, ?_⟩; have n0_ := Aside0.mk (bB_ (g := gb194) (o := .cells #[.int .i64 x195000_1, .int .i64 x195001_1] 111 (0, 0)) (by (with_reducible repeat (first | refine bN_ ?_ _ | refine bD_ ?_ | refine bA_ ?_ _)); exact BK194.out) hb); have n1_ := Aside0.mk (bB_ (g := gb195) (o := .cells #[.int .i64 x196000_1, .int .i64 x196001_1] 111 (0, 0)) (by (with_reducible repeat (first | refine bN_ ?_ _ | refine bD_ ?_ | refine bA_ ?_ _)); exact BK195.out) hb); have n2_ := Aside0.mk (below_step (by repeat (first | (with_reducible first | exact HB.out | apply lA_ | apply lN_ | apply l1_ | refine lS_ ?_ GE194.out | refine lS_ ?_ GE195.out) | exact HB.out)) hb); clear BK194; clear BK195; clear HB; have BK194 := n0_; have BK195 := n1_; have HB := n2_; clear n0_ n1_ n2_; (try clear hb); (try clear hb2); (try clear hk); (try clear hi)) | ((with_reducible refine gate_dst (N := 10) rfl ?_); refine box_event ?hg (N := 10) ?hd (cs := #[.int .i64 0, .int .i64 0]) (t := 111) ?hr ?_; (case hd => rfl); (case hg => rfl); (case hr => first | (go_simp; done) | (go_simp; rfl)); intro gb200 hg w17 hbox hb; have n0_ := Aside0.mk (bB_ (g := gb194) (o := .cells #[.int .i64 x195000_1, .int .i64 x195001_1] 111 (0, 0)) (by (with_reducible repeat (first | refine bN_ ?_ _ | refine bD_ ?_ | refine bA_ ?_ _)); exact BK194.out) hb); have n1_ := Aside0.mk (bB_ (g := gb195) (o := .cells #[.int .i64 x196000_1, .int .i64 x196001_1] 111 (0, 0)) (by (with_reducible repeat (first | refine bN_ ?_ _ | refine bD_ ?_ | refine bA_ ?_ _)); exact BK195.out) hb); have n2_ := Aside0.mk (below_step (by repeat (first | (with_reducible first | exact HB.out | apply lA_ | apply lN_ | apply l1_ | refine lS_ ?_ GE194.out | refine lS_ ?_ GE195.out) | exact HB.out)) hb); have n3_ := Aside0.mk (hbox); have n4_ := Aside0.mk ((by rw [hg]; exact (below_size (by repeat (first | (with_reducible first | exact HB.out | apply lA_ | apply lN_ | apply l1_ | refine lS_ ?_ GE194.out | refine lS_ ?_ GE195.out) | exact HB.out))) : w.heap.size ≤ gb200)); have n5_ := Aside0.mk ((by rw [hg]; exact (below_size (by repeat (first | (with_reducible first | exact HB.out | apply lA_ | apply lN_ | apply l1_ | refine lS_ ?_ GE194.out | refine lS_ ?_ GE195.out) | exact HB.out))) : w.heap.size ≤ gb200)); have n6_ := Aside0.mk ((by rw [hg]; exact Nat.ne_of_lt (blk_lt (g := gb194) (o := .cells #[.int .i64 x195000_1, .int .i64 x195001_1] 111 (0, 0)) (by (with_reducible repeat (first | refine bN_ ?_ _ | refine bD_ ?_ | refine bA_ ?_ _)); exact BK194.out)) : gb194 ≠ gb200)); have n7_ := Aside0.mk ((by rw [hg]; exact Nat.ne_of_gt (blk_lt (g := gb194) (o := .cells #[.int .i64 x195000_1, .int .i64 x195001_1] 111 (0, 0)) (by (with_reducible repeat (first | refine bN_ ?_ _ | refine bD_ ?_ | refine bA_ ?_ _)); exact BK194.out)) : gb200 ≠ gb194)); have n8_ := Aside0.mk ((by rw [hg]; exact Nat.ne_of_lt (blk_lt (g := gb195) (o := .cells #[.int .i64 x196000_1, .int .i64 x196001_1] 111 (0, 0)) (by (with_reducible repeat (first | refine bN_ ?_ _ | refine bD_ ?_ | refine bA_ ?_ _)); exact BK195.out)) : gb195 ≠ gb200)); have n9_ := Aside0.mk ((by rw [hg]; exact Nat.ne_of_gt (blk_lt (g := gb195) (o := .cells #[.int .i64 x196000_1, .int .i64 x196001_1] 111 (0, 0)) (by (with_reducible repeat (first | refine bN_ ?_ _ | refine bD_ ?_ | refine bA_ ?_ _)); exact BK195.out)) : gb200 ≠ gb195)); clear BK194; clear BK195; clear HB; have BK194 := n0_; have BK195 := n1_; have HB := n2_; have BK200 := n3_; have GW200 := n4_; have GE200 := n5_; have NB194_200 := n6_; have NB200_194 := n7_; have NB195_200 := n8_; have NB200_195 := n9_; clear n0_ n1_ n2_ n3_ n4_ n5_ n6_ n7_ n8_ n9_; clear hb hbox hg; have hnb18 := NB200_194.out; have hnc18 := NB194_200.out; have hnb19 := NB200_195.out; have hnc19 := NB195_200.out; have hcz20_0 : w17.cell? ⟨gb200, 0, none⟩ = some (.int .i64 0) := (bC_ BK200.out 0).trans rfl; have hcz20_1 : w17.cell? ⟨gb200, 1, none⟩ = some (.int .i64 0) := (bC_ BK200.out 1).trans rfl; have hfz20_0 := bZ_ BK200.out 0; have hfz20_1 := bZ_ BK200.out 1; have hnb21 := NB195_194.out; have hnc21 := NB194_195.out; have hcz22_0 : w17.cell? ⟨gb195, 0, none⟩ = some (.int .i64 x196000_1) := (bC_ BK195.out 0).trans rfl; have hcz22_1 : w17.cell? ⟨gb195, 1, none⟩ = some (.int .i64 x196001_1) := (bC_ BK195.out 1).trans rfl; have hfz22_0 := bZ_ BK195.out 0; have hfz22_1 := bZ_ BK195.out 1))
        go_roundg k1
        case measure => have := HK1.out; omega
        case rel => exact ⟨(wrap64 (x7_1 + (ji14))), (wrap64 (x8_1 + (ji15))), (wrap64 (x19_1 + 1)), (x195000_1), (x195001_1), (wrap64 (x196000_1 + t197)), (wrap64 (x196001_1 + t198)), (by first | rfl | (simp; done) | (simp only [← hji14] <;> (first | rfl | simp)) | (simp [*]; done)), (by first | rfl | (simp; done) | (simp only [← hji15] <;> (first | rfl | simp)) | (simp [*]; done)), (by first | rfl | (simp; done) | (simp [*]; done)), H', ⟨by have := HK1.out; omega⟩, ⟨by (with_reducible repeat (first | refine bN_ ?_ _ | refine bD_ ?_ | refine bA_ ?_ _)); refine bF_ ?_ NB194_195.out _; (with_reducible repeat (first | refine bN_ ?_ _ | refine bD_ ?_ | refine bA_ ?_ _)); refine bF_ ?_ NB194_195.out _; (with_reducible repeat (first | refine bN_ ?_ _ | refine bD_ ?_ | refine bA_ ?_ _)); refine bF_ ?_ NB194_200.out _; (with_reducible repeat (first | refine bN_ ?_ _ | refine bD_ ?_ | refine bA_ ?_ _)); refine bF_ ?_ NB194_200.out _; (with_reducible repeat (first | refine bN_ ?_ _ | refine bD_ ?_ | refine bA_ ?_ _)); exact BK194.out⟩, ⟨by (with_reducible repeat (first | refine bN_ ?_ _ | refine bD_ ?_ | refine bA_ ?_ _)); refine bP_ (cs := #[.int .i64 (wrap64 (x196000_1 + t197)), .int .i64 x196001_1]) ?_ 1 _ rfl; (with_reducible repeat (first | refine bN_ ?_ _ | refine bD_ ?_ | refine bA_ ?_ _)); refine bP_ (cs := #[.int .i64 x196000_1, .int .i64 x196001_1]) ?_ 0 _ rfl; (with_reducible repeat (first | refine bN_ ?_ _ | refine bD_ ?_ | refine bA_ ?_ _)); refine bF_ ?_ NB195_200.out _; (with_reducible repeat (first | refine bN_ ?_ _ | refine bD_ ?_ | refine bA_ ?_ _)); refine bF_ ?_ NB195_200.out _; (with_reducible repeat (first | refine bN_ ?_ _ | refine bD_ ?_ | refine bA_ ?_ _)); exact BK195.out⟩, ⟨by repeat (first | (with_reducible first | exact HB.out | apply lA_ | apply lN_ | apply l1_ | refine lS_ ?_ GE194.out | refine lS_ ?_ GE195.out | refine lS_ ?_ GE200.out) | exact HB.out)⟩⟩
       ·
        replace c13 := Bool.eq_false_iff.mpr c13
        subst c13
        have H1 : (some (0, 0, 0, 0, 5)) = some (r1, r2, r3, r4, r5) := by rw [if_neg (show ¬ (false = true) by decide)] at H; exact H
        clear H
        have H := H1
        clear H1
        simp only [Option.some.injEq, Prod.mk.injEq] at H
        obtain ⟨rfl, rfl, rfl, rfl, rfl⟩ := H
        have p196 : 0 ≤ (x19_1 : Int) := of_decide_eq_true (by first | (with_reducible assumption) | assumption)
        have q196 : x19_1 < (l0.length : Int) := of_decide_eq_true (by first | (with_reducible assumption) | assumption)
        obtain ⟨ad196, e196, hx196_0⟩ := Kd.at_c128 HR0.out x19_1 p196 q196
        cases e196
        replace hx196_0 := (HB.out.cell (World.block_lt_of_cell? w _ hx196_0)).trans hx196_0
        replace p196 := eq_true p196
        replace q196 := eq_true q196
        go_wp2_with (first | ((with_reducible refine gate_callee (f := 68) rfl ?_); refine goesL_ (some 27) rfl rfl Try.func68 (by kernel_rfl) rfl #[.complex .f64 (rdOf (cx 0 0) l0 x19_1).re (rdOf (cx 0 0) l0 x19_1).im] rfl (by (try simp only [List.map_toArray, List.map_cons, List.map_nil]); first | done | rfl | (simp only [List.length_drop, List.length_take]; rfl)) ?_; (with_reducible refine (pylonref12_Fits.calls (rdOf (cx 0 0) l0 x19_1) t197 t198 false _ A12.out).mono ?_); rintro e w23 ⟨rfl, hb⟩; refine ⟨_, rfl, ?_⟩; have n0_ := Aside0.mk (bB_ (g := gb194) (o := .cells #[.int .i64 x195000_1, .int .i64 x195001_1] 111 (0, 0)) (by (with_reducible repeat (first | refine bN_ ?_ _ | refine bD_ ?_ | refine bA_ ?_ _)); exact BK194.out) hb); have n1_ := Aside0.mk (bB_ (g := gb195) (o := .cells #[.int .i64 x196000_1, .int .i64 x196001_1] 111 (0, 0)) (by (with_reducible repeat (first | refine bN_ ?_ _ | refine bD_ ?_ | refine bA_ ?_ _)); exact BK195.out) hb); have n2_ := Aside0.mk (below_step (by repeat (first | (with_reducible first | exact HB.out | apply lA_ | apply lN_ | apply l1_ | refine lS_ ?_ GE194.out | refine lS_ ?_ GE195.out) | exact HB.out)) hb); clear BK194; clear BK195; clear HB; have BK194 := n0_; have BK195 := n1_; have HB := n2_; clear n0_ n1_ n2_; (try clear hb); (try clear hb2); (try clear hk); (try clear hi)) | ((with_reducible refine gate_dst (N := 10) rfl ?_); refine box_event ?hg (N := 10) ?hd (cs := #[.int .i64 0, .int .i64 0]) (t := 111) ?hr ?_; (case hd => rfl); (case hg => rfl); (case hr => first | (go_simp; done) | (go_simp; rfl)); intro gb200 hg w24 hbox hb; have n0_ := Aside0.mk (bB_ (g := gb194) (o := .cells #[.int .i64 x195000_1, .int .i64 x195001_1] 111 (0, 0)) (by (with_reducible repeat (first | refine bN_ ?_ _ | refine bD_ ?_ | refine bA_ ?_ _)); exact BK194.out) hb); have n1_ := Aside0.mk (bB_ (g := gb195) (o := .cells #[.int .i64 x196000_1, .int .i64 x196001_1] 111 (0, 0)) (by (with_reducible repeat (first | refine bN_ ?_ _ | refine bD_ ?_ | refine bA_ ?_ _)); exact BK195.out) hb); have n2_ := Aside0.mk (below_step (by repeat (first | (with_reducible first | exact HB.out | apply lA_ | apply lN_ | apply l1_ | refine lS_ ?_ GE194.out | refine lS_ ?_ GE195.out) | exact HB.out)) hb); have n3_ := Aside0.mk (hbox); have n4_ := Aside0.mk ((by rw [hg]; exact (below_size (by repeat (first | (with_reducible first | exact HB.out | apply lA_ | apply lN_ | apply l1_ | refine lS_ ?_ GE194.out | refine lS_ ?_ GE195.out) | exact HB.out))) : w.heap.size ≤ gb200)); have n5_ := Aside0.mk ((by rw [hg]; exact (below_size (by repeat (first | (with_reducible first | exact HB.out | apply lA_ | apply lN_ | apply l1_ | refine lS_ ?_ GE194.out | refine lS_ ?_ GE195.out) | exact HB.out))) : w.heap.size ≤ gb200)); have n6_ := Aside0.mk ((by rw [hg]; exact Nat.ne_of_lt (blk_lt (g := gb194) (o := .cells #[.int .i64 x195000_1, .int .i64 x195001_1] 111 (0, 0)) (by (with_reducible repeat (first | refine bN_ ?_ _ | refine bD_ ?_ | refine bA_ ?_ _)); exact BK194.out)) : gb194 ≠ gb200)); have n7_ := Aside0.mk ((by rw [hg]; exact Nat.ne_of_gt (blk_lt (g := gb194) (o := .cells #[.int .i64 x195000_1, .int .i64 x195001_1] 111 (0, 0)) (by (with_reducible repeat (first | refine bN_ ?_ _ | refine bD_ ?_ | refine bA_ ?_ _)); exact BK194.out)) : gb200 ≠ gb194)); have n8_ := Aside0.mk ((by rw [hg]; exact Nat.ne_of_lt (blk_lt (g := gb195) (o := .cells #[.int .i64 x196000_1, .int .i64 x196001_1] 111 (0, 0)) (by (with_reducible repeat (first | refine bN_ ?_ _ | refine bD_ ?_ | refine bA_ ?_ _)); exact BK195.out)) : gb195 ≠ gb200)); have n9_ := Aside0.mk ((by rw [hg]; exact Nat.ne_of_gt (blk_lt (g := gb195) (o := .cells #[.int .i64 x196000_1, .int .i64 x196001_1] 111 (0, 0)) (by (with_reducible repeat (first | refine bN_ ?_ _ | refine bD_ ?_ | refine bA_ ?_ _)); exact BK195.out)) : gb200 ≠ gb195)); clear BK194; clear BK195; clear HB; have BK194 := n0_; have BK195 := n1_; have HB := n2_; have BK200 := n3_; have GW200 := n4_; have GE200 := n5_; have NB194_200 := n6_; have NB200_194 := n7_; have NB195_200 := n8_; have NB200_195 := n9_; clear n0_ n1_ n2_ n3_ n4_ n5_ n6_ n7_ n8_ n9_; clear hb hbox hg; have hnb25 := NB200_194.out; have hnc25 := NB194_200.out; have hnb26 := NB200_195.out; have hnc26 := NB195_200.out; have hcz27_0 : w24.cell? ⟨gb200, 0, none⟩ = some (.int .i64 0) := (bC_ BK200.out 0).trans rfl; have hcz27_1 : w24.cell? ⟨gb200, 1, none⟩ = some (.int .i64 0) := (bC_ BK200.out 1).trans rfl; have hfz27_0 := bZ_ BK200.out 0; have hfz27_1 := bZ_ BK200.out 1; have hnb28 := NB194_195.out; have hnc28 := NB195_194.out; have hcz29_0 : w24.cell? ⟨gb194, 0, none⟩ = some (.int .i64 x195000_1) := (bC_ BK194.out 0).trans rfl; have hcz29_1 : w24.cell? ⟨gb194, 1, none⟩ = some (.int .i64 x195001_1) := (bC_ BK194.out 1).trans rfl; have hfz29_0 := bZ_ BK194.out 0; have hfz29_1 := bZ_ BK194.out 1))
        refine bodyPost_ret (results_list (rs := [.cell 2 111, .tmp 3, .tmp 4, .tmp 5]) rfl (by simp) (.cell gb194 111 #[.int .i64 0, .int .i64 0] (0, 0) _ rfl (by (with_reducible repeat (first | refine bN_ ?_ _ | refine bD_ ?_ | refine bA_ ?_ _)); refine bP_ (cs := #[.int .i64 0, .int .i64 x195001_1]) ?_ 1 _ rfl; (with_reducible repeat (first | refine bN_ ?_ _ | refine bD_ ?_ | refine bA_ ?_ _)); refine bP_ (cs := #[.int .i64 x195000_1, .int .i64 x195001_1]) ?_ 0 _ rfl; (with_reducible repeat (first | refine bN_ ?_ _ | refine bD_ ?_ | refine bA_ ?_ _)); refine bF_ ?_ NB194_200.out _; (with_reducible repeat (first | refine bN_ ?_ _ | refine bD_ ?_ | refine bA_ ?_ _)); refine bF_ ?_ NB194_200.out _; (with_reducible repeat (first | refine bN_ ?_ _ | refine bD_ ?_ | refine bA_ ?_ _)); exact BK194.out) Try.underlying111 rfl (by kernel_rfl) (.tmp (.tmp (.tmp .nil))))) rfl ?_
        exact ⟨by first | rfl | (simp [errW_none, errW_some] <;> rfl) | (simp [*, errW_none, errW_some] <;> rfl), by repeat (first | (with_reducible first | exact HB.out | apply lA_ | apply lN_ | apply l1_ | refine lS_ ?_ GE194.out | refine lS_ ?_ GE195.out | refine lS_ ?_ GE200.out) | exact HB.out)⟩
      ·
       rw [if_neg c11] at H
       exact absurd H (by simp)
     ·
      rw [if_neg c10] at H
      exact absurd H (by simp)
    ·
     rw [if_neg c9] at H
     have c9b0 : decide (x19_1 < (l0.length : Int)) = false := decide_eq_false c9
     clear c9
     simp only [Option.some.injEq, Prod.mk.injEq] at H
     obtain ⟨rfl, rfl, rfl, rfl, rfl⟩ := H
     have hnb30 := NB195_194.out
     have hnc30 := NB194_195.out
     have hcz31_0 : wr.cell? ⟨gb195, 0, none⟩ = some (.int .i64 x196000_1) := (bC_ BK195.out 0).trans rfl
     have hcz31_1 : wr.cell? ⟨gb195, 1, none⟩ = some (.int .i64 x196001_1) := (bC_ BK195.out 1).trans rfl
     have hfz31_0 := bZ_ BK195.out 0
     have hfz31_1 := bZ_ BK195.out 1
     have hcz32_0 : wr.cell? ⟨gb194, 0, none⟩ = some (.int .i64 x195000_1) := (bC_ BK194.out 0).trans rfl
     have hcz32_1 : wr.cell? ⟨gb194, 1, none⟩ = some (.int .i64 x195001_1) := (bC_ BK194.out 1).trans rfl
     have hfz32_0 := bZ_ BK194.out 0
     have hfz32_1 := bZ_ BK194.out 1
     go_wp2
     refine bodyPost_ret (results_list (rs := [.cell 2 111, .tmp 3, .tmp 4, .tmp 5]) rfl (by simp) (.cell gb194 111 #[.int .i64 x196000_1, .int .i64 x196001_1] (0, 0) _ rfl (by (with_reducible repeat (first | refine bN_ ?_ _ | refine bD_ ?_ | refine bA_ ?_ _)); refine bP_ (cs := #[.int .i64 x196000_1, .int .i64 x195001_1]) ?_ 1 _ rfl; (with_reducible repeat (first | refine bN_ ?_ _ | refine bD_ ?_ | refine bA_ ?_ _)); refine bP_ (cs := #[.int .i64 x195000_1, .int .i64 x195001_1]) ?_ 0 _ rfl; (with_reducible repeat (first | refine bN_ ?_ _ | refine bD_ ?_ | refine bA_ ?_ _)); exact BK194.out) Try.underlying111 rfl (by kernel_rfl) (.tmp (.tmp (.tmp .nil))))) rfl ?_
     exact ⟨by first | rfl | (simp [errW_none, errW_some] <;> rfl) | (simp [*, errW_none, errW_some] <;> rfl), by repeat (first | (with_reducible first | exact HB.out | apply lA_ | apply lN_ | apply l1_ | refine lS_ ?_ GE194.out | refine lS_ ?_ GE195.out) | exact HB.out)⟩

end Go.Proofs.Ytapimggcnneabaa.PMA
