-- Written by a program of this session for this claim (wip/print2.sh). Lean checks it.
import Derived.Test.YtbjkjakilpifhaaPRx0
import Derived.Test.YtbjkjakilpifhaaPRx3
import Derived.Test.YtbjkjakilpifhaaPRx4
import Derived.Test.YtbjkjakilpifhaaPRx6
namespace Go.Proofs.Ytbjkjakilpifhaa.PR
open Go.RowKit Go.Proofs.YtbjkjakilpifhaaW.PrintWords Go.Proofs.YtbjkjakilpifhaaW.PrintLast Go.Proofs.YtbjkjakilpifhaaW.PrintMore
attribute [local go_sem] max2_int min2_int max_two min_two max_three min_three max_four min_four   -- for this text's walks alone
set_option linter.unusedVariables false
set_option linter.unusedSimpArgs false

/-! ### pylonlaw18_RatchetHolds: function 10 -/
mutual
def pylonlaw18_RatchetHolds.j0 : Nat → Int → Int → List Int → Int → Int → Bool → Bool → Option (Bool)
  | 0, _, _, _, _, _, _, _ => none
  | k + 1, x1, x2, x7, x8, x10, x11, x64 => if x64 = true then (some false) else (pylonlaw18_RatchetHolds.l0 k x1 x2 x7 x8 x10 x11 1)
def pylonlaw18_RatchetHolds.l0 : Nat → Int → Int → List Int → Int → Int → Bool → Int → Option (Bool)
  | 0, _, _, _, _, _, _, _ => none
  | k + 1, x1, x2, x7, x8, x10, x11, x12 => if x12 ≤ x2 then (pylonlaw18_RatchetHolds.j2 k x1 x2 x7 x8 x10 x11 x12 (decide (x12 ≤ x10))) else (pylonlaw18_RatchetHolds.j2 k x1 x2 x7 x8 x10 x11 x12 false)
def pylonlaw18_RatchetHolds.j2 : Nat → Int → Int → List Int → Int → Int → Bool → Int → Bool → Option (Bool)
  | 0, _, _, _, _, _, _, _, _ => none
  | k + 1, x1, x2, x7, x8, x10, x11, x12, x72 => if x72 = true then (if 0 ≤ (wrap64 (x10 - x12)) then (if (wrap64 (x10 - x12)) < (x7.length : Int) then (if (wrap64 (2 * (wrap64 ((wrap64 (100 * x8)) - (wrap64 (x1 * (rd x7 (wrap64 (x10 - x12))))))))) < (-100) then (some false) else (if x11 = true then (pylonlaw18_RatchetHolds.l0 k x1 x2 x7 x8 x10 true (wrap64 (x12 + 1))) else (if (wrap64 (2 * (wrap64 ((wrap64 (100 * x8)) - (wrap64 (x1 * (rd x7 (wrap64 (x10 - x12))))))))) > (-100) then (pylonlaw18_RatchetHolds.l0 k x1 x2 x7 x8 x10 (decide ((wrap64 (2 * (wrap64 ((wrap64 (100 * x8)) - (wrap64 (x1 * (rd x7 (wrap64 (x10 - x12))))))))) ≤ 100)) (wrap64 (x12 + 1))) else (pylonlaw18_RatchetHolds.l0 k x1 x2 x7 x8 x10 false (wrap64 (x12 + 1)))))) else (none)) else (none)) else (some x11)
end
def pylonlaw18_RatchetHolds.f (k : Nat) (l0 : List Int) (a1 : Int) (a2 : Int) : Option (Bool) := (pylonlaw18_awake.f k).bind fun t189 => (if t189 = true then ((pylonlaw18_good.f k l0).bind fun t190 => ((ratchet_Billed.f k t190 (wrap64 (Int.tmod (IntKind.u64.wrap (a1)) 101)) (wrap64 (Int.tmod (IntKind.u64.wrap (a2)) 37))).bind fun bt193 => (if (t190.length : Int) = 0 then (if bt193.2 = 8 then (some (bt193.1 == 0)) else (some false)) else (if 0 ≤ (wrap64 ((t190.length : Int) - 1)) then (if (wrap64 ((t190.length : Int) - 1)) < (t190.length : Int) then (if bt193.2 = 0 then (if bt193.1 < (rd t190 (wrap64 ((t190.length : Int) - 1))) then (pylonlaw18_RatchetHolds.j0 k (wrap64 (Int.tmod (IntKind.u64.wrap (a1)) 101)) (wrap64 (Int.tmod (IntKind.u64.wrap (a2)) 37)) t190 bt193.1 (wrap64 ((t190.length : Int) - 1)) (bt193.1 == (rd t190 (wrap64 ((t190.length : Int) - 1)))) true) else (pylonlaw18_RatchetHolds.j0 k (wrap64 (Int.tmod (IntKind.u64.wrap (a1)) 101)) (wrap64 (Int.tmod (IntKind.u64.wrap (a2)) 37)) t190 bt193.1 (wrap64 ((t190.length : Int) - 1)) (bt193.1 == (rd t190 (wrap64 ((t190.length : Int) - 1)))) (decide (bt193.1 > 500000000000000)))) else (pylonlaw18_RatchetHolds.j0 k (wrap64 (Int.tmod (IntKind.u64.wrap (a1)) 101)) (wrap64 (Int.tmod (IntKind.u64.wrap (a2)) 37)) t190 bt193.1 (wrap64 ((t190.length : Int) - 1)) (bt193.1 == (rd t190 (wrap64 ((t190.length : Int) - 1)))) true)) else (none)) else (none))))) else (some false))
theorem pylonlaw18_RatchetHolds.mono_l : ∀ k, (∀ y0 y1 y2 y3 y4 y5 y6, LeO (pylonlaw18_RatchetHolds.j0 k y0 y1 y2 y3 y4 y5 y6) (pylonlaw18_RatchetHolds.j0 (k + 1) y0 y1 y2 y3 y4 y5 y6)) ∧ (∀ y0 y1 y2 y3 y4 y5 y6, LeO (pylonlaw18_RatchetHolds.l0 k y0 y1 y2 y3 y4 y5 y6) (pylonlaw18_RatchetHolds.l0 (k + 1) y0 y1 y2 y3 y4 y5 y6)) ∧ (∀ y0 y1 y2 y3 y4 y5 y6 y7, LeO (pylonlaw18_RatchetHolds.j2 k y0 y1 y2 y3 y4 y5 y6 y7) (pylonlaw18_RatchetHolds.j2 (k + 1) y0 y1 y2 y3 y4 y5 y6 y7))
  | 0 => ⟨fun _ _ _ _ _ _ _ r h => by simp [pylonlaw18_RatchetHolds.j0] at h, fun _ _ _ _ _ _ _ r h => by simp [pylonlaw18_RatchetHolds.l0] at h, fun _ _ _ _ _ _ _ _ r h => by simp [pylonlaw18_RatchetHolds.j2] at h⟩
  | k + 1 => by
    obtain ⟨ih0, ih1, ih2⟩ := pylonlaw18_RatchetHolds.mono_l k
    refine ⟨?_, ?_, ?_⟩
    · intro y0 y1 y2 y3 y4 y5 y6
      unfold pylonlaw18_RatchetHolds.j0
      repeat' first
      | (with_reducible exact ih0 _ _ _ _ _ _ _)
      | (with_reducible exact ih1 _ _ _ _ _ _ _)
      | (with_reducible exact ih2 _ _ _ _ _ _ _ _)
      | (with_reducible exact pylonlaw18_awake.mono _)
      | (with_reducible exact pylonlaw18_good.mono _ _)
      | (with_reducible exact ratchet_Billed.mono _ _ _ _)
      | (with_reducible exact LeO.refl _)
      | (with_reducible exact LeO.none _)
      | (with_reducible refine LeO.ite ?_ ?_)
      | (with_reducible refine LeO.bind ?_ (fun _ => ?_))
      | exact ih0 _ _ _ _ _ _ _
      | exact ih1 _ _ _ _ _ _ _
      | exact ih2 _ _ _ _ _ _ _ _
      | exact pylonlaw18_awake.mono _
      | exact pylonlaw18_good.mono _ _
      | exact ratchet_Billed.mono _ _ _ _
      | exact LeO.none _
      | refine LeO.ite ?_ ?_
      | refine LeO.bind ?_ (fun _ => ?_)
    · intro y0 y1 y2 y3 y4 y5 y6
      unfold pylonlaw18_RatchetHolds.l0
      repeat' first
      | (with_reducible exact ih0 _ _ _ _ _ _ _)
      | (with_reducible exact ih1 _ _ _ _ _ _ _)
      | (with_reducible exact ih2 _ _ _ _ _ _ _ _)
      | (with_reducible exact pylonlaw18_awake.mono _)
      | (with_reducible exact pylonlaw18_good.mono _ _)
      | (with_reducible exact ratchet_Billed.mono _ _ _ _)
      | (with_reducible exact LeO.refl _)
      | (with_reducible exact LeO.none _)
      | (with_reducible refine LeO.ite ?_ ?_)
      | (with_reducible refine LeO.bind ?_ (fun _ => ?_))
      | exact ih0 _ _ _ _ _ _ _
      | exact ih1 _ _ _ _ _ _ _
      | exact ih2 _ _ _ _ _ _ _ _
      | exact pylonlaw18_awake.mono _
      | exact pylonlaw18_good.mono _ _
      | exact ratchet_Billed.mono _ _ _ _
      | exact LeO.none _
      | refine LeO.ite ?_ ?_
      | refine LeO.bind ?_ (fun _ => ?_)
    · intro y0 y1 y2 y3 y4 y5 y6 y7
      unfold pylonlaw18_RatchetHolds.j2
      repeat' first
      | (with_reducible exact ih0 _ _ _ _ _ _ _)
      | (with_reducible exact ih1 _ _ _ _ _ _ _)
      | (with_reducible exact ih2 _ _ _ _ _ _ _ _)
      | (with_reducible exact pylonlaw18_awake.mono _)
      | (with_reducible exact pylonlaw18_good.mono _ _)
      | (with_reducible exact ratchet_Billed.mono _ _ _ _)
      | (with_reducible exact LeO.refl _)
      | (with_reducible exact LeO.none _)
      | (with_reducible refine LeO.ite ?_ ?_)
      | (with_reducible refine LeO.bind ?_ (fun _ => ?_))
      | exact ih0 _ _ _ _ _ _ _
      | exact ih1 _ _ _ _ _ _ _
      | exact ih2 _ _ _ _ _ _ _ _
      | exact pylonlaw18_awake.mono _
      | exact pylonlaw18_good.mono _ _
      | exact ratchet_Billed.mono _ _ _ _
      | exact LeO.none _
      | refine LeO.ite ?_ ?_
      | refine LeO.bind ?_ (fun _ => ?_)
theorem pylonlaw18_RatchetHolds.mono : ∀ a0 a1 a2 k, LeO (pylonlaw18_RatchetHolds.f k a0 a1 a2) (pylonlaw18_RatchetHolds.f (k + 1) a0 a1 a2) := by
  intro a0 a1 a2 k
  obtain ⟨ih0, ih1, ih2⟩ := pylonlaw18_RatchetHolds.mono_l k
  unfold pylonlaw18_RatchetHolds.f
  repeat' first
      | (with_reducible exact ih0 _ _ _ _ _ _ _)
      | (with_reducible exact ih1 _ _ _ _ _ _ _)
      | (with_reducible exact ih2 _ _ _ _ _ _ _ _)
      | (with_reducible exact pylonlaw18_awake.mono _)
      | (with_reducible exact pylonlaw18_good.mono _ _)
      | (with_reducible exact ratchet_Billed.mono _ _ _ _)
      | (with_reducible exact LeO.refl _)
      | (with_reducible exact LeO.none _)
      | (with_reducible refine LeO.ite ?_ ?_)
      | (with_reducible refine LeO.bind ?_ (fun _ => ?_))
      | exact ih0 _ _ _ _ _ _ _
      | exact ih1 _ _ _ _ _ _ _
      | exact ih2 _ _ _ _ _ _ _ _
      | exact pylonlaw18_awake.mono _
      | exact pylonlaw18_good.mono _ _
      | exact ratchet_Billed.mono _ _ _ _
      | exact LeO.none _
      | refine LeO.ite ?_ ?_
      | refine LeO.bind ?_ (fun _ => ?_)
set_option maxHeartbeats 8000000 in
set_option maxRecDepth 100000 in
theorem pylonlaw18_RatchetHolds.calls (k : Nat) (A0 : Option Addr) (c0 : Nat) (l0 : List Int) (a1 : Int) (a2 : Int) (r : Bool) (w : World) (hr0 : Kd.C (Kd.int .i64) w A0 l0.length l0) (hc0 : l0.length ≤ c0) (h : pylonlaw18_RatchetHolds.f k l0 a1 a2 = some r) :
    Calls Try.prog 10 #[.slice A0 l0.length c0, .int .i64 a1, .int .i64 a2] w fun e w' => e = .returned (.bool r) ∧ Below w.heap.size w w' := by
  have HR0 := Aside0.mk hr0
  have HC0 := Aside0.mk hc0
  clear hr0 hc0
  have HB := Aside0.mk (Below.refl w.heap.size w)
  have H : ((pylonlaw18_awake.f k).bind fun t189 => (if t189 = true then ((pylonlaw18_good.f k l0).bind fun t190 => ((ratchet_Billed.f k t190 (wrap64 (Int.tmod (IntKind.u64.wrap (a1)) 101)) (wrap64 (Int.tmod (IntKind.u64.wrap (a2)) 37))).bind fun bt193 => (if (t190.length : Int) = 0 then (if bt193.2 = 8 then (some (bt193.1 == 0)) else (some false)) else (if 0 ≤ (wrap64 ((t190.length : Int) - 1)) then (if (wrap64 ((t190.length : Int) - 1)) < (t190.length : Int) then (if bt193.2 = 0 then (if bt193.1 < (rd t190 (wrap64 ((t190.length : Int) - 1))) then (pylonlaw18_RatchetHolds.j0 k (wrap64 (Int.tmod (IntKind.u64.wrap (a1)) 101)) (wrap64 (Int.tmod (IntKind.u64.wrap (a2)) 37)) t190 bt193.1 (wrap64 ((t190.length : Int) - 1)) (bt193.1 == (rd t190 (wrap64 ((t190.length : Int) - 1)))) true) else (pylonlaw18_RatchetHolds.j0 k (wrap64 (Int.tmod (IntKind.u64.wrap (a1)) 101)) (wrap64 (Int.tmod (IntKind.u64.wrap (a2)) 37)) t190 bt193.1 (wrap64 ((t190.length : Int) - 1)) (bt193.1 == (rd t190 (wrap64 ((t190.length : Int) - 1)))) (decide (bt193.1 > 500000000000000)))) else (pylonlaw18_RatchetHolds.j0 k (wrap64 (Int.tmod (IntKind.u64.wrap (a1)) 101)) (wrap64 (Int.tmod (IntKind.u64.wrap (a2)) 37)) t190 bt193.1 (wrap64 ((t190.length : Int) - 1)) (bt193.1 == (rd t190 (wrap64 ((t190.length : Int) - 1)))) true)) else (none)) else (none))))) else (some false))) = some r := h
  clear h
  replace H := Option.bind_eq_some_iff.mp H
  obtain ⟨t189, A40, H⟩ := H
  replace H : (if t189 = true then ((pylonlaw18_good.f k l0).bind fun t190 => ((ratchet_Billed.f k t190 (wrap64 (Int.tmod (IntKind.u64.wrap (a1)) 101)) (wrap64 (Int.tmod (IntKind.u64.wrap (a2)) 37))).bind fun bt193 => (if (t190.length : Int) = 0 then (if bt193.2 = 8 then (some (bt193.1 == 0)) else (some false)) else (if 0 ≤ (wrap64 ((t190.length : Int) - 1)) then (if (wrap64 ((t190.length : Int) - 1)) < (t190.length : Int) then (if bt193.2 = 0 then (if bt193.1 < (rd t190 (wrap64 ((t190.length : Int) - 1))) then (pylonlaw18_RatchetHolds.j0 k (wrap64 (Int.tmod (IntKind.u64.wrap (a1)) 101)) (wrap64 (Int.tmod (IntKind.u64.wrap (a2)) 37)) t190 bt193.1 (wrap64 ((t190.length : Int) - 1)) (bt193.1 == (rd t190 (wrap64 ((t190.length : Int) - 1)))) true) else (pylonlaw18_RatchetHolds.j0 k (wrap64 (Int.tmod (IntKind.u64.wrap (a1)) 101)) (wrap64 (Int.tmod (IntKind.u64.wrap (a2)) 37)) t190 bt193.1 (wrap64 ((t190.length : Int) - 1)) (bt193.1 == (rd t190 (wrap64 ((t190.length : Int) - 1)))) (decide (bt193.1 > 500000000000000)))) else (pylonlaw18_RatchetHolds.j0 k (wrap64 (Int.tmod (IntKind.u64.wrap (a1)) 101)) (wrap64 (Int.tmod (IntKind.u64.wrap (a2)) 37)) t190 bt193.1 (wrap64 ((t190.length : Int) - 1)) (bt193.1 == (rd t190 (wrap64 ((t190.length : Int) - 1)))) true)) else (none)) else (none))))) else (some false)) = some r := H
  have A4 := Aside0.mk A40
  clear A40
  by_cases c5 : t189 = true
  · subst c5
    have H1 : ((pylonlaw18_good.f k l0).bind fun t190 => ((ratchet_Billed.f k t190 (wrap64 (Int.tmod (IntKind.u64.wrap (a1)) 101)) (wrap64 (Int.tmod (IntKind.u64.wrap (a2)) 37))).bind fun bt193 => (if (t190.length : Int) = 0 then (if bt193.2 = 8 then (some (bt193.1 == 0)) else (some false)) else (if 0 ≤ (wrap64 ((t190.length : Int) - 1)) then (if (wrap64 ((t190.length : Int) - 1)) < (t190.length : Int) then (if bt193.2 = 0 then (if bt193.1 < (rd t190 (wrap64 ((t190.length : Int) - 1))) then (pylonlaw18_RatchetHolds.j0 k (wrap64 (Int.tmod (IntKind.u64.wrap (a1)) 101)) (wrap64 (Int.tmod (IntKind.u64.wrap (a2)) 37)) t190 bt193.1 (wrap64 ((t190.length : Int) - 1)) (bt193.1 == (rd t190 (wrap64 ((t190.length : Int) - 1)))) true) else (pylonlaw18_RatchetHolds.j0 k (wrap64 (Int.tmod (IntKind.u64.wrap (a1)) 101)) (wrap64 (Int.tmod (IntKind.u64.wrap (a2)) 37)) t190 bt193.1 (wrap64 ((t190.length : Int) - 1)) (bt193.1 == (rd t190 (wrap64 ((t190.length : Int) - 1)))) (decide (bt193.1 > 500000000000000)))) else (pylonlaw18_RatchetHolds.j0 k (wrap64 (Int.tmod (IntKind.u64.wrap (a1)) 101)) (wrap64 (Int.tmod (IntKind.u64.wrap (a2)) 37)) t190 bt193.1 (wrap64 ((t190.length : Int) - 1)) (bt193.1 == (rd t190 (wrap64 ((t190.length : Int) - 1)))) true)) else (none)) else (none))))) = some r := by rw [if_pos rfl] at H; exact H
    clear H
    have H := H1
    clear H1
    replace H := Option.bind_eq_some_iff.mp H
    obtain ⟨t190, A60, H⟩ := H
    replace H : ((ratchet_Billed.f k t190 (wrap64 (Int.tmod (IntKind.u64.wrap (a1)) 101)) (wrap64 (Int.tmod (IntKind.u64.wrap (a2)) 37))).bind fun bt193 => (if (t190.length : Int) = 0 then (if bt193.2 = 8 then (some (bt193.1 == 0)) else (some false)) else (if 0 ≤ (wrap64 ((t190.length : Int) - 1)) then (if (wrap64 ((t190.length : Int) - 1)) < (t190.length : Int) then (if bt193.2 = 0 then (if bt193.1 < (rd t190 (wrap64 ((t190.length : Int) - 1))) then (pylonlaw18_RatchetHolds.j0 k (wrap64 (Int.tmod (IntKind.u64.wrap (a1)) 101)) (wrap64 (Int.tmod (IntKind.u64.wrap (a2)) 37)) t190 bt193.1 (wrap64 ((t190.length : Int) - 1)) (bt193.1 == (rd t190 (wrap64 ((t190.length : Int) - 1)))) true) else (pylonlaw18_RatchetHolds.j0 k (wrap64 (Int.tmod (IntKind.u64.wrap (a1)) 101)) (wrap64 (Int.tmod (IntKind.u64.wrap (a2)) 37)) t190 bt193.1 (wrap64 ((t190.length : Int) - 1)) (bt193.1 == (rd t190 (wrap64 ((t190.length : Int) - 1)))) (decide (bt193.1 > 500000000000000)))) else (pylonlaw18_RatchetHolds.j0 k (wrap64 (Int.tmod (IntKind.u64.wrap (a1)) 101)) (wrap64 (Int.tmod (IntKind.u64.wrap (a2)) 37)) t190 bt193.1 (wrap64 ((t190.length : Int) - 1)) (bt193.1 == (rd t190 (wrap64 ((t190.length : Int) - 1)))) true)) else (none)) else (none)))) = some r := H
    have A6 := Aside0.mk A60
    clear A60
    replace H := Option.bind_eq_some_iff.mp H
    obtain ⟨⟨t193, t194⟩, A70, H⟩ := H
    replace H : (if (t190.length : Int) = 0 then (if t194 = 8 then (some (t193 == 0)) else (some false)) else (if 0 ≤ (wrap64 ((t190.length : Int) - 1)) then (if (wrap64 ((t190.length : Int) - 1)) < (t190.length : Int) then (if t194 = 0 then (if t193 < (rd t190 (wrap64 ((t190.length : Int) - 1))) then (pylonlaw18_RatchetHolds.j0 k (wrap64 (Int.tmod (IntKind.u64.wrap (a1)) 101)) (wrap64 (Int.tmod (IntKind.u64.wrap (a2)) 37)) t190 t193 (wrap64 ((t190.length : Int) - 1)) (t193 == (rd t190 (wrap64 ((t190.length : Int) - 1)))) true) else (pylonlaw18_RatchetHolds.j0 k (wrap64 (Int.tmod (IntKind.u64.wrap (a1)) 101)) (wrap64 (Int.tmod (IntKind.u64.wrap (a2)) 37)) t190 t193 (wrap64 ((t190.length : Int) - 1)) (t193 == (rd t190 (wrap64 ((t190.length : Int) - 1)))) (decide (t193 > 500000000000000)))) else (pylonlaw18_RatchetHolds.j0 k (wrap64 (Int.tmod (IntKind.u64.wrap (a1)) 101)) (wrap64 (Int.tmod (IntKind.u64.wrap (a2)) 37)) t190 t193 (wrap64 ((t190.length : Int) - 1)) (t193 == (rd t190 (wrap64 ((t190.length : Int) - 1)))) true)) else (none)) else (none))) = some r := H
    have A7 := Aside0.mk A70
    clear A70
    by_cases c8 : (t190.length : Int) = 0
    · rw [if_pos c8] at H
      have c8b0 : ((t190.length : Int) == 0) = true := beq_iff_eq.mpr c8
      have c8b1 : ((t190.length : Int) != 0) = false := bne_eq_false_iff_eq.mpr c8
      clear c8
      by_cases c9 : t194 = 8
      · rw [if_pos c9] at H
        have c9b0 : (t194 == 8) = true := beq_iff_eq.mpr c9
        have c9b1 : (t194 != 8) = false := bne_eq_false_iff_eq.mpr c9
        clear c9
        obtain rfl := Option.some.inj H
        go_enter Try.func10, Try.ntmps10
        go_wp2_with (first | ((with_reducible refine gate_callee (f := 20) rfl ?_); refine goesL_ (some 14) rfl rfl Try.func20 (by kernel_rfl) rfl #[] rfl (by (try simp only [List.map_toArray, List.map_cons, List.map_nil]); first | done | rfl | (simp only [List.length_drop, List.length_take]; rfl)) ?_; (with_reducible refine (pylonlaw18_awake.calls k  true _ A4.out).mono ?_); rintro e w10 ⟨rfl, hb⟩; refine ⟨_, rfl, ?_⟩; have n0_ := Aside0.mk (below_step (by repeat (first | (with_reducible first | exact HB.out | apply below_alloc | apply pw_below_drewN | apply below_drew1) | exact HB.out)) hb); clear HB; have HB := n0_; clear n0_; (try clear hb); (try clear hb2); (try clear hk); (try clear hi)) | ((with_reducible refine gate_callee (f := 25) rfl ?_); refine goesL_ (some 17) rfl rfl Try.func25 (by kernel_rfl) rfl #[.slice A0 l0.length c0] rfl (by (try simp only [List.map_toArray, List.map_cons, List.map_nil]); first | done | rfl | (simp only [List.length_drop, List.length_take]; rfl)) ?_; (with_reducible refine (pylonlaw18_good.calls k _ _ l0 t190 _ ?side1 ?side2 A6.out).mono ?_); (case side1 => repeat (first | exact (Kd.C_below HR0.out HB.out) | (with_reducible refine Kd.C_alloc ?_ _) | (with_reducible refine Kd.C_drewN ?_ _) | (with_reducible refine Kd.C_drew ?_))); (case side2 => exact HC0.out); rintro e w11 ⟨v191, rfl, ho0, hb⟩; refine ⟨_, rfl, ?_⟩; have n0_ := Aside0.mk (Kd.R_lower ho0 (below_size (by repeat (first | (with_reducible first | exact HB.out | apply below_alloc | apply pw_below_drewN | apply below_drew1) | exact HB.out)))); have n1_ := Aside0.mk (below_step (by repeat (first | (with_reducible first | exact HB.out | apply below_alloc | apply pw_below_drewN | apply below_drew1) | exact HB.out)) hb); clear HB; have HO192 := n0_; have HB := n1_; clear n0_ n1_; (try clear hb); (try clear hb2); (try clear hk); (try clear hi); (try clear ho0); obtain ⟨Ao12, co12, eo12⟩ := Kd.R_slice HO192.out; subst eo12) | ((with_reducible refine gate_callee (f := 22) rfl ?_); refine goesL_ (some 30) rfl rfl Try.func22 (by kernel_rfl) rfl #[.slice Ao12 t190.length co12, .int .i64 (wrap64 (Int.tmod (IntKind.u64.wrap (a1)) 101)), .int .i64 (wrap64 (Int.tmod (IntKind.u64.wrap (a2)) 37))] rfl (by (try simp only [List.map_toArray, List.map_cons, List.map_nil]); first | done | rfl | (simp only [List.length_drop, List.length_take]; rfl)) ?_; (with_reducible refine (ratchet_Billed.calls k _ _ t190 (wrap64 (Int.tmod (IntKind.u64.wrap (a1)) 101)) (wrap64 (Int.tmod (IntKind.u64.wrap (a2)) 37)) t193 t194 _ ?side1 ?side2 A7.out).mono ?_); (case side1 => repeat (first | exact (Kd.R_reads' HO192.out).2.2 | (with_reducible refine Kd.C_alloc ?_ _) | (with_reducible refine Kd.C_drewN ?_ _) | (with_reducible refine Kd.C_drew ?_))); (case side2 => exact (Kd.R_reads' HO192.out).2.1); rintro e w13 ⟨rfl, hb⟩; refine ⟨_, rfl, ?_⟩; have n0_ := Aside0.mk (Kd.R_below (by (with_reducible repeat (first | apply Kd.R_alloc | apply Kd.R_drewN | apply Kd.R_drew)); exact HO192.out) hb); have n1_ := Aside0.mk (below_step (by repeat (first | (with_reducible first | exact HB.out | apply below_alloc | apply pw_below_drewN | apply below_drew1) | exact HB.out)) hb); clear HO192; clear HB; have HO192 := n0_; have HB := n1_; clear n0_ n1_; (try clear hb); (try clear hb2); (try clear hk); (try clear hi)))
        go_ret
        exact ⟨by first | rfl | (simp [errW_none, errW_some] <;> rfl) | (simp [*, errW_none, errW_some] <;> rfl), by repeat (first | (with_reducible first | exact HB.out | apply below_alloc | apply pw_below_drewN | apply below_drew1) | exact HB.out)⟩
      · rw [if_neg c9] at H
        have c9b0 : (t194 == 8) = false := beq_eq_false_iff_ne.mpr c9
        have c9b1 : (t194 != 8) = true := bne_iff_ne.mpr c9
        obtain rfl := Option.some.inj H
        go_enter Try.func10, Try.ntmps10
        go_wp2_with (first | ((with_reducible refine gate_callee (f := 20) rfl ?_); refine goesL_ (some 14) rfl rfl Try.func20 (by kernel_rfl) rfl #[] rfl (by (try simp only [List.map_toArray, List.map_cons, List.map_nil]); first | done | rfl | (simp only [List.length_drop, List.length_take]; rfl)) ?_; (with_reducible refine (pylonlaw18_awake.calls k  true _ A4.out).mono ?_); rintro e w14 ⟨rfl, hb⟩; refine ⟨_, rfl, ?_⟩; have n0_ := Aside0.mk (below_step (by repeat (first | (with_reducible first | exact HB.out | apply below_alloc | apply pw_below_drewN | apply below_drew1) | exact HB.out)) hb); clear HB; have HB := n0_; clear n0_; (try clear hb); (try clear hb2); (try clear hk); (try clear hi)) | ((with_reducible refine gate_callee (f := 25) rfl ?_); refine goesL_ (some 17) rfl rfl Try.func25 (by kernel_rfl) rfl #[.slice A0 l0.length c0] rfl (by (try simp only [List.map_toArray, List.map_cons, List.map_nil]); first | done | rfl | (simp only [List.length_drop, List.length_take]; rfl)) ?_; (with_reducible refine (pylonlaw18_good.calls k _ _ l0 t190 _ ?side1 ?side2 A6.out).mono ?_); (case side1 => repeat (first | exact (Kd.C_below HR0.out HB.out) | (with_reducible refine Kd.C_alloc ?_ _) | (with_reducible refine Kd.C_drewN ?_ _) | (with_reducible refine Kd.C_drew ?_))); (case side2 => exact HC0.out); rintro e w15 ⟨v191, rfl, ho0, hb⟩; refine ⟨_, rfl, ?_⟩; have n0_ := Aside0.mk (Kd.R_lower ho0 (below_size (by repeat (first | (with_reducible first | exact HB.out | apply below_alloc | apply pw_below_drewN | apply below_drew1) | exact HB.out)))); have n1_ := Aside0.mk (below_step (by repeat (first | (with_reducible first | exact HB.out | apply below_alloc | apply pw_below_drewN | apply below_drew1) | exact HB.out)) hb); clear HB; have HO192 := n0_; have HB := n1_; clear n0_ n1_; (try clear hb); (try clear hb2); (try clear hk); (try clear hi); (try clear ho0); obtain ⟨Ao16, co16, eo16⟩ := Kd.R_slice HO192.out; subst eo16) | ((with_reducible refine gate_callee (f := 22) rfl ?_); refine goesL_ (some 30) rfl rfl Try.func22 (by kernel_rfl) rfl #[.slice Ao16 t190.length co16, .int .i64 (wrap64 (Int.tmod (IntKind.u64.wrap (a1)) 101)), .int .i64 (wrap64 (Int.tmod (IntKind.u64.wrap (a2)) 37))] rfl (by (try simp only [List.map_toArray, List.map_cons, List.map_nil]); first | done | rfl | (simp only [List.length_drop, List.length_take]; rfl)) ?_; (with_reducible refine (ratchet_Billed.calls k _ _ t190 (wrap64 (Int.tmod (IntKind.u64.wrap (a1)) 101)) (wrap64 (Int.tmod (IntKind.u64.wrap (a2)) 37)) t193 t194 _ ?side1 ?side2 A7.out).mono ?_); (case side1 => repeat (first | exact (Kd.R_reads' HO192.out).2.2 | (with_reducible refine Kd.C_alloc ?_ _) | (with_reducible refine Kd.C_drewN ?_ _) | (with_reducible refine Kd.C_drew ?_))); (case side2 => exact (Kd.R_reads' HO192.out).2.1); rintro e w17 ⟨rfl, hb⟩; refine ⟨_, rfl, ?_⟩; have n0_ := Aside0.mk (Kd.R_below (by (with_reducible repeat (first | apply Kd.R_alloc | apply Kd.R_drewN | apply Kd.R_drew)); exact HO192.out) hb); have n1_ := Aside0.mk (below_step (by repeat (first | (with_reducible first | exact HB.out | apply below_alloc | apply pw_below_drewN | apply below_drew1) | exact HB.out)) hb); clear HO192; clear HB; have HO192 := n0_; have HB := n1_; clear n0_ n1_; (try clear hb); (try clear hb2); (try clear hk); (try clear hi)))
        go_ret
        exact ⟨by first | rfl | (simp [errW_none, errW_some] <;> rfl) | (simp [*, errW_none, errW_some] <;> rfl), by repeat (first | (with_reducible first | exact HB.out | apply below_alloc | apply pw_below_drewN | apply below_drew1) | exact HB.out)⟩
    · rw [if_neg c8] at H
      have c8b0 : ((t190.length : Int) == 0) = false := beq_eq_false_iff_ne.mpr c8
      have c8b1 : ((t190.length : Int) != 0) = true := bne_iff_ne.mpr c8
      have c8b2 : ¬ (t190 = []) := fun h_ => c8 (by rw [h_]; rfl)
      obtain ⟨ji18, hji18⟩ : ∃ j_ : Int, (wrap64 ((t190.length : Int) - 1)) = j_ := ⟨_, rfl⟩
      replace H : (if 0 ≤ (ji18) then (if (ji18) < (t190.length : Int) then (if t194 = 0 then (if t193 < (rd t190 (ji18)) then (pylonlaw18_RatchetHolds.j0 k (wrap64 (Int.tmod (IntKind.u64.wrap (a1)) 101)) (wrap64 (Int.tmod (IntKind.u64.wrap (a2)) 37)) t190 t193 ji18 (t193 == (rd t190 (ji18))) true) else (pylonlaw18_RatchetHolds.j0 k (wrap64 (Int.tmod (IntKind.u64.wrap (a1)) 101)) (wrap64 (Int.tmod (IntKind.u64.wrap (a2)) 37)) t190 t193 ji18 (t193 == (rd t190 (ji18))) (decide (t193 > 500000000000000)))) else (pylonlaw18_RatchetHolds.j0 k (wrap64 (Int.tmod (IntKind.u64.wrap (a1)) 101)) (wrap64 (Int.tmod (IntKind.u64.wrap (a2)) 37)) t190 t193 ji18 (t193 == (rd t190 (ji18))) true)) else (none)) else (none)) = some r := by first | (rw [hji18] at H; exact H) | (simp only [hji18] at H ⊢; exact H)
      (try rw [hji18] at A4)
      (try rw [hji18] at A6)
      (try rw [hji18] at A7)
      have hji18w : (IntKind.i64.wrap ((t190.length : Int) - 1)) = ji18 := (i64_w _).trans hji18
      by_cases c19 : 0 ≤ (ji18)
      · rw [if_pos c19] at H
        have c19b0 : decide (0 ≤ (ji18)) = true := decide_eq_true c19
        clear c19
        by_cases c20 : (ji18) < (t190.length : Int)
        · rw [if_pos c20] at H
          have c20b0 : decide ((ji18) < (t190.length : Int)) = true := decide_eq_true c20
          clear c20
          have HC21 := Aside0.mk H
          clear H
          go_enter Try.func10, Try.ntmps10
          go_upto_region 10 with (first | ((with_reducible refine gate_callee (f := 20) rfl ?_); refine goesL_ (some 14) rfl rfl Try.func20 (by kernel_rfl) rfl #[] rfl (by (try simp only [List.map_toArray, List.map_cons, List.map_nil]); first | done | rfl | (simp only [List.length_drop, List.length_take]; rfl)) ?_; (with_reducible refine (pylonlaw18_awake.calls k  true _ A4.out).mono ?_); rintro e w22 ⟨rfl, hb⟩; refine ⟨_, rfl, ?_⟩; have n0_ := Aside0.mk (below_step (by repeat (first | (with_reducible first | exact HB.out | apply below_alloc | apply pw_below_drewN | apply below_drew1) | exact HB.out)) hb); clear HB; have HB := n0_; clear n0_; (try clear hb); (try clear hb2); (try clear hk); (try clear hi)) | ((with_reducible refine gate_callee (f := 25) rfl ?_); refine goesL_ (some 17) rfl rfl Try.func25 (by kernel_rfl) rfl #[.slice A0 l0.length c0] rfl (by (try simp only [List.map_toArray, List.map_cons, List.map_nil]); first | done | rfl | (simp only [List.length_drop, List.length_take]; rfl)) ?_; (with_reducible refine (pylonlaw18_good.calls k _ _ l0 t190 _ ?side1 ?side2 A6.out).mono ?_); (case side1 => repeat (first | exact (Kd.C_below HR0.out HB.out) | (with_reducible refine Kd.C_alloc ?_ _) | (with_reducible refine Kd.C_drewN ?_ _) | (with_reducible refine Kd.C_drew ?_))); (case side2 => exact HC0.out); rintro e w23 ⟨v191, rfl, ho0, hb⟩; refine ⟨_, rfl, ?_⟩; have n0_ := Aside0.mk (Kd.R_lower ho0 (below_size (by repeat (first | (with_reducible first | exact HB.out | apply below_alloc | apply pw_below_drewN | apply below_drew1) | exact HB.out)))); have n1_ := Aside0.mk (below_step (by repeat (first | (with_reducible first | exact HB.out | apply below_alloc | apply pw_below_drewN | apply below_drew1) | exact HB.out)) hb); clear HB; have HO192 := n0_; have HB := n1_; clear n0_ n1_; (try clear hb); (try clear hb2); (try clear hk); (try clear hi); (try clear ho0); obtain ⟨Ao24, co24, eo24⟩ := Kd.R_slice HO192.out; subst eo24) | ((with_reducible refine gate_callee (f := 22) rfl ?_); refine goesL_ (some 30) rfl rfl Try.func22 (by kernel_rfl) rfl #[.slice Ao24 t190.length co24, .int .i64 (wrap64 (Int.tmod (IntKind.u64.wrap (a1)) 101)), .int .i64 (wrap64 (Int.tmod (IntKind.u64.wrap (a2)) 37))] rfl (by (try simp only [List.map_toArray, List.map_cons, List.map_nil]); first | done | rfl | (simp only [List.length_drop, List.length_take]; rfl)) ?_; (with_reducible refine (ratchet_Billed.calls k _ _ t190 (wrap64 (Int.tmod (IntKind.u64.wrap (a1)) 101)) (wrap64 (Int.tmod (IntKind.u64.wrap (a2)) 37)) t193 t194 _ ?side1 ?side2 A7.out).mono ?_); (case side1 => repeat (first | exact (Kd.R_reads' HO192.out).2.2 | (with_reducible refine Kd.C_alloc ?_ _) | (with_reducible refine Kd.C_drewN ?_ _) | (with_reducible refine Kd.C_drew ?_))); (case side2 => exact (Kd.R_reads' HO192.out).2.1); rintro e w25 ⟨rfl, hb⟩; refine ⟨_, rfl, ?_⟩; have n0_ := Aside0.mk (Kd.R_below (by (with_reducible repeat (first | apply Kd.R_alloc | apply Kd.R_drewN | apply Kd.R_drew)); exact HO192.out) hb); have n1_ := Aside0.mk (below_step (by repeat (first | (with_reducible first | exact HB.out | apply below_alloc | apply pw_below_drewN | apply below_drew1) | exact HB.out)) hb); clear HO192; clear HB; have HO192 := n0_; have HB := n1_; clear n0_ n1_; (try clear hb); (try clear hb2); (try clear hk); (try clear hi); have p195 : 0 ≤ ((ji18) : Int) := of_decide_eq_true (by first | (with_reducible assumption) | assumption); have q195 : (ji18) < (t190.length : Int) := of_decide_eq_true (by first | (with_reducible assumption) | assumption); obtain ⟨ad195, e195, hx195_0⟩ := Kd.at_int (Kd.R_reads' HO192.out).2.2 (ji18) p195 q195; cases e195; replace p195 := eq_true p195; replace q195 := eq_true q195))
          (try simp only [Act.put, List.setIfInBounds_toArray, List.set_cons_zero, List.set_cons_succ])
          go_cut [11, 64] (fun v11 v64 wc => ∃ (kq : Nat) (x11_20 : Bool) (x64_20 : Bool), v11 = .bool x11_20 ∧ v64 = .bool x64_20 ∧ Aside0 (pylonlaw18_RatchetHolds.j0 kq (wrap64 (Int.tmod (IntKind.u64.wrap (a1)) 101)) (wrap64 (Int.tmod (IntKind.u64.wrap (a2)) 37)) t190 t193 ji18 x11_20 x64_20 = some r) ∧ Aside0 (kq ≤ k) ∧ Aside0 (Kd.R (Kd.int .i64) 2 wc w.heap.size (fun _ => True) (.slice (some ad195) t190.length co24) t190) ∧ Aside0 (Below w.heap.size w wc))
          case first =>
            have H := HC21.out
            clear HC21
            by_cases c26 : t194 = 0
            · rw [if_pos c26] at H
              have c26b0 : (t194 == 0) = true := beq_iff_eq.mpr c26
              have c26b1 : (t194 != 0) = false := bne_eq_false_iff_eq.mpr c26
              clear c26
              (first | rw [c26b0] | (simp only [i64_w, i32_w]; rw [c26b0]) | skip)
              by_cases c27 : t193 < (rd t190 (ji18))
              · rw [if_pos c27] at H
                have c27b0 : decide (t193 < (rd t190 (ji18))) = true := decide_eq_true c27
                clear c27
                have H' := Aside0.mk H
                clear H
                have p196 : 0 ≤ ((ji18) : Int) := of_decide_eq_true (by first | (with_reducible assumption) | assumption)
                have q196 : (ji18) < (t190.length : Int) := of_decide_eq_true (by first | (with_reducible assumption) | assumption)
                obtain ⟨ad196, e196, hx196_0⟩ := Kd.at_int (Kd.R_reads' HO192.out).2.2 (ji18) p196 q196
                obtain rfl : ad195 = ad196 := (by injection e196)
                replace p196 := eq_true p196
                replace q196 := eq_true q196
                go_wp2
                go_meet
                case rel => exact ⟨_, ((t193 == (rd t190 (ji18)))), (true), (by first | rfl | (simp; done) | (simp only [← hji18] <;> (first | rfl | simp)) | (simp [*]; done)), (by first | rfl | (simp; done) | (simp [*]; done)), H', ⟨by first | omega | exact Nat.le_refl _⟩, ⟨by (with_reducible repeat (first | apply Kd.R_alloc | apply Kd.R_drewN | apply Kd.R_drew)); exact HO192.out⟩, ⟨by repeat (first | (with_reducible first | exact HB.out | apply below_alloc | apply pw_below_drewN | apply below_drew1) | exact HB.out)⟩⟩
              · rw [if_neg c27] at H
                have c27b0 : decide (t193 < (rd t190 (ji18))) = false := decide_eq_false c27
                clear c27
                have H' := Aside0.mk H
                clear H
                have p196 : 0 ≤ ((ji18) : Int) := of_decide_eq_true (by first | (with_reducible assumption) | assumption)
                have q196 : (ji18) < (t190.length : Int) := of_decide_eq_true (by first | (with_reducible assumption) | assumption)
                obtain ⟨ad196, e196, hx196_0⟩ := Kd.at_int (Kd.R_reads' HO192.out).2.2 (ji18) p196 q196
                obtain rfl : ad195 = ad196 := (by injection e196)
                replace p196 := eq_true p196
                replace q196 := eq_true q196
                go_wp2
                go_meet
                case rel => exact ⟨_, ((t193 == (rd t190 (ji18)))), (decide (t193 > 500000000000000)), (by first | rfl | (simp; done) | (simp only [← hji18] <;> (first | rfl | simp)) | (simp [*]; done)), (by first | rfl | (simp; done) | (simp [*]; done) | (by_cases hdp0_ : t193 > 500000000000000 <;> simp [*] <;> done)), H', ⟨by first | omega | exact Nat.le_refl _⟩, ⟨by (with_reducible repeat (first | apply Kd.R_alloc | apply Kd.R_drewN | apply Kd.R_drew)); exact HO192.out⟩, ⟨by repeat (first | (with_reducible first | exact HB.out | apply below_alloc | apply pw_below_drewN | apply below_drew1) | exact HB.out)⟩⟩
            · rw [if_neg c26] at H
              have c26b0 : (t194 == 0) = false := beq_eq_false_iff_ne.mpr c26
              have c26b1 : (t194 != 0) = true := bne_iff_ne.mpr c26
              (first | rw [c26b0] | (simp only [i64_w, i32_w]; rw [c26b0]) | skip)
              have H' := Aside0.mk H
              clear H
              go_wp2
              go_meet
              case rel => exact ⟨_, ((t193 == (rd t190 (ji18)))), (true), (by first | rfl | (simp; done) | (simp only [← hji18] <;> (first | rfl | simp)) | (simp [*]; done)), (by first | rfl | (simp; done) | (simp [*]; done)), H', ⟨by first | omega | exact Nat.le_refl _⟩, ⟨by (with_reducible repeat (first | apply Kd.R_alloc | apply Kd.R_drewN | apply Kd.R_drew)); exact HO192.out⟩, ⟨by repeat (first | (with_reducible first | exact HB.out | apply below_alloc | apply pw_below_drewN | apply below_drew1) | exact HB.out)⟩⟩
          case rest =>
            clear HC21
            try clear c1
            try clear p1
            try clear q1
            try clear hx1
            try clear c2
            try clear p2
            try clear c5
            try clear p6
            try clear c8
            try clear c8b0
            try clear c8b1
            try clear c8b2
            try clear c9
            try clear c9b0
            try clear c9b1
            try clear c10
            try clear c19
            try clear c19b0
            try clear p19
            try clear q19
            try clear hx19
            try clear c20
            try clear c20b0
            try clear c22
            try clear c25
            try clear c26
            try clear c26b0
            try clear c26b1
            try clear c27
            try clear c27b0
            try clear hx195_0
            try clear hx196_0
            try clear p195
            try clear p196
            try clear q195
            try clear q196
            obtain ⟨kq, x11_20, x64_20, rfl, rfl, HA, HJ20, HO_7, HB⟩ := hcut
            cases kq with
            | zero => exact absurd HA.out (by simp [pylonlaw18_RatchetHolds.j0])
            | succ kj20 =>
              have H := HA.out
              clear HA
              simp only [pylonlaw18_RatchetHolds.j0] at H
              by_cases c28 : x64_20 = true
              · subst c28
                have H1 : (some false) = some r := by rw [if_pos rfl] at H; exact H
                clear H
                have H := H1
                clear H1
                obtain rfl := Option.some.inj H
                go_wp2
                go_ret
                exact ⟨by first | rfl | (simp [errW_none, errW_some] <;> rfl) | (simp only [← hji18]; first | rfl | (simp [errW_none, errW_some] <;> rfl)) | (simp [*, errW_none, errW_some] <;> rfl), by repeat (first | (with_reducible first | exact HB.out | apply below_alloc | apply pw_below_drewN | apply below_drew1) | exact HB.out)⟩
              · replace c28 := Bool.eq_false_iff.mpr c28
                subst c28
                have H1 : (pylonlaw18_RatchetHolds.l0 kj20 (wrap64 (Int.tmod (IntKind.u64.wrap (a1)) 101)) (wrap64 (Int.tmod (IntKind.u64.wrap (a2)) 37)) t190 t193 ji18 x11_20 1) = some r := by rw [if_neg (show ¬ (false = true) by decide)] at H; exact H
                clear H
                have H := H1
                clear H1
                have H' := Aside0.mk H
                clear H
                go_wp2
                go_loopg [11, 12] kj20 (fun kq v11 v12 w' => ∃ (x11_2 : Bool) (x12_2 : Int), v11 = .bool x11_2 ∧ v12 = .int .i64 x12_2 ∧ Aside0 (pylonlaw18_RatchetHolds.l0 kq (wrap64 (Int.tmod (IntKind.u64.wrap (a1)) 101)) (wrap64 (Int.tmod (IntKind.u64.wrap (a2)) 37)) t190 t193 ji18 x11_2 x12_2 = some r) ∧ Aside0 (kq ≤ kj20) ∧ Aside0 (Kd.R (Kd.int .i64) 2 w' w.heap.size (fun _ => True) (.slice (some ad195) t190.length co24) t190) ∧ Aside0 (Below w.heap.size w w'))
                case atStart => exact ⟨(x11_20), (1), (by first | rfl | (simp; done) | (simp [*]; done)), (by first | rfl | (simp; done) | (simp [*]; done)), H', ⟨Nat.le_refl _⟩, ⟨by (with_reducible repeat (first | apply Kd.R_alloc | apply Kd.R_drewN | apply Kd.R_drew)); exact HO_7.out⟩, ⟨by repeat (first | (with_reducible first | exact HB.out | apply below_alloc | apply pw_below_drewN | apply below_drew1) | exact HB.out)⟩⟩
                case round =>
                  clear H'
                  try clear c1
                  try clear p1
                  try clear q1
                  try clear hx1
                  try clear c2
                  try clear p2
                  try clear c5
                  try clear p6
                  try clear c8
                  try clear c8b0
                  try clear c8b1
                  try clear c8b2
                  try clear c9
                  try clear c9b0
                  try clear c9b1
                  try clear c10
                  try clear c19
                  try clear c19b0
                  try clear p19
                  try clear q19
                  try clear hx19
                  try clear c20
                  try clear c20b0
                  try clear c22
                  try clear c25
                  try clear c26
                  try clear c26b0
                  try clear c26b1
                  try clear c27
                  try clear c27b0
                  try clear c28
                  try clear hx195_0
                  try clear hx196_0
                  try clear p1
                  try clear p19
                  try clear p195
                  try clear p196
                  try clear p2
                  try clear p6
                  try clear q1
                  try clear q19
                  try clear q195
                  try clear q196
                  obtain ⟨x11_2, x12_2, rfl, rfl, HA, HK2, HO_7, HB⟩ := hrel
                  cases gk with
                  | zero => exact absurd HA.out (by simp [pylonlaw18_RatchetHolds.l0])
                  | succ k2 =>
                    have H := HA.out
                    clear HA
                    simp only [pylonlaw18_RatchetHolds.l0] at H
                    have HC29 := Aside0.mk H
                    clear H
                    go_upto_region 13 with (fail)
                    go_cut [72] (fun v72 wc => ∃ (kq : Nat) (x72_28 : Bool), v72 = .bool x72_28 ∧ Aside0 (pylonlaw18_RatchetHolds.j2 kq (wrap64 (Int.tmod (IntKind.u64.wrap (a1)) 101)) (wrap64 (Int.tmod (IntKind.u64.wrap (a2)) 37)) t190 t193 ji18 x11_2 x12_2 x72_28 = some r) ∧ Aside0 (kq ≤ k2) ∧ Aside0 (Kd.R (Kd.int .i64) 2 wc w.heap.size (fun _ => True) (.slice (some ad195) t190.length co24) t190) ∧ Aside0 (Below w.heap.size w wc))
                    case first =>
                      have H := HC29.out
                      clear HC29
                      by_cases c30 : x12_2 ≤ (wrap64 (Int.tmod (IntKind.u64.wrap (a2)) 37))
                      · rw [if_pos c30] at H
                        have c30b0 : decide (x12_2 ≤ (wrap64 (Int.tmod (IntKind.u64.wrap (a2)) 37))) = true := decide_eq_true c30
                        clear c30
                        (first | rw [c30b0] | (simp only [i64_w, i32_w]; rw [c30b0]) | skip)
                        have H' := Aside0.mk H
                        clear H
                        go_wp2
                        go_meet
                        case rel => exact ⟨_, (decide (x12_2 ≤ ji18)), (by first | rfl | (simp; done) | (simp only [← hji18] <;> (first | rfl | simp)) | (simp [*]; done) | (by_cases hdp0_ : x12_2 ≤ ji18 <;> simp [*] <;> done)), H', ⟨by have := HJ20.out; have := HK2.out; first | omega | exact Nat.le_refl _⟩, ⟨by (with_reducible repeat (first | apply Kd.R_alloc | apply Kd.R_drewN | apply Kd.R_drew)); exact HO_7.out⟩, ⟨by repeat (first | (with_reducible first | exact HB.out | apply below_alloc | apply pw_below_drewN | apply below_drew1) | exact HB.out)⟩⟩
                      · rw [if_neg c30] at H
                        have c30b0 : decide (x12_2 ≤ (wrap64 (Int.tmod (IntKind.u64.wrap (a2)) 37))) = false := decide_eq_false c30
                        clear c30
                        (first | rw [c30b0] | (simp only [i64_w, i32_w]; rw [c30b0]) | skip)
                        have H' := Aside0.mk H
                        clear H
                        go_wp2
                        go_meet
                        case rel => exact ⟨_, (false), (by first | rfl | (simp; done) | (simp [*]; done)), H', ⟨by have := HJ20.out; have := HK2.out; first | omega | exact Nat.le_refl _⟩, ⟨by (with_reducible repeat (first | apply Kd.R_alloc | apply Kd.R_drewN | apply Kd.R_drew)); exact HO_7.out⟩, ⟨by repeat (first | (with_reducible first | exact HB.out | apply below_alloc | apply pw_below_drewN | apply below_drew1) | exact HB.out)⟩⟩
                    case rest =>
                      clear HC29
                      try clear c1
                      try clear p1
                      try clear q1
                      try clear hx1
                      try clear c2
                      try clear p2
                      try clear c3
                      try clear c5
                      try clear p6
                      try clear c8
                      try clear c8b0
                      try clear c8b1
                      try clear c8b2
                      try clear c9
                      try clear c9b0
                      try clear c9b1
                      try clear c10
                      try clear c19
                      try clear c19b0
                      try clear p19
                      try clear q19
                      try clear hx19
                      try clear c20
                      try clear c20b0
                      try clear c22
                      try clear c25
                      try clear c26
                      try clear c26b0
                      try clear c26b1
                      try clear c27
                      try clear c27b0
                      try clear c28
                      try clear c30
                      try clear c30b0
                      try clear hx195_0
                      try clear hx196_0
                      try clear p1
                      try clear p19
                      try clear p195
                      try clear p196
                      try clear p2
                      try clear p6
                      try clear q1
                      try clear q19
                      try clear q195
                      try clear q196
                      obtain ⟨kq, x72_28, rfl, HA, HJ28, HO_7, HB⟩ := hcut
                      cases kq with
                      | zero => exact absurd HA.out (by simp [pylonlaw18_RatchetHolds.j2])
                      | succ kj28 =>
                        have H := HA.out
                        clear HA
                        simp only [pylonlaw18_RatchetHolds.j2] at H
                        by_cases c31 : x72_28 = true
                        · subst c31
                          have H1 : (if 0 ≤ (wrap64 (ji18 - x12_2)) then (if (wrap64 (ji18 - x12_2)) < (t190.length : Int) then (if (wrap64 (2 * (wrap64 ((wrap64 (100 * t193)) - (wrap64 ((wrap64 (Int.tmod (IntKind.u64.wrap (a1)) 101)) * (rd t190 (wrap64 (ji18 - x12_2))))))))) < (-100) then (some false) else (if x11_2 = true then (pylonlaw18_RatchetHolds.l0 kj28 (wrap64 (Int.tmod (IntKind.u64.wrap (a1)) 101)) (wrap64 (Int.tmod (IntKind.u64.wrap (a2)) 37)) t190 t193 ji18 true (wrap64 (x12_2 + 1))) else (if (wrap64 (2 * (wrap64 ((wrap64 (100 * t193)) - (wrap64 ((wrap64 (Int.tmod (IntKind.u64.wrap (a1)) 101)) * (rd t190 (wrap64 (ji18 - x12_2))))))))) > (-100) then (pylonlaw18_RatchetHolds.l0 kj28 (wrap64 (Int.tmod (IntKind.u64.wrap (a1)) 101)) (wrap64 (Int.tmod (IntKind.u64.wrap (a2)) 37)) t190 t193 ji18 (decide ((wrap64 (2 * (wrap64 ((wrap64 (100 * t193)) - (wrap64 ((wrap64 (Int.tmod (IntKind.u64.wrap (a1)) 101)) * (rd t190 (wrap64 (ji18 - x12_2))))))))) ≤ 100)) (wrap64 (x12_2 + 1))) else (pylonlaw18_RatchetHolds.l0 kj28 (wrap64 (Int.tmod (IntKind.u64.wrap (a1)) 101)) (wrap64 (Int.tmod (IntKind.u64.wrap (a2)) 37)) t190 t193 ji18 false (wrap64 (x12_2 + 1)))))) else (none)) else (none)) = some r := by rw [if_pos rfl] at H; exact H
                          clear H
                          have H := H1
                          clear H1
                          obtain ⟨ji32, hji32⟩ : ∃ j_ : Int, (wrap64 (ji18 - x12_2)) = j_ := ⟨_, rfl⟩
                          replace H : (if 0 ≤ (ji32) then (if (ji32) < (t190.length : Int) then (if (wrap64 (2 * (wrap64 ((wrap64 (100 * t193)) - (wrap64 ((wrap64 (Int.tmod (IntKind.u64.wrap (a1)) 101)) * (rd t190 (ji32)))))))) < (-100) then (some false) else (if x11_2 = true then (pylonlaw18_RatchetHolds.l0 kj28 (wrap64 (Int.tmod (IntKind.u64.wrap (a1)) 101)) (wrap64 (Int.tmod (IntKind.u64.wrap (a2)) 37)) t190 t193 ji18 true (wrap64 (x12_2 + 1))) else (if (wrap64 (2 * (wrap64 ((wrap64 (100 * t193)) - (wrap64 ((wrap64 (Int.tmod (IntKind.u64.wrap (a1)) 101)) * (rd t190 (ji32)))))))) > (-100) then (pylonlaw18_RatchetHolds.l0 kj28 (wrap64 (Int.tmod (IntKind.u64.wrap (a1)) 101)) (wrap64 (Int.tmod (IntKind.u64.wrap (a2)) 37)) t190 t193 ji18 (decide ((wrap64 (2 * (wrap64 ((wrap64 (100 * t193)) - (wrap64 ((wrap64 (Int.tmod (IntKind.u64.wrap (a1)) 101)) * (rd t190 (ji32)))))))) ≤ 100)) (wrap64 (x12_2 + 1))) else (pylonlaw18_RatchetHolds.l0 kj28 (wrap64 (Int.tmod (IntKind.u64.wrap (a1)) 101)) (wrap64 (Int.tmod (IntKind.u64.wrap (a2)) 37)) t190 t193 ji18 false (wrap64 (x12_2 + 1)))))) else (none)) else (none)) = some r := by first | (rw [hji32] at H; exact H) | (simp only [hji32] at H ⊢; exact H)
                          have hji32w : (IntKind.i64.wrap (ji18 - x12_2)) = ji32 := (i64_w _).trans hji32
                          by_cases c33 : 0 ≤ (ji32)
                          · rw [if_pos c33] at H
                            have c33b0 : decide (0 ≤ (ji32)) = true := decide_eq_true c33
                            clear c33
                            by_cases c34 : (ji32) < (t190.length : Int)
                            · rw [if_pos c34] at H
                              have c34b0 : decide ((ji32) < (t190.length : Int)) = true := decide_eq_true c34
                              clear c34
                              by_cases c35 : (wrap64 (2 * (wrap64 ((wrap64 (100 * t193)) - (wrap64 ((wrap64 (Int.tmod (IntKind.u64.wrap (a1)) 101)) * (rd t190 (ji32)))))))) < (-100)
                              · rw [if_pos c35] at H
                                have c35b0 : decide ((wrap64 (2 * (wrap64 ((wrap64 (100 * t193)) - (wrap64 ((wrap64 (Int.tmod (IntKind.u64.wrap (a1)) 101)) * (rd t190 (ji32)))))))) < (-100)) = true := decide_eq_true c35
                                clear c35
                                obtain rfl := Option.some.inj H
                                have p197 : 0 ≤ ((ji32) : Int) := of_decide_eq_true (by first | (with_reducible assumption) | assumption)
                                have q197 : (ji32) < (t190.length : Int) := of_decide_eq_true (by first | (with_reducible assumption) | assumption)
                                obtain ⟨ad197, e197, hx197_0⟩ := Kd.at_int (Kd.R_reads' HO_7.out).2.2 (ji32) p197 q197
                                obtain rfl : ad195 = ad197 := (by injection e197)
                                replace p197 := eq_true p197
                                replace q197 := eq_true q197
                                go_wp2
                                go_ret
                                exact ⟨by first | rfl | (simp [errW_none, errW_some] <;> rfl) | (simp only [← hji18, ← hji32]; first | rfl | (simp [errW_none, errW_some] <;> rfl)) | (simp [*, errW_none, errW_some] <;> rfl), by repeat (first | (with_reducible first | exact HB.out | apply below_alloc | apply pw_below_drewN | apply below_drew1) | exact HB.out)⟩
                              · rw [if_neg c35] at H
                                have c35b0 : decide ((wrap64 (2 * (wrap64 ((wrap64 (100 * t193)) - (wrap64 ((wrap64 (Int.tmod (IntKind.u64.wrap (a1)) 101)) * (rd t190 (ji32)))))))) < (-100)) = false := decide_eq_false c35
                                clear c35
                                by_cases c36 : x11_2 = true
                                · subst c36
                                  have H1 : (pylonlaw18_RatchetHolds.l0 kj28 (wrap64 (Int.tmod (IntKind.u64.wrap (a1)) 101)) (wrap64 (Int.tmod (IntKind.u64.wrap (a2)) 37)) t190 t193 ji18 true (wrap64 (x12_2 + 1))) = some r := by rw [if_pos rfl] at H; exact H
                                  clear H
                                  have H := H1
                                  clear H1
                                  have H' := Aside0.mk H
                                  clear H
                                  have p197 : 0 ≤ ((ji32) : Int) := of_decide_eq_true (by first | (with_reducible assumption) | assumption)
                                  have q197 : (ji32) < (t190.length : Int) := of_decide_eq_true (by first | (with_reducible assumption) | assumption)
                                  obtain ⟨ad197, e197, hx197_0⟩ := Kd.at_int (Kd.R_reads' HO_7.out).2.2 (ji32) p197 q197
                                  obtain rfl : ad195 = ad197 := (by injection e197)
                                  replace p197 := eq_true p197
                                  replace q197 := eq_true q197
                                  go_wp2
                                  go_roundg kj28
                                  case measure => have := HJ20.out; have := HK2.out; have := HJ28.out; omega
                                  case rel => exact ⟨(true), (wrap64 (x12_2 + 1)), (by first | rfl | (simp; done) | (simp [*]; done)), (by first | rfl | (simp; done) | (simp [*]; done)), H', ⟨by have := HJ20.out; have := HK2.out; have := HJ28.out; omega⟩, ⟨by (with_reducible repeat (first | apply Kd.R_alloc | apply Kd.R_drewN | apply Kd.R_drew)); exact HO_7.out⟩, ⟨by repeat (first | (with_reducible first | exact HB.out | apply below_alloc | apply pw_below_drewN | apply below_drew1) | exact HB.out)⟩⟩
                                · replace c36 := Bool.eq_false_iff.mpr c36
                                  subst c36
                                  have H1 : (if (wrap64 (2 * (wrap64 ((wrap64 (100 * t193)) - (wrap64 ((wrap64 (Int.tmod (IntKind.u64.wrap (a1)) 101)) * (rd t190 (ji32)))))))) > (-100) then (pylonlaw18_RatchetHolds.l0 kj28 (wrap64 (Int.tmod (IntKind.u64.wrap (a1)) 101)) (wrap64 (Int.tmod (IntKind.u64.wrap (a2)) 37)) t190 t193 ji18 (decide ((wrap64 (2 * (wrap64 ((wrap64 (100 * t193)) - (wrap64 ((wrap64 (Int.tmod (IntKind.u64.wrap (a1)) 101)) * (rd t190 (ji32)))))))) ≤ 100)) (wrap64 (x12_2 + 1))) else (pylonlaw18_RatchetHolds.l0 kj28 (wrap64 (Int.tmod (IntKind.u64.wrap (a1)) 101)) (wrap64 (Int.tmod (IntKind.u64.wrap (a2)) 37)) t190 t193 ji18 false (wrap64 (x12_2 + 1)))) = some r := by rw [if_neg (show ¬ (false = true) by decide)] at H; exact H
                                  clear H
                                  have H := H1
                                  clear H1
                                  by_cases c37 : (wrap64 (2 * (wrap64 ((wrap64 (100 * t193)) - (wrap64 ((wrap64 (Int.tmod (IntKind.u64.wrap (a1)) 101)) * (rd t190 (ji32)))))))) > (-100)
                                  · rw [if_pos c37] at H
                                    have c37b0 : decide ((-100) < (wrap64 (2 * (wrap64 ((wrap64 (100 * t193)) - (wrap64 ((wrap64 (Int.tmod (IntKind.u64.wrap (a1)) 101)) * (rd t190 (ji32))))))))) = true := decide_eq_true c37
                                    clear c37
                                    have H' := Aside0.mk H
                                    clear H
                                    have p197 : 0 ≤ ((ji32) : Int) := of_decide_eq_true (by first | (with_reducible assumption) | assumption)
                                    have q197 : (ji32) < (t190.length : Int) := of_decide_eq_true (by first | (with_reducible assumption) | assumption)
                                    obtain ⟨ad197, e197, hx197_0⟩ := Kd.at_int (Kd.R_reads' HO_7.out).2.2 (ji32) p197 q197
                                    obtain rfl : ad195 = ad197 := (by injection e197)
                                    replace p197 := eq_true p197
                                    replace q197 := eq_true q197
                                    go_wp2
                                    go_roundg kj28
                                    case measure => have := HJ20.out; have := HK2.out; have := HJ28.out; omega
                                    case rel => exact ⟨(decide ((wrap64 (2 * (wrap64 ((wrap64 (100 * t193)) - (wrap64 ((wrap64 (Int.tmod (IntKind.u64.wrap (a1)) 101)) * (rd t190 (ji32)))))))) ≤ 100)), (wrap64 (x12_2 + 1)), (by first | rfl | (simp; done) | (simp only [← hji32] <;> (first | rfl | simp)) | (simp [*]; done) | (by_cases hdp0_ : (wrap64 (2 * (wrap64 ((wrap64 (100 * t193)) - (wrap64 ((wrap64 (Int.tmod (IntKind.u64.wrap (a1)) 101)) * (rd t190 (ji32)))))))) ≤ 100 <;> simp [*] <;> done)), (by first | rfl | (simp; done) | (simp [*]; done)), H', ⟨by have := HJ20.out; have := HK2.out; have := HJ28.out; omega⟩, ⟨by (with_reducible repeat (first | apply Kd.R_alloc | apply Kd.R_drewN | apply Kd.R_drew)); exact HO_7.out⟩, ⟨by repeat (first | (with_reducible first | exact HB.out | apply below_alloc | apply pw_below_drewN | apply below_drew1) | exact HB.out)⟩⟩
                                  · rw [if_neg c37] at H
                                    have c37b0 : decide ((-100) < (wrap64 (2 * (wrap64 ((wrap64 (100 * t193)) - (wrap64 ((wrap64 (Int.tmod (IntKind.u64.wrap (a1)) 101)) * (rd t190 (ji32))))))))) = false := decide_eq_false c37
                                    clear c37
                                    have H' := Aside0.mk H
                                    clear H
                                    have p197 : 0 ≤ ((ji32) : Int) := of_decide_eq_true (by first | (with_reducible assumption) | assumption)
                                    have q197 : (ji32) < (t190.length : Int) := of_decide_eq_true (by first | (with_reducible assumption) | assumption)
                                    obtain ⟨ad197, e197, hx197_0⟩ := Kd.at_int (Kd.R_reads' HO_7.out).2.2 (ji32) p197 q197
                                    obtain rfl : ad195 = ad197 := (by injection e197)
                                    replace p197 := eq_true p197
                                    replace q197 := eq_true q197
                                    go_wp2
                                    go_roundg kj28
                                    case measure => have := HJ20.out; have := HK2.out; have := HJ28.out; omega
                                    case rel => exact ⟨(false), (wrap64 (x12_2 + 1)), (by first | rfl | (simp; done) | (simp [*]; done)), (by first | rfl | (simp; done) | (simp [*]; done)), H', ⟨by have := HJ20.out; have := HK2.out; have := HJ28.out; omega⟩, ⟨by (with_reducible repeat (first | apply Kd.R_alloc | apply Kd.R_drewN | apply Kd.R_drew)); exact HO_7.out⟩, ⟨by repeat (first | (with_reducible first | exact HB.out | apply below_alloc | apply pw_below_drewN | apply below_drew1) | exact HB.out)⟩⟩
                            · rw [if_neg c34] at H
                              exact absurd H (by simp)
                          · rw [if_neg c33] at H
                            exact absurd H (by simp)
                        · replace c31 := Bool.eq_false_iff.mpr c31
                          subst c31
                          have H1 : (some x11_2) = some r := by rw [if_neg (show ¬ (false = true) by decide)] at H; exact H
                          clear H
                          have H := H1
                          clear H1
                          obtain rfl := Option.some.inj H
                          go_wp2
                          go_ret
                          exact ⟨by first | rfl | (simp [errW_none, errW_some] <;> rfl) | (simp only [← hji18]; first | rfl | (simp [errW_none, errW_some] <;> rfl)) | (simp [*, errW_none, errW_some] <;> rfl), by repeat (first | (with_reducible first | exact HB.out | apply below_alloc | apply pw_below_drewN | apply below_drew1) | exact HB.out)⟩
        · rw [if_neg c20] at H
          exact absurd H (by simp)
      · rw [if_neg c19] at H
        exact absurd H (by simp)
  · replace c5 := Bool.eq_false_iff.mpr c5
    subst c5
    have H1 : (some false) = some r := by rw [if_neg (show ¬ (false = true) by decide)] at H; exact H
    clear H
    have H := H1
    clear H1
    obtain rfl := Option.some.inj H
    go_enter Try.func10, Try.ntmps10
    go_wp2_with (first | ((with_reducible refine gate_callee (f := 20) rfl ?_); refine goesL_ (some 14) rfl rfl Try.func20 (by kernel_rfl) rfl #[] rfl (by (try simp only [List.map_toArray, List.map_cons, List.map_nil]); first | done | rfl | (simp only [List.length_drop, List.length_take]; rfl)) ?_; (with_reducible refine (pylonlaw18_awake.calls k  false _ A4.out).mono ?_); rintro e w38 ⟨rfl, hb⟩; refine ⟨_, rfl, ?_⟩; have n0_ := Aside0.mk (below_step (by repeat (first | (with_reducible first | exact HB.out | apply below_alloc | apply pw_below_drewN | apply below_drew1) | exact HB.out)) hb); clear HB; have HB := n0_; clear n0_; (try clear hb); (try clear hb2); (try clear hk); (try clear hi)))
    go_ret
    exact ⟨by first | rfl | (simp [errW_none, errW_some] <;> rfl) | (simp [*, errW_none, errW_some] <;> rfl), by repeat (first | (with_reducible first | exact HB.out | apply below_alloc | apply pw_below_drewN | apply below_drew1) | exact HB.out)⟩

/-- THE ONE PURE STATEMENT of pylonlaw18_RatchetHolds: yours. -/
def pylonlaw18_RatchetHolds.Pure : Prop := ∀ (l0 : List Int) (a1 : Int) (a2 : Int), l0.length ≤ maxLen → l0.length * 8 ≤ 140737488351232 → (∀ x ∈ l0, (Lit.int .i64 x).wf = true) → (Lit.int .i64 a1).wf = true → (Lit.int .i64 a2).wf = true → ∃ k, pylonlaw18_RatchetHolds.f k l0 a1 a2 = some true
theorem pylonlaw18_RatchetHolds.walk (P : pylonlaw18_RatchetHolds.Pure) (a0 : Option Addr) (len0 cap0 : Nat) (z0 : List Int) (a1 : Int) (a2 : Int) (w : World) (w0 : (a0 = none ∧ len0 = 0 ∧ cap0 = 0 ∧ z0 = []) ∨ ∃ x, a0 = some x ∧ len0 ≤ cap0 ∧ cap0 ≤ maxLen ∧ z0.length = cap0 ∧ (∀ i, i < z0.length → w.cell? (x.add i) = some (.int .i64 (z0.getD i 0))) ∧ ∀ n ∈ z0, (Lit.int .i64 n).wf = true) (y0 : len0 * 8 ≤ 140737488351232) (w1 : (Lit.int .i64 a1).wf = true) (w2 : (Lit.int .i64 a2).wf = true) :
    Calls Try.prog 10 #[.slice a0 len0 cap0, .int .i64 a1, .int .i64 a2] w fun e w' => e = .returned (.bool true) ∧ Below w.heap.size w w' := by
  obtain ⟨l0, rfl, hr0, hm0, hw0, hc0⟩ := ReadsInt.ofRowC w0
  obtain ⟨k, h⟩ := P l0 a1 a2 hm0 y0 hw0 w1 w2
  refine (pylonlaw18_RatchetHolds.calls k _ _ l0 a1 a2 true w (Kd.C_of_reads (d := (0 : Int)) (h1 := fun _ => rfl) hr0) hc0 h).mono ?_
  rintro e w' ⟨rfl, hd⟩
  exact ⟨rfl, hd⟩

end Go.Proofs.Ytbjkjakilpifhaa.PR
