-- Written by a program of this session for this claim (wip/print2.sh). Lean checks it.
import Derived.Test.YtofedlghaopciaaGreatDoorPAx1
import Derived.Test.YtofedlghaopciaaGreatDoorPAx2
import Derived.Test.YtofedlghaopciaaGreatDoorPAx3
import Derived.Test.YtofedlghaopciaaGreatDoorPAx4
import Derived.Test.YtofedlghaopciaaGreatDoorPAx5
import Derived.Test.YtofedlghaopciaaGreatDoorPAx6
import Derived.Test.YtofedlghaopciaaGreatDoorPAx8
import Derived.Test.YtofedlghaopciaaGreatDoorPAx9
import Derived.Test.YtofedlghaopciaaGreatDoorPAx11
import Derived.Test.YtofedlghaopciaaGreatDoorPAx12
import Derived.Test.YtofedlghaopciaaGreatDoorPAx13
import Derived.Test.YtofedlghaopciaaGreatDoorPAx14
import Derived.Test.YtofedlghaopciaaGreatDoorPAx15
import Derived.Test.YtofedlghaopciaaGreatDoorPAh
import Derived.Test.YtofedlghaopciaaGreatDoorPAd
import Derived.Test.YtofedlghaopciaaGreatDoorPlaysA
import Derived.Test.YtofedlghaopciaaGreatDoorWantsA
namespace Go.Proofs.YtofedlghaopciaaGreatDoor.PA
open Go.Proofs.YtofedlghaopciaaGreatDoorW.PrintWords
attribute [local go_sem high] fx_eql fx_neq fx_lss fx_leq fx_gtr fx_geq fx_add fx_sub fx_mul fx_neg fx_toint cxx_add cxx_sub cxx_mul cxx_eql cxx_neq cxx_pick st_float st_complex
open Go.RowKit Go.Proofs.YtofedlghaopciaaGreatDoorW.PrintWords Go.Proofs.YtofedlghaopciaaGreatDoorW.PrintLast Go.Proofs.YtofedlghaopciaaGreatDoorW.PrintMore
attribute [local go_sem] max2_int min2_int max_two min_two max_three min_three max_four min_four   -- for this text's walks alone
set_option linter.unusedVariables false
set_option linter.unusedSimpArgs false

-- NOT PRINTED: function 61 (math_archTrunc)

-- NOT PRINTED: function 78 (math_Float64frombits)

-- NOT PRINTED: function 79 (math_Float64bits)

/-! ### pylonlaw02_PhasorAll: function 3 -/
theorem pylonlaw02_PhasorAll.mono_l : ∀ k, (∀ y0 y1 y2, LeO (pylonlaw02_PhasorAll.l0 k y0 y1 y2) (pylonlaw02_PhasorAll.l0 (k + 1) y0 y1 y2))
 | 0 => fun _ _ _ r h => by simp [pylonlaw02_PhasorAll.l0] at h
 | k + 1 => by
  have ih0 := pylonlaw02_PhasorAll.mono_l k
  ·
   intro y0 y1 y2
   unfold pylonlaw02_PhasorAll.l0
   repeat' first
   | (with_reducible exact ih0 _ _ _)
   | (with_reducible exact pylonlaw02_plays.mono _ _ _ _ _ _ _ _ _ _ _ _ _ _ _ _)
   | (with_reducible exact pylonlaw02_wants.mono _ _ _ _ _ _ _ _ _ _ _ _ _ _ _ _)
   | (with_reducible exact LeO.refl _)
   | (with_reducible exact LeO.none _)
   | (with_reducible refine LeO.ite ?_ ?_)
   | (with_reducible refine LeO.bind ?_ (fun _ => ?_))
   | exact ih0 _ _ _
   | exact pylonlaw02_plays.mono _ _ _ _ _ _ _ _ _ _ _ _ _ _ _ _
   | exact pylonlaw02_wants.mono _ _ _ _ _ _ _ _ _ _ _ _ _ _ _ _
   | exact LeO.none _
   | refine LeO.ite ?_ ?_
   | refine LeO.bind ?_ (fun _ => ?_)
theorem pylonlaw02_PhasorAll.mono : ∀ a0 k, LeO (pylonlaw02_PhasorAll.f k a0) (pylonlaw02_PhasorAll.f (k + 1) a0) := by
 intro a0 k
 have ih0 := pylonlaw02_PhasorAll.mono_l k
 unfold pylonlaw02_PhasorAll.f
 repeat' first
   | (with_reducible exact ih0 _ _ _)
   | (with_reducible exact pylonlaw02_plays.mono _ _ _ _ _ _ _ _ _ _ _ _ _ _ _ _)
   | (with_reducible exact pylonlaw02_wants.mono _ _ _ _ _ _ _ _ _ _ _ _ _ _ _ _)
   | (with_reducible exact LeO.refl _)
   | (with_reducible exact LeO.none _)
   | (with_reducible refine LeO.ite ?_ ?_)
   | (with_reducible refine LeO.bind ?_ (fun _ => ?_))
   | exact ih0 _ _ _
   | exact pylonlaw02_plays.mono _ _ _ _ _ _ _ _ _ _ _ _ _ _ _ _
   | exact pylonlaw02_wants.mono _ _ _ _ _ _ _ _ _ _ _ _ _ _ _ _
   | exact LeO.none _
   | refine LeO.ite ?_ ?_
   | refine LeO.bind ?_ (fun _ => ?_)
def pylonlaw02_PhasorAll.T6 : Bool × List (List Nat × List Nat) := (true, [([], []), ([], []), ([0, 1], [0, 1]), ([2], [2]), ([3], [3]), ([], []), ([], []), ([5, 6], [5, 6]), ([7], [7]), ([8, 4], [8]), ([4, 9, 9], [4, 9]), ([10], [10])])
def pylonlaw02_PhasorAll.B6 : List Nat := [0, 0, 3, 7, 15, 0, 0, 96, 224, 511, 1023, 2047]
theorem pylonlaw02_PhasorAll.tab6 : rtab .any (opsOf Tryz.f3 6) = pylonlaw02_PhasorAll.T6 := by kernel_rfl
theorem pylonlaw02_PhasorAll.bits6 : waitsOk pylonlaw02_PhasorAll.T6.2 pylonlaw02_PhasorAll.B6 = true := by kernel_rfl
set_option maxHeartbeats 8000000 in
set_option maxRecDepth 100000 in
theorem pylonlaw02_PhasorAll.calls (k : Nat) (A0 : Option Addr) (c0 : Nat) (l0 : List (S36)) (r : Bool) (w : World) (hT_ : Go.Proofs.YtofedlghaopciaaGreatDoor.Hand.T3 w) (hr0 : Kd.C k36 w A0 l0.length l0) (hc0 : l0.length ≤ c0) (h : pylonlaw02_PhasorAll.f k l0 = some r) :
  Calls Tryz.prog 3 #[.slice A0 l0.length c0] w fun e w' => e = .returned (.bool r) ∧ Below w.heap.size w w' := by
 have hu36 := Tryz.underlying36
 have HTB := Aside0.mk hT_
 clear hT_
 have HR0 := Aside0.mk hr0
 have HC0 := Aside0.mk hc0
 clear hr0 hc0
 have HB := Aside0.mk (Below.refl w.heap.size w)
 have H : ((pylonlaw02_awake.f).bind fun t456 => (if t456 = true then (pylonlaw02_PhasorAll.l0 k l0 (l0.length : Int) 0) else (some false))) = some r := h
 clear h
 replace H := Option.bind_eq_some_iff.mp H
 obtain ⟨t456, A20, H⟩ := H
 replace H : (if t456 = true then (pylonlaw02_PhasorAll.l0 k l0 (l0.length : Int) 0) else (some false)) = some r := H
 have A2 := Aside0.mk A20
 clear A20
 by_cases c3 : t456 = true
 ·
  subst c3
  have H1 : (pylonlaw02_PhasorAll.l0 k l0 (l0.length : Int) 0) = some r := by rw [if_pos rfl] at H; exact H
  clear H
  have H := H1
  clear H1
  have H' := Aside0.mk H
  clear H
  go_enter Tryz.func3, Tryz.ntmps3
  go_wp2_with (first | ((with_reducible refine gate_callee (f := 4) rfl ?_); refine gL_ (some 4) Tryz.func4 #[] ?_; (with_reducible refine (pylonlaw02_awake.calls  true _ A2.out).mono ?_); rintro e w4 ⟨rfl, hb⟩; refine ⟨_, rfl, ?_⟩; replace HB := Aside0.mk (bst_ hb); (try clear hb); (try clear hb2); (try clear hk); (try clear hi)))
  go_loopg [8] k (fun kq v8 w' => ∃ (x8_1 : Int), v8 = .int .i64 x8_1 ∧ Aside0 (pylonlaw02_PhasorAll.l0 kq l0 (l0.length : Int) x8_1 = some r) ∧ Aside0 (kq ≤ k) ∧ Aside0 (Below w.heap.size w w'))
  case atStart => exact ⟨(0), (by first | rfl | (simp; done) | (simp [*]; done)), H', ⟨Nat.le_refl _⟩, ⟨bl_⟩⟩
  case round =>
   clear H'
   try clear p2
   try clear c3
   try clear c4
   obtain ⟨x8_1, rfl, HA, HK1, HB⟩ := hrel
   cases gk with
   | zero => exact absurd HA.out (by simp [pylonlaw02_PhasorAll.l0])
   | succ k1 =>
    have H := HA.out
    clear HA
    simp only [pylonlaw02_PhasorAll.l0] at H
    by_cases c5 : x8_1 < (l0.length : Int)
    ·
     rw [if_pos c5] at H
     have c5b0 : decide (x8_1 < (l0.length : Int)) = true := decide_eq_true c5
     clear c5
     by_cases c6 : 0 ≤ x8_1
     ·
      rw [if_pos c6] at H
      have c6b0 : decide (0 ≤ x8_1) = true := decide_eq_true c6
      clear c6
      by_cases c7 : x8_1 < (l0.length : Int)
      ·
       rw [if_pos c7] at H
       have c7b0 : decide (x8_1 < (l0.length : Int)) = true := decide_eq_true c7
       clear c7
       replace H := Option.bind_eq_some_iff.mp H
       obtain ⟨⟨t458, t459, t460, t461, t462, t463, t464, t465, t466, t467, t468⟩, A80, H⟩ := H
       replace H : ((pylonlaw02_wants.f k1 ((rd_T36 l0 x8_1).f0) ((rd_T36 l0 x8_1).f1.f0) ((rd_T36 l0 x8_1).f1.f1) ((rd_T36 l0 x8_1).f2.f0) ((rd_T36 l0 x8_1).f2.f1) ((rd_T36 l0 x8_1).f3.f0) ((rd_T36 l0 x8_1).f3.f1) ((rd_T36 l0 x8_1).f4.f0) ((rd_T36 l0 x8_1).f4.f1) ((rd_T36 l0 x8_1).f5) ((rd_T36 l0 x8_1).f6) ((rd_T36 l0 x8_1).f7) ((rd_T36 l0 x8_1).f8) ((rd_T36 l0 x8_1).f9) ((rd_T36 l0 x8_1).f10)).bind fun bt470 => ((pylonlaw02_same.f t458 t459 t460 t461 t462 t463 t464 t465 t466 t467 t468 bt470.1 bt470.2.1 bt470.2.2.1 bt470.2.2.2.1 bt470.2.2.2.2.1 bt470.2.2.2.2.2.1 bt470.2.2.2.2.2.2.1 bt470.2.2.2.2.2.2.2.1 bt470.2.2.2.2.2.2.2.2.1 bt470.2.2.2.2.2.2.2.2.2.1 bt470.2.2.2.2.2.2.2.2.2.2).bind fun t481 => (if t481 = true then (pylonlaw02_PhasorAll.l0 k1 l0 (l0.length : Int) (wrap64 (x8_1 + 1))) else (some false)))) = some r := H
       have A8 := Aside0.mk A80
       clear A80
       replace H := Option.bind_eq_some_iff.mp H
       obtain ⟨⟨t470, t471, t472, t473, t474, t475, t476, t477, t478, t479, t480⟩, A90, H⟩ := H
       replace H : ((pylonlaw02_same.f t458 t459 t460 t461 t462 t463 t464 t465 t466 t467 t468 t470 t471 t472 t473 t474 t475 t476 t477 t478 t479 t480).bind fun t481 => (if t481 = true then (pylonlaw02_PhasorAll.l0 k1 l0 (l0.length : Int) (wrap64 (x8_1 + 1))) else (some false))) = some r := H
       have A9 := Aside0.mk A90
       clear A90
       replace H := Option.bind_eq_some_iff.mp H
       obtain ⟨t481, A100, H⟩ := H
       replace H : (if t481 = true then (pylonlaw02_PhasorAll.l0 k1 l0 (l0.length : Int) (wrap64 (x8_1 + 1))) else (some false)) = some r := H
       have A10 := Aside0.mk A100
       clear A100
       have H9 := Aside0.mk H
       clear H
       try go_wp2
       replace HB := Aside0.mk (below_drew1 HB.out)
       have p457 : 0 ≤ (x8_1 : Int) := of_decide_eq_true (by first | (with_reducible assumption) | assumption)
       have q457 : x8_1 < (l0.length : Int) := of_decide_eq_true (by first | (with_reducible assumption) | assumption)
       obtain ⟨ad457, A457_9, c457_9, A457_10, c457_10, e457, hx457_0, hx457_1, hx457_2, hx457_3, hx457_4, hx457_5, hx457_6, hx457_7, hx457_8, hx457_9, hx457_10, hx457_11, hx457_12, hx457_13, hx457_14, hl457_9, hi457_9, hl457_10, hi457_10⟩ := at_T36 HR0.out x8_1 p457 q457
       have hw457_14 := hx457_14
       have hw457_13 := hx457_13
       have hw457_12 := hx457_12
       have hw457_11 := hx457_11
       have hw457_10 := hx457_10
       have hw457_9 := hx457_9
       have hw457_8 := hx457_8
       have hw457_7 := hx457_7
       have hw457_6 := hx457_6
       have hw457_5 := hx457_5
       have hw457_4 := hx457_4
       have hw457_3 := hx457_3
       have hw457_2 := hx457_2
       have hw457_1 := hx457_1
       have hw457_0 := hx457_0
       cases e457
       replace hx457_0 := (HB.out.cell (World.block_lt_of_cell? w _ hx457_0)).trans hx457_0
       replace hx457_1 := (HB.out.cell (World.block_lt_of_cell? w _ hx457_1)).trans hx457_1
       replace hx457_2 := (HB.out.cell (World.block_lt_of_cell? w _ hx457_2)).trans hx457_2
       replace hx457_3 := (HB.out.cell (World.block_lt_of_cell? w _ hx457_3)).trans hx457_3
       replace hx457_4 := (HB.out.cell (World.block_lt_of_cell? w _ hx457_4)).trans hx457_4
       replace hx457_5 := (HB.out.cell (World.block_lt_of_cell? w _ hx457_5)).trans hx457_5
       replace hx457_6 := (HB.out.cell (World.block_lt_of_cell? w _ hx457_6)).trans hx457_6
       replace hx457_7 := (HB.out.cell (World.block_lt_of_cell? w _ hx457_7)).trans hx457_7
       replace hx457_8 := (HB.out.cell (World.block_lt_of_cell? w _ hx457_8)).trans hx457_8
       replace hx457_9 := (HB.out.cell (World.block_lt_of_cell? w _ hx457_9)).trans hx457_9
       replace hx457_10 := (HB.out.cell (World.block_lt_of_cell? w _ hx457_10)).trans hx457_10
       replace hx457_11 := (HB.out.cell (World.block_lt_of_cell? w _ hx457_11)).trans hx457_11
       replace hx457_12 := (HB.out.cell (World.block_lt_of_cell? w _ hx457_12)).trans hx457_12
       replace hx457_13 := (HB.out.cell (World.block_lt_of_cell? w _ hx457_13)).trans hx457_13
       replace hx457_14 := (HB.out.cell (World.block_lt_of_cell? w _ hx457_14)).trans hx457_14
       have HR457_9 := Aside0.mk hi457_9
       have HC457_9 := Aside0.mk hl457_9
       clear hi457_9 hl457_9
       have HR457_10 := Aside0.mk hi457_10
       have HC457_10 := Aside0.mk hl457_10
       clear hi457_10 hl457_10
       replace p457 := eq_true p457
       replace q457 := eq_true q457
       have p469 : 0 ≤ (x8_1 : Int) := of_decide_eq_true (by first | (with_reducible assumption) | assumption)
       have q469 : x8_1 < (l0.length : Int) := of_decide_eq_true (by first | (with_reducible assumption) | assumption)
       obtain ⟨ad469, A469_9, c469_9, A469_10, c469_10, e469, hx469_0, hx469_1, hx469_2, hx469_3, hx469_4, hx469_5, hx469_6, hx469_7, hx469_8, hx469_9, hx469_10, hx469_11, hx469_12, hx469_13, hx469_14, hl469_9, hi469_9, hl469_10, hi469_10⟩ := at_T36 HR0.out x8_1 p469 q469
       have hw469_14 := hx469_14
       have hw469_13 := hx469_13
       have hw469_12 := hx469_12
       have hw469_11 := hx469_11
       have hw469_10 := hx469_10
       have hw469_9 := hx469_9
       have hw469_8 := hx469_8
       have hw469_7 := hx469_7
       have hw469_6 := hx469_6
       have hw469_5 := hx469_5
       have hw469_4 := hx469_4
       have hw469_3 := hx469_3
       have hw469_2 := hx469_2
       have hw469_1 := hx469_1
       have hw469_0 := hx469_0
       obtain rfl : ad457 = ad469 := (by injection e469)
       replace hx469_0 := (HB.out.cell (World.block_lt_of_cell? w _ hx469_0)).trans hx469_0
       replace hx469_1 := (HB.out.cell (World.block_lt_of_cell? w _ hx469_1)).trans hx469_1
       replace hx469_2 := (HB.out.cell (World.block_lt_of_cell? w _ hx469_2)).trans hx469_2
       replace hx469_3 := (HB.out.cell (World.block_lt_of_cell? w _ hx469_3)).trans hx469_3
       replace hx469_4 := (HB.out.cell (World.block_lt_of_cell? w _ hx469_4)).trans hx469_4
       replace hx469_5 := (HB.out.cell (World.block_lt_of_cell? w _ hx469_5)).trans hx469_5
       replace hx469_6 := (HB.out.cell (World.block_lt_of_cell? w _ hx469_6)).trans hx469_6
       replace hx469_7 := (HB.out.cell (World.block_lt_of_cell? w _ hx469_7)).trans hx469_7
       replace hx469_8 := (HB.out.cell (World.block_lt_of_cell? w _ hx469_8)).trans hx469_8
       replace hx469_9 := (HB.out.cell (World.block_lt_of_cell? w _ hx469_9)).trans hx469_9
       replace hx469_10 := (HB.out.cell (World.block_lt_of_cell? w _ hx469_10)).trans hx469_10
       replace hx469_11 := (HB.out.cell (World.block_lt_of_cell? w _ hx469_11)).trans hx469_11
       replace hx469_12 := (HB.out.cell (World.block_lt_of_cell? w _ hx469_12)).trans hx469_12
       replace hx469_13 := (HB.out.cell (World.block_lt_of_cell? w _ hx469_13)).trans hx469_13
       replace hx469_14 := (HB.out.cell (World.block_lt_of_cell? w _ hx469_14)).trans hx469_14
       have HR469_9 := Aside0.mk hi469_9
       have HC469_9 := Aside0.mk hl469_9
       clear hi469_9 hl469_9
       have HR469_10 := Aside0.mk hi469_10
       have HC469_10 := Aside0.mk hl469_10
       clear hi469_10 hl469_10
       replace p469 := eq_true p469
       replace q469 := eq_true q469
       have ea_ := Option.some.inj (hx457_9.symm.trans hx469_9)
       injection ea_ with ea_ en_ ec_
       subst ea_
       subst ec_
       clear en_
       have ea_ := Option.some.inj (hx457_10.symm.trans hx469_10)
       injection ea_ with ea_ en_ ec_
       subst ea_
       subst ec_
       clear en_
       refine start_ (n := 12) (S := fun w' => w'.cell? (ad457.add ((x8_1).toNat * 15)) = some (.int .i64 ((rd_T36 l0 x8_1).f0)) ∧ w'.cell? ⟨(ad457.add ((x8_1).toNat * 15)).block, (ad457.add ((x8_1).toNat * 15)).off + 1, none⟩ = some (.float .f64 ((rd_T36 l0 x8_1).f1.f0)) ∧ w'.cell? ⟨(ad457.add ((x8_1).toNat * 15)).block, (ad457.add ((x8_1).toNat * 15)).off + 2, none⟩ = some (.float .f64 ((rd_T36 l0 x8_1).f1.f1)) ∧ w'.cell? ⟨(ad457.add ((x8_1).toNat * 15)).block, (ad457.add ((x8_1).toNat * 15)).off + 3, none⟩ = some (.float .f64 ((rd_T36 l0 x8_1).f2.f0)) ∧ w'.cell? ⟨(ad457.add ((x8_1).toNat * 15)).block, (ad457.add ((x8_1).toNat * 15)).off + 4, none⟩ = some (.float .f64 ((rd_T36 l0 x8_1).f2.f1)) ∧ w'.cell? ⟨(ad457.add ((x8_1).toNat * 15)).block, (ad457.add ((x8_1).toNat * 15)).off + 5, none⟩ = some (.float .f64 ((rd_T36 l0 x8_1).f3.f0)) ∧ w'.cell? ⟨(ad457.add ((x8_1).toNat * 15)).block, (ad457.add ((x8_1).toNat * 15)).off + 6, none⟩ = some (.float .f64 ((rd_T36 l0 x8_1).f3.f1)) ∧ w'.cell? ⟨(ad457.add ((x8_1).toNat * 15)).block, (ad457.add ((x8_1).toNat * 15)).off + 7, none⟩ = some (.float .f64 ((rd_T36 l0 x8_1).f4.f0)) ∧ w'.cell? ⟨(ad457.add ((x8_1).toNat * 15)).block, (ad457.add ((x8_1).toNat * 15)).off + 8, none⟩ = some (.float .f64 ((rd_T36 l0 x8_1).f4.f1)) ∧ w'.cell? ⟨(ad457.add ((x8_1).toNat * 15)).block, (ad457.add ((x8_1).toNat * 15)).off + 9, none⟩ = some (.slice A457_9 ((rd_T36 l0 x8_1).f5).length c457_9) ∧ w'.cell? ⟨(ad457.add ((x8_1).toNat * 15)).block, (ad457.add ((x8_1).toNat * 15)).off + 10, none⟩ = some (.slice A457_10 ((rd_T36 l0 x8_1).f6).length c457_10) ∧ w'.cell? ⟨(ad457.add ((x8_1).toNat * 15)).block, (ad457.add ((x8_1).toNat * 15)).off + 11, none⟩ = some (.int .i64 ((rd_T36 l0 x8_1).f7)) ∧ w'.cell? ⟨(ad457.add ((x8_1).toNat * 15)).block, (ad457.add ((x8_1).toNat * 15)).off + 12, none⟩ = some (.int .i64 ((rd_T36 l0 x8_1).f8)) ∧ w'.cell? ⟨(ad457.add ((x8_1).toNat * 15)).block, (ad457.add ((x8_1).toNat * 15)).off + 13, none⟩ = some (.int .i64 ((rd_T36 l0 x8_1).f9)) ∧ w'.cell? ⟨(ad457.add ((x8_1).toNat * 15)).block, (ad457.add ((x8_1).toNat * 15)).off + 14, none⟩ = some (.string ((rd_T36 l0 x8_1).f10)) ∧ w'.cell? (ad457.add ((x8_1).toNat * 15)) = some (.int .i64 ((rd_T36 l0 x8_1).f0)) ∧ w'.cell? ⟨(ad457.add ((x8_1).toNat * 15)).block, (ad457.add ((x8_1).toNat * 15)).off + 1, none⟩ = some (.float .f64 ((rd_T36 l0 x8_1).f1.f0)) ∧ w'.cell? ⟨(ad457.add ((x8_1).toNat * 15)).block, (ad457.add ((x8_1).toNat * 15)).off + 2, none⟩ = some (.float .f64 ((rd_T36 l0 x8_1).f1.f1)) ∧ w'.cell? ⟨(ad457.add ((x8_1).toNat * 15)).block, (ad457.add ((x8_1).toNat * 15)).off + 3, none⟩ = some (.float .f64 ((rd_T36 l0 x8_1).f2.f0)) ∧ w'.cell? ⟨(ad457.add ((x8_1).toNat * 15)).block, (ad457.add ((x8_1).toNat * 15)).off + 4, none⟩ = some (.float .f64 ((rd_T36 l0 x8_1).f2.f1)) ∧ w'.cell? ⟨(ad457.add ((x8_1).toNat * 15)).block, (ad457.add ((x8_1).toNat * 15)).off + 5, none⟩ = some (.float .f64 ((rd_T36 l0 x8_1).f3.f0)) ∧ w'.cell? ⟨(ad457.add ((x8_1).toNat * 15)).block, (ad457.add ((x8_1).toNat * 15)).off + 6, none⟩ = some (.float .f64 ((rd_T36 l0 x8_1).f3.f1)) ∧ w'.cell? ⟨(ad457.add ((x8_1).toNat * 15)).block, (ad457.add ((x8_1).toNat * 15)).off + 7, none⟩ = some (.float .f64 ((rd_T36 l0 x8_1).f4.f0)) ∧ w'.cell? ⟨(ad457.add ((x8_1).toNat * 15)).block, (ad457.add ((x8_1).toNat * 15)).off + 8, none⟩ = some (.float .f64 ((rd_T36 l0 x8_1).f4.f1)) ∧ w'.cell? ⟨(ad457.add ((x8_1).toNat * 15)).block, (ad457.add ((x8_1).toNat * 15)).off + 9, none⟩ = some (.slice A457_9 ((rd_T36 l0 x8_1).f5).length c457_9) ∧ w'.cell? ⟨(ad457.add ((x8_1).toNat * 15)).block, (ad457.add ((x8_1).toNat * 15)).off + 10, none⟩ = some (.slice A457_10 ((rd_T36 l0 x8_1).f6).length c457_10) ∧ w'.cell? ⟨(ad457.add ((x8_1).toNat * 15)).block, (ad457.add ((x8_1).toNat * 15)).off + 11, none⟩ = some (.int .i64 ((rd_T36 l0 x8_1).f7)) ∧ w'.cell? ⟨(ad457.add ((x8_1).toNat * 15)).block, (ad457.add ((x8_1).toNat * 15)).off + 12, none⟩ = some (.int .i64 ((rd_T36 l0 x8_1).f8)) ∧ w'.cell? ⟨(ad457.add ((x8_1).toNat * 15)).block, (ad457.add ((x8_1).toNat * 15)).off + 13, none⟩ = some (.int .i64 ((rd_T36 l0 x8_1).f9)) ∧ w'.cell? ⟨(ad457.add ((x8_1).toNat * 15)).block, (ad457.add ((x8_1).toNat * 15)).off + 14, none⟩ = some (.string ((rd_T36 l0 x8_1).f10))) (ds := []) #[false, false, false, false, false, false, false, false, false, false, false, false] (by kernel_rfl) rfl rfl ⟨((HB.out.cell (World.block_lt_of_cell? w _ hw457_0)).trans hw457_0), ((HB.out.cell (World.block_lt_of_cell? w _ hw457_1)).trans hw457_1), ((HB.out.cell (World.block_lt_of_cell? w _ hw457_2)).trans hw457_2), ((HB.out.cell (World.block_lt_of_cell? w _ hw457_3)).trans hw457_3), ((HB.out.cell (World.block_lt_of_cell? w _ hw457_4)).trans hw457_4), ((HB.out.cell (World.block_lt_of_cell? w _ hw457_5)).trans hw457_5), ((HB.out.cell (World.block_lt_of_cell? w _ hw457_6)).trans hw457_6), ((HB.out.cell (World.block_lt_of_cell? w _ hw457_7)).trans hw457_7), ((HB.out.cell (World.block_lt_of_cell? w _ hw457_8)).trans hw457_8), ((HB.out.cell (World.block_lt_of_cell? w _ hw457_9)).trans hw457_9), ((HB.out.cell (World.block_lt_of_cell? w _ hw457_10)).trans hw457_10), ((HB.out.cell (World.block_lt_of_cell? w _ hw457_11)).trans hw457_11), ((HB.out.cell (World.block_lt_of_cell? w _ hw457_12)).trans hw457_12), ((HB.out.cell (World.block_lt_of_cell? w _ hw457_13)).trans hw457_13), ((HB.out.cell (World.block_lt_of_cell? w _ hw457_14)).trans hw457_14), ((HB.out.cell (World.block_lt_of_cell? w _ hw469_0)).trans hw469_0), ((HB.out.cell (World.block_lt_of_cell? w _ hw469_1)).trans hw469_1), ((HB.out.cell (World.block_lt_of_cell? w _ hw469_2)).trans hw469_2), ((HB.out.cell (World.block_lt_of_cell? w _ hw469_3)).trans hw469_3), ((HB.out.cell (World.block_lt_of_cell? w _ hw469_4)).trans hw469_4), ((HB.out.cell (World.block_lt_of_cell? w _ hw469_5)).trans hw469_5), ((HB.out.cell (World.block_lt_of_cell? w _ hw469_6)).trans hw469_6), ((HB.out.cell (World.block_lt_of_cell? w _ hw469_7)).trans hw469_7), ((HB.out.cell (World.block_lt_of_cell? w _ hw469_8)).trans hw469_8), ((HB.out.cell (World.block_lt_of_cell? w _ hw469_9)).trans hw469_9), ((HB.out.cell (World.block_lt_of_cell? w _ hw469_10)).trans hw469_10), ((HB.out.cell (World.block_lt_of_cell? w _ hw469_11)).trans hw469_11), ((HB.out.cell (World.block_lt_of_cell? w _ hw469_12)).trans hw469_12), ((HB.out.cell (World.block_lt_of_cell? w _ hw469_13)).trans hw469_13), ((HB.out.cell (World.block_lt_of_cell? w _ hw469_14)).trans hw469_14)⟩ (fun hHeld => ?_); refine with_tabW pylonlaw02_PhasorAll.tab6 pylonlaw02_PhasorAll.bits6 (fun HT_ HW_ => ?_)
       generalize wr.drew = w12 at HB HR457_10 HR457_9 HR469_10 HR469_9 hx457_0 hx457_1 hx457_10 hx457_11 hx457_12 hx457_13 hx457_14 hx457_2 hx457_3 hx457_4 hx457_5 hx457_6 hx457_7 hx457_8 hx457_9 hx469_0 hx469_1 hx469_10 hx469_11 hx469_12 hx469_13 hx469_14 hx469_2 hx469_3 hx469_4 hx469_5 hx469_6 hx469_7 hx469_8 hx469_9 hHeld ⊢
       refine pure_ (i := 0) (N := some 11) (v := ?_) (a' := ?_) #[true, false, false, false, false, false, false, false, false, false, false, false] rfl rfl (any_of HT_.out (by kernel_rfl)) (fun _ _ _ h => h) (Or.inl ⟨by rfl, ?_⟩) ?_ ?_
       rotate_left
       ·
        intro w'
        go_simp
        with_reducible rfl
       rotate_left
       ·
        simp only [Act.put, List.setIfInBounds_toArray, List.set_cons_zero, List.set_cons_succ, i64_w, i32_w]
        rfl
       refine pure_ (i := 1) (N := some 12) (v := ?_) (a' := ?_) #[true, true, false, false, false, false, false, false, false, false, false, false] rfl rfl (any_of HT_.out (by kernel_rfl)) (fun _ _ _ h => h) (Or.inl ⟨by rfl, ?_⟩) ?_ ?_
       rotate_left
       ·
        intro w'
        go_simp
        with_reducible rfl
       rotate_left
       ·
        simp only [Act.put, List.setIfInBounds_toArray, List.set_cons_zero, List.set_cons_succ, i64_w, i32_w]
        rfl
       refine pure_ (i := 2) (N := some 13) (v := ?_) (a' := ?_) #[true, true, true, false, false, false, false, false, false, false, false, false] rfl rfl (any_of HT_.out (by kernel_rfl)) (fun _ _ _ h => h) (Or.inl ⟨by rfl, ?_⟩) ?_ ?_
       rotate_left
       ·
        intro w'
        go_simp
        with_reducible rfl
       rotate_left
       ·
        simp only [Act.put, List.setIfInBounds_toArray, List.set_cons_zero, List.set_cons_succ, i64_w, i32_w]
        rfl
       refine pure_ (i := 5) (N := some 16) (v := ?_) (a' := ?_) #[true, true, true, false, false, true, false, false, false, false, false, false] rfl rfl (any_of HT_.out (by kernel_rfl)) (fun _ _ _ h => h) (Or.inl ⟨by rfl, ?_⟩) ?_ ?_
       rotate_left
       ·
        intro w'
        go_simp
        with_reducible rfl
       rotate_left
       ·
        simp only [Act.put, List.setIfInBounds_toArray, List.set_cons_zero, List.set_cons_succ, i64_w, i32_w]
        rfl
       refine pure_ (i := 6) (N := some 17) (v := ?_) (a' := ?_) #[true, true, true, false, false, true, true, false, false, false, false, false] rfl rfl (any_of HT_.out (by kernel_rfl)) (fun _ _ _ h => h) (Or.inl ⟨by rfl, ?_⟩) ?_ ?_
       rotate_left
       ·
        intro w'
        go_simp
        with_reducible rfl
       rotate_left
       ·
        simp only [Act.put, List.setIfInBounds_toArray, List.set_cons_zero, List.set_cons_succ, i64_w, i32_w]
        rfl
       refine pure_ (i := 7) (N := some 18) (v := ?_) (a' := ?_) #[true, true, true, false, false, true, true, true, false, false, false, false] rfl rfl (any_of HT_.out (by kernel_rfl)) (fun _ _ _ h => h) (Or.inl ⟨by rfl, ?_⟩) ?_ ?_
       rotate_left
       ·
        intro w'
        go_simp
        with_reducible rfl
       rotate_left
       ·
        simp only [Act.put, List.setIfInBounds_toArray, List.set_cons_zero, List.set_cons_succ, i64_w, i32_w]
        rfl
       refine take_ (i := 3) (N := some 14) (v := ?_) (a' := ?_) #[true, true, true, true, false, true, true, true, false, false, false, false] rfl rfl (take_ofW HT_.out HW_.out (by kernel_rfl)) (fun _ _ _ h => h) (Or.inl ⟨by rfl, ?_⟩) hHeld ?_ ?_
       rotate_left
       ·
        rintro w' ⟨s0, s1, s2, s3, s4, s5, s6, s7, s8, s9, s10, s11, s12, s13, s14, s15, s16, s17, s18, s19, s20, s21, s22, s23, s24, s25, s26, s27, s28, s29⟩
        go_simp
        with_reducible rfl
       rotate_left
       ·
        simp only [Act.put, List.setIfInBounds_toArray, List.set_cons_zero, List.set_cons_succ, i64_w, i32_w]
        rfl
       refine take_ (i := 8) (N := some 19) (v := ?_) (a' := ?_) #[true, true, true, true, false, true, true, true, true, false, false, false] rfl rfl (take_ofW HT_.out HW_.out (by kernel_rfl)) (fun _ _ _ h => h) (Or.inl ⟨by rfl, ?_⟩) hHeld ?_ ?_
       rotate_left
       ·
        rintro w' ⟨s0, s1, s2, s3, s4, s5, s6, s7, s8, s9, s10, s11, s12, s13, s14, s15, s16, s17, s18, s19, s20, s21, s22, s23, s24, s25, s26, s27, s28, s29⟩
        go_simp
        with_reducible rfl
       rotate_left
       ·
        simp only [Act.put, List.setIfInBounds_toArray, List.set_cons_zero, List.set_cons_succ, i64_w, i32_w]
        rfl
       refine one_ (i := 4) (N := some 15) #[true, true, true, true, true, true, true, true, true, false, false, false] rfl rfl (one_of HT_.out (by kernel_rfl)) (by decide) (fun K hK => ?_)
       refine goes_ Tryz.func6 (by kernel_rfl) rfl #[.agg #[.int .i64 ((rd_T36 l0 x8_1).f0), .float .f64 ((rd_T36 l0 x8_1).f1.f0), .float .f64 ((rd_T36 l0 x8_1).f1.f1), .float .f64 ((rd_T36 l0 x8_1).f2.f0), .float .f64 ((rd_T36 l0 x8_1).f2.f1), .float .f64 ((rd_T36 l0 x8_1).f3.f0), .float .f64 ((rd_T36 l0 x8_1).f3.f1), .float .f64 ((rd_T36 l0 x8_1).f4.f0), .float .f64 ((rd_T36 l0 x8_1).f4.f1), .slice A457_9 ((rd_T36 l0 x8_1).f5).length c457_9, .slice A457_10 ((rd_T36 l0 x8_1).f6).length c457_10, .int .i64 ((rd_T36 l0 x8_1).f7), .int .i64 ((rd_T36 l0 x8_1).f8), .int .i64 ((rd_T36 l0 x8_1).f9), .string ((rd_T36 l0 x8_1).f10)]] (by rfl) rfl rfl (by (try simp only [List.map_toArray, List.map_cons, List.map_nil]); first | done | rfl | (simp only [List.length_drop, List.length_take]; rfl)) ?_
       with_reducible refine (pylonlaw02_plays.calls k1 ((rd_T36 l0 x8_1).f0) ((rd_T36 l0 x8_1).f1.f0) ((rd_T36 l0 x8_1).f1.f1) ((rd_T36 l0 x8_1).f2.f0) ((rd_T36 l0 x8_1).f2.f1) ((rd_T36 l0 x8_1).f3.f0) ((rd_T36 l0 x8_1).f3.f1) ((rd_T36 l0 x8_1).f4.f0) ((rd_T36 l0 x8_1).f4.f1) _ _ ((rd_T36 l0 x8_1).f5) _ _ ((rd_T36 l0 x8_1).f6) ((rd_T36 l0 x8_1).f7) ((rd_T36 l0 x8_1).f8) ((rd_T36 l0 x8_1).f9) ((rd_T36 l0 x8_1).f10) t458 t459 t460 t461 t462 t463 t464 t465 t466 t467 t468 _ ?side5 ?side1 ?side2 ?side3 ?side4 A8.out).mono ?_
       (case side1 => repeat (first | exact (Kd.C_below HR457_9.out HB.out) | (with_reducible refine Kd.C_alloc ?_ _) | (with_reducible refine Kd.C_drewN ?_ _) | (with_reducible refine Kd.C_drew ?_)))
       (case side2 => exact HC457_9.out)
       (case side3 => repeat (first | exact (Kd.C_below HR457_10.out HB.out) | (with_reducible refine Kd.C_alloc ?_ _) | (with_reducible refine Kd.C_drewN ?_ _) | (with_reducible refine Kd.C_drew ?_)))
       (case side4 => exact HC457_10.out)
       (case side5 => exact Go.Proofs.YtofedlghaopciaaGreatDoor.Hand.GW.on HTB.out bl_)
       rintro e w13 ⟨rfl, hb⟩
       refine ⟨_, rfl, ?_⟩
       replace HB := Aside0.mk (bst_ hb)
       (try clear hb)
       (try clear hb2)
       (try clear hk)
       (try clear hi)
       refine hK.out _ _ ⟨((HB.out.cell (World.block_lt_of_cell? w _ hw457_0)).trans hw457_0), ((HB.out.cell (World.block_lt_of_cell? w _ hw457_1)).trans hw457_1), ((HB.out.cell (World.block_lt_of_cell? w _ hw457_2)).trans hw457_2), ((HB.out.cell (World.block_lt_of_cell? w _ hw457_3)).trans hw457_3), ((HB.out.cell (World.block_lt_of_cell? w _ hw457_4)).trans hw457_4), ((HB.out.cell (World.block_lt_of_cell? w _ hw457_5)).trans hw457_5), ((HB.out.cell (World.block_lt_of_cell? w _ hw457_6)).trans hw457_6), ((HB.out.cell (World.block_lt_of_cell? w _ hw457_7)).trans hw457_7), ((HB.out.cell (World.block_lt_of_cell? w _ hw457_8)).trans hw457_8), ((HB.out.cell (World.block_lt_of_cell? w _ hw457_9)).trans hw457_9), ((HB.out.cell (World.block_lt_of_cell? w _ hw457_10)).trans hw457_10), ((HB.out.cell (World.block_lt_of_cell? w _ hw457_11)).trans hw457_11), ((HB.out.cell (World.block_lt_of_cell? w _ hw457_12)).trans hw457_12), ((HB.out.cell (World.block_lt_of_cell? w _ hw457_13)).trans hw457_13), ((HB.out.cell (World.block_lt_of_cell? w _ hw457_14)).trans hw457_14), ((HB.out.cell (World.block_lt_of_cell? w _ hw469_0)).trans hw469_0), ((HB.out.cell (World.block_lt_of_cell? w _ hw469_1)).trans hw469_1), ((HB.out.cell (World.block_lt_of_cell? w _ hw469_2)).trans hw469_2), ((HB.out.cell (World.block_lt_of_cell? w _ hw469_3)).trans hw469_3), ((HB.out.cell (World.block_lt_of_cell? w _ hw469_4)).trans hw469_4), ((HB.out.cell (World.block_lt_of_cell? w _ hw469_5)).trans hw469_5), ((HB.out.cell (World.block_lt_of_cell? w _ hw469_6)).trans hw469_6), ((HB.out.cell (World.block_lt_of_cell? w _ hw469_7)).trans hw469_7), ((HB.out.cell (World.block_lt_of_cell? w _ hw469_8)).trans hw469_8), ((HB.out.cell (World.block_lt_of_cell? w _ hw469_9)).trans hw469_9), ((HB.out.cell (World.block_lt_of_cell? w _ hw469_10)).trans hw469_10), ((HB.out.cell (World.block_lt_of_cell? w _ hw469_11)).trans hw469_11), ((HB.out.cell (World.block_lt_of_cell? w _ hw469_12)).trans hw469_12), ((HB.out.cell (World.block_lt_of_cell? w _ hw469_13)).trans hw469_13), ((HB.out.cell (World.block_lt_of_cell? w _ hw469_14)).trans hw469_14)⟩ (fun hHeld => ?_)
       clear hK K
       refine norm_ (a' := ?_) ?_ ?_
       rotate_left
       ·
        show Act.put _ (some 15) _ = _
        simp only [Act.put, List.setIfInBounds_toArray, List.set_cons_zero, List.set_cons_succ, i64_w, i32_w]
        rfl
       refine one_ (i := 9) (N := some 20) #[true, true, true, true, true, true, true, true, true, true, false, false] rfl rfl (one_of HT_.out (by kernel_rfl)) (by decide) (fun K hK => ?_)
       refine goes_ Tryz.func7 (by kernel_rfl) rfl #[.agg #[.int .i64 ((rd_T36 l0 x8_1).f0), .float .f64 ((rd_T36 l0 x8_1).f1.f0), .float .f64 ((rd_T36 l0 x8_1).f1.f1), .float .f64 ((rd_T36 l0 x8_1).f2.f0), .float .f64 ((rd_T36 l0 x8_1).f2.f1), .float .f64 ((rd_T36 l0 x8_1).f3.f0), .float .f64 ((rd_T36 l0 x8_1).f3.f1), .float .f64 ((rd_T36 l0 x8_1).f4.f0), .float .f64 ((rd_T36 l0 x8_1).f4.f1), .slice A457_9 ((rd_T36 l0 x8_1).f5).length c457_9, .slice A457_10 ((rd_T36 l0 x8_1).f6).length c457_10, .int .i64 ((rd_T36 l0 x8_1).f7), .int .i64 ((rd_T36 l0 x8_1).f8), .int .i64 ((rd_T36 l0 x8_1).f9), .string ((rd_T36 l0 x8_1).f10)]] (by rfl) rfl rfl (by (try simp only [List.map_toArray, List.map_cons, List.map_nil]); first | done | rfl | (simp only [List.length_drop, List.length_take]; rfl)) ?_
       with_reducible refine (pylonlaw02_wants.calls k1 ((rd_T36 l0 x8_1).f0) ((rd_T36 l0 x8_1).f1.f0) ((rd_T36 l0 x8_1).f1.f1) ((rd_T36 l0 x8_1).f2.f0) ((rd_T36 l0 x8_1).f2.f1) ((rd_T36 l0 x8_1).f3.f0) ((rd_T36 l0 x8_1).f3.f1) ((rd_T36 l0 x8_1).f4.f0) ((rd_T36 l0 x8_1).f4.f1) _ _ ((rd_T36 l0 x8_1).f5) _ _ ((rd_T36 l0 x8_1).f6) ((rd_T36 l0 x8_1).f7) ((rd_T36 l0 x8_1).f8) ((rd_T36 l0 x8_1).f9) ((rd_T36 l0 x8_1).f10) t470 t471 t472 t473 t474 t475 t476 t477 t478 t479 t480 _ ?side5 ?side1 ?side2 ?side3 ?side4 A9.out).mono ?_
       (case side1 => repeat (first | exact (Kd.C_below HR469_9.out HB.out) | (with_reducible refine Kd.C_alloc ?_ _) | (with_reducible refine Kd.C_drewN ?_ _) | (with_reducible refine Kd.C_drew ?_)))
       (case side2 => exact HC469_9.out)
       (case side3 => repeat (first | exact (Kd.C_below HR469_10.out HB.out) | (with_reducible refine Kd.C_alloc ?_ _) | (with_reducible refine Kd.C_drewN ?_ _) | (with_reducible refine Kd.C_drew ?_)))
       (case side4 => exact HC469_10.out)
       (case side5 => exact Go.Proofs.YtofedlghaopciaaGreatDoor.Hand.GW.on HTB.out bl_)
       rintro e w14 ⟨rfl, hb⟩
       refine ⟨_, rfl, ?_⟩
       replace HB := Aside0.mk (bst_ hb)
       (try clear hb)
       (try clear hb2)
       (try clear hk)
       (try clear hi)
       refine hK.out _ _ ⟨((HB.out.cell (World.block_lt_of_cell? w _ hw457_0)).trans hw457_0), ((HB.out.cell (World.block_lt_of_cell? w _ hw457_1)).trans hw457_1), ((HB.out.cell (World.block_lt_of_cell? w _ hw457_2)).trans hw457_2), ((HB.out.cell (World.block_lt_of_cell? w _ hw457_3)).trans hw457_3), ((HB.out.cell (World.block_lt_of_cell? w _ hw457_4)).trans hw457_4), ((HB.out.cell (World.block_lt_of_cell? w _ hw457_5)).trans hw457_5), ((HB.out.cell (World.block_lt_of_cell? w _ hw457_6)).trans hw457_6), ((HB.out.cell (World.block_lt_of_cell? w _ hw457_7)).trans hw457_7), ((HB.out.cell (World.block_lt_of_cell? w _ hw457_8)).trans hw457_8), ((HB.out.cell (World.block_lt_of_cell? w _ hw457_9)).trans hw457_9), ((HB.out.cell (World.block_lt_of_cell? w _ hw457_10)).trans hw457_10), ((HB.out.cell (World.block_lt_of_cell? w _ hw457_11)).trans hw457_11), ((HB.out.cell (World.block_lt_of_cell? w _ hw457_12)).trans hw457_12), ((HB.out.cell (World.block_lt_of_cell? w _ hw457_13)).trans hw457_13), ((HB.out.cell (World.block_lt_of_cell? w _ hw457_14)).trans hw457_14), ((HB.out.cell (World.block_lt_of_cell? w _ hw469_0)).trans hw469_0), ((HB.out.cell (World.block_lt_of_cell? w _ hw469_1)).trans hw469_1), ((HB.out.cell (World.block_lt_of_cell? w _ hw469_2)).trans hw469_2), ((HB.out.cell (World.block_lt_of_cell? w _ hw469_3)).trans hw469_3), ((HB.out.cell (World.block_lt_of_cell? w _ hw469_4)).trans hw469_4), ((HB.out.cell (World.block_lt_of_cell? w _ hw469_5)).trans hw469_5), ((HB.out.cell (World.block_lt_of_cell? w _ hw469_6)).trans hw469_6), ((HB.out.cell (World.block_lt_of_cell? w _ hw469_7)).trans hw469_7), ((HB.out.cell (World.block_lt_of_cell? w _ hw469_8)).trans hw469_8), ((HB.out.cell (World.block_lt_of_cell? w _ hw469_9)).trans hw469_9), ((HB.out.cell (World.block_lt_of_cell? w _ hw469_10)).trans hw469_10), ((HB.out.cell (World.block_lt_of_cell? w _ hw469_11)).trans hw469_11), ((HB.out.cell (World.block_lt_of_cell? w _ hw469_12)).trans hw469_12), ((HB.out.cell (World.block_lt_of_cell? w _ hw469_13)).trans hw469_13), ((HB.out.cell (World.block_lt_of_cell? w _ hw469_14)).trans hw469_14)⟩ (fun hHeld => ?_)
       clear hK K
       refine norm_ (a' := ?_) ?_ ?_
       rotate_left
       ·
        show Act.put _ (some 20) _ = _
        simp only [Act.put, List.setIfInBounds_toArray, List.set_cons_zero, List.set_cons_succ, i64_w, i32_w]
        rfl
       refine one_ (i := 10) (N := some 21) #[true, true, true, true, true, true, true, true, true, true, true, false] rfl rfl (one_of HT_.out (by kernel_rfl)) (by decide) (fun K hK => ?_)
       refine goes_ Tryz.func5 (by kernel_rfl) rfl #[.agg #[.complex .f64 t458.re t458.im, .complex .f64 t459.re t459.im, .complex .f64 t460.re t460.im, .complex .f64 t461.re t461.im, .complex .f64 t462.re t462.im, .int .i64 t463, .int .i64 t464, .int .i64 t465, .bool t466, .string t467, .int .i64 t468], .agg #[.complex .f64 t470.re t470.im, .complex .f64 t471.re t471.im, .complex .f64 t472.re t472.im, .complex .f64 t473.re t473.im, .complex .f64 t474.re t474.im, .int .i64 t475, .int .i64 t476, .int .i64 t477, .bool t478, .string t479, .int .i64 t480]] (by rfl) rfl rfl (by (try simp only [List.map_toArray, List.map_cons, List.map_nil]); first | done | rfl | (simp only [List.length_drop, List.length_take]; rfl)) ?_
       with_reducible refine (pylonlaw02_same.calls t458 t459 t460 t461 t462 t463 t464 t465 t466 t467 t468 t470 t471 t472 t473 t474 t475 t476 t477 t478 t479 t480 t481 _ A10.out).mono ?_
       rintro e w15 ⟨rfl, hb⟩
       refine ⟨_, rfl, ?_⟩
       replace HB := Aside0.mk (bst_ hb)
       (try clear hb)
       (try clear hb2)
       (try clear hk)
       (try clear hi)
       refine hK.out _ _ ⟨((HB.out.cell (World.block_lt_of_cell? w _ hw457_0)).trans hw457_0), ((HB.out.cell (World.block_lt_of_cell? w _ hw457_1)).trans hw457_1), ((HB.out.cell (World.block_lt_of_cell? w _ hw457_2)).trans hw457_2), ((HB.out.cell (World.block_lt_of_cell? w _ hw457_3)).trans hw457_3), ((HB.out.cell (World.block_lt_of_cell? w _ hw457_4)).trans hw457_4), ((HB.out.cell (World.block_lt_of_cell? w _ hw457_5)).trans hw457_5), ((HB.out.cell (World.block_lt_of_cell? w _ hw457_6)).trans hw457_6), ((HB.out.cell (World.block_lt_of_cell? w _ hw457_7)).trans hw457_7), ((HB.out.cell (World.block_lt_of_cell? w _ hw457_8)).trans hw457_8), ((HB.out.cell (World.block_lt_of_cell? w _ hw457_9)).trans hw457_9), ((HB.out.cell (World.block_lt_of_cell? w _ hw457_10)).trans hw457_10), ((HB.out.cell (World.block_lt_of_cell? w _ hw457_11)).trans hw457_11), ((HB.out.cell (World.block_lt_of_cell? w _ hw457_12)).trans hw457_12), ((HB.out.cell (World.block_lt_of_cell? w _ hw457_13)).trans hw457_13), ((HB.out.cell (World.block_lt_of_cell? w _ hw457_14)).trans hw457_14), ((HB.out.cell (World.block_lt_of_cell? w _ hw469_0)).trans hw469_0), ((HB.out.cell (World.block_lt_of_cell? w _ hw469_1)).trans hw469_1), ((HB.out.cell (World.block_lt_of_cell? w _ hw469_2)).trans hw469_2), ((HB.out.cell (World.block_lt_of_cell? w _ hw469_3)).trans hw469_3), ((HB.out.cell (World.block_lt_of_cell? w _ hw469_4)).trans hw469_4), ((HB.out.cell (World.block_lt_of_cell? w _ hw469_5)).trans hw469_5), ((HB.out.cell (World.block_lt_of_cell? w _ hw469_6)).trans hw469_6), ((HB.out.cell (World.block_lt_of_cell? w _ hw469_7)).trans hw469_7), ((HB.out.cell (World.block_lt_of_cell? w _ hw469_8)).trans hw469_8), ((HB.out.cell (World.block_lt_of_cell? w _ hw469_9)).trans hw469_9), ((HB.out.cell (World.block_lt_of_cell? w _ hw469_10)).trans hw469_10), ((HB.out.cell (World.block_lt_of_cell? w _ hw469_11)).trans hw469_11), ((HB.out.cell (World.block_lt_of_cell? w _ hw469_12)).trans hw469_12), ((HB.out.cell (World.block_lt_of_cell? w _ hw469_13)).trans hw469_13), ((HB.out.cell (World.block_lt_of_cell? w _ hw469_14)).trans hw469_14)⟩ (fun hHeld => ?_)
       clear hK K
       refine norm_ (a' := ?_) ?_ ?_
       rotate_left
       ·
        show Act.put _ (some 21) _ = _
        simp only [Act.put, List.setIfInBounds_toArray, List.set_cons_zero, List.set_cons_succ, i64_w, i32_w]
        rfl
       refine pure_ (i := 11) (N := some 22) (v := ?_) (a' := ?_) #[true, true, true, true, true, true, true, true, true, true, true, true] rfl rfl (any_of HT_.out (by kernel_rfl)) (fun _ _ _ h => h) (Or.inl ⟨by rfl, ?_⟩) ?_ ?_
       rotate_left
       ·
        intro w'
        go_simp
        with_reducible rfl
       rotate_left
       ·
        simp only [Act.put, List.setIfInBounds_toArray, List.set_cons_zero, List.set_cons_succ, i64_w, i32_w]
        rfl
       refine done_ (done_of HT_.out (by kernel_rfl)) ?_
       cases t481 with
       | true =>
        have H' := Aside0.mk (show (pylonlaw02_PhasorAll.l0 k1 l0 (l0.length : Int) (wrap64 (x8_1 + 1))) = some r from H9.out)
        try go_wp2
        go_roundg k1
        case measure => have := HK1.out; omega
        case rel => exact ⟨(wrap64 (x8_1 + 1)), (by first | rfl | (simp; done) | (simp [*]; done)), H', ⟨by have := HK1.out; omega⟩, ⟨bl_⟩⟩
       | false =>
        obtain rfl := Option.some.inj (show some false = some r from H9.out)
        go_wp2
        go_ret
        exact fin_
      ·
       rw [if_neg c7] at H
       exact absurd H (by simp)
     ·
      rw [if_neg c6] at H
      exact absurd H (by simp)
    ·
     rw [if_neg c5] at H
     have c5b0 : decide (x8_1 < (l0.length : Int)) = false := decide_eq_false c5
     clear c5
     obtain rfl := Option.some.inj H
     go_wp2
     go_ret
     exact fin_
 ·
  replace c3 := Bool.eq_false_iff.mpr c3
  subst c3
  have H1 : (some false) = some r := by rw [if_neg (show ¬ (false = true) by decide)] at H; exact H
  clear H
  have H := H1
  clear H1
  obtain rfl := Option.some.inj H
  go_enter Tryz.func3, Tryz.ntmps3
  go_wp2_with (first | ((with_reducible refine gate_callee (f := 4) rfl ?_); refine gL_ (some 4) Tryz.func4 #[] ?_; (with_reducible refine (pylonlaw02_awake.calls  false _ A2.out).mono ?_); rintro e w20 ⟨rfl, hb⟩; refine ⟨_, rfl, ?_⟩; replace HB := Aside0.mk (bst_ hb); (try clear hb); (try clear hb2); (try clear hk); (try clear hi)))
  go_ret
  exact fin_

end Go.Proofs.YtofedlghaopciaaGreatDoor.PA
