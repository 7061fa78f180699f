-- Written by a program of this session for this claim (wip/print2.sh). Lean checks it.
import Derived.Test.YtapimggcnneabaaPMAx0
import Derived.Test.YtapimggcnneabaaPMAx1
import Derived.Test.YtapimggcnneabaaPMAx2
import Derived.Test.YtapimggcnneabaaPMAx4
namespace Go.Proofs.Ytapimggcnneabaa.PMA
open Go.Proofs.YtapimggcnneabaaW.PrintWords
attribute [local go_sem high] fx_eql fx_neq fx_lss fx_leq fx_gtr fx_geq fx_add fx_sub fx_mul fx_neg fx_toint cxx_add cxx_sub cxx_mul cxx_eql cxx_neq cxx_pick st_float st_complex
open Go.RowKit Go.Proofs.YtapimggcnneabaaW.PrintWords Go.Proofs.YtapimggcnneabaaW.PrintLast Go.Proofs.YtapimggcnneabaaW.PrintMore
attribute [local go_sem] max2_int min2_int max_two min_two max_three min_three max_four min_four   -- for this text's walks alone
set_option linter.unusedVariables false
set_option linter.unusedSimpArgs false

theorem nb_ {w : World} {a : Addr} {v : Value} {gb : Nat} (h : w.cell? a = some v) (hg : Aside0 (w.heap.size ≤ gb)) : a.block ≠ gb := Nat.ne_of_lt (Nat.lt_of_lt_of_le (World.block_lt_of_cell? _ _ h) hg.out)
theorem bc_ {w w1 : World} {a : Addr} {v : Value} (H : Aside0 (Below w.heap.size w w1)) (h : w.cell? a = some v) : w1.cell? a = some v := (H.out.cell (World.block_lt_of_cell? w _ h)).trans h
/-! ### pylonlaw12_MeterAll: function 10 -/
theorem pylonlaw12_MeterAll.pq {P : Program} {ops : Array Oper} {Q : Exit → Act → World → Prop} {S : World → Prop} {ds : List Nat} {md : Region.Mode} {oi : Oper} {fuel : Nat} {l : Array Bool} {a : Act} {w : World} {T : Bool × List (List Nat × List Nat)} (i : Nat) (N : Tmp) (v : Value) (l' : Array Bool) (hi : ops[i]? = some oi) (hN : oi.dst = some N) (hT : Aside0 (rtab md ops = T)) (hc : anyT T l.toList l'.toList i = true) (hQ : ∀ c a w, Q (.panic c) (a.put oi.dst v) w → Q (.panic c) a w) (hy : Yields P ops oi v a) (a' : Act) (ha : a.put (some N) v = a') (h : wpAnyLast P md ops Q S ds fuel l' a' w) : wpAnyLast P md ops Q S ds (fuel + 1) l a w := pure_ l' hi hN (any_of hT.out hc) hQ hy ha h
mutual
def pylonlaw12_MeterAll.l0 : Nat → List (S73) → Int → Int → Option (Bool)
 | 0, _, _, _ => none
 | k + 1, x0, x9, x10 => if x10 < x9 then (if 0 ≤ x10 then (if x10 < (x0.length : Int) then ((pylonlaw12_plays.f k ((rd_T73 x0 x10).f0) ((rd_T73 x0 x10).f1.f0) ((rd_T73 x0 x10).f1.f1) ((rd_T73 x0 x10).f2.f0) ((rd_T73 x0 x10).f2.f1) ((rd_T73 x0 x10).f2.f2) ((rd_T73 x0 x10).f2.f3) ((rd_T73 x0 x10).f2.f4) ((rd_T73 x0 x10).f3) ((rd_T73 x0 x10).f4) ((rd_T73 x0 x10).f5) ((rd_T73 x0 x10).f6)).bind fun bt249 => ((pylonlaw12_wants.f k ((rd_T73 x0 x10).f0) ((rd_T73 x0 x10).f1.f0) ((rd_T73 x0 x10).f1.f1) ((rd_T73 x0 x10).f2.f0) ((rd_T73 x0 x10).f2.f1) ((rd_T73 x0 x10).f2.f2) ((rd_T73 x0 x10).f2.f3) ((rd_T73 x0 x10).f2.f4) ((rd_T73 x0 x10).f3) ((rd_T73 x0 x10).f4) ((rd_T73 x0 x10).f5) ((rd_T73 x0 x10).f6)).bind fun bt259 => (if (!(bt249.1 == bt259.1)) = true then (pylonlaw12_MeterAll.j1 k x0 x9 x10 true) else (if ceq bt249.2.1.re bt249.2.1.im bt259.2.1.re bt259.2.1.im = true then (if bt249.2.2.1 = bt259.2.2.1 then (if bt249.2.2.2.1 = bt259.2.2.2.1 then (if bt249.2.2.2.2.1 = bt259.2.2.2.2.1 then (if bt249.2.2.2.2.2.2 = bt259.2.2.2.2.2.2 then ((pylonref12_SameSeries.f k bt249.2.2.2.2.2.1 bt259.2.2.2.2.2.1).bind fun t270 => (pylonlaw12_MeterAll.j1 k x0 x9 x10 (!t270))) else (pylonlaw12_MeterAll.j1 k x0 x9 x10 true)) else (pylonlaw12_MeterAll.j1 k x0 x9 x10 true)) else (pylonlaw12_MeterAll.j1 k x0 x9 x10 true)) else (pylonlaw12_MeterAll.j1 k x0 x9 x10 true)) else (pylonlaw12_MeterAll.j1 k x0 x9 x10 true))))) else (none)) else (none)) else (some true)
def pylonlaw12_MeterAll.j1 : Nat → List (S73) → Int → Int → Bool → Option (Bool)
 | 0, _, _, _, _ => none
 | k + 1, x0, x9, x10, x70 => if x70 = true then (some false) else (pylonlaw12_MeterAll.l0 k x0 x9 (wrap64 (x10 + 1)))
end
def pylonlaw12_MeterAll.f (k : Nat) (l0 : List (S73)) : Option (Bool) := (pylonlaw12_awake.f k).bind fun t247 => (if t247 = true then (pylonlaw12_MeterAll.l0 k l0 (l0.length : Int) 0) else (some false))
theorem pylonlaw12_MeterAll.mono_l : ∀ k, (∀ y0 y1 y2, LeO (pylonlaw12_MeterAll.l0 k y0 y1 y2) (pylonlaw12_MeterAll.l0 (k + 1) y0 y1 y2)) ∧ (∀ y0 y1 y2 y3, LeO (pylonlaw12_MeterAll.j1 k y0 y1 y2 y3) (pylonlaw12_MeterAll.j1 (k + 1) y0 y1 y2 y3))
 | 0 => ⟨fun _ _ _ r h => by simp [pylonlaw12_MeterAll.l0] at h, fun _ _ _ _ r h => by simp [pylonlaw12_MeterAll.j1] at h⟩
 | k + 1 => by
  obtain ⟨ih0, ih1⟩ := pylonlaw12_MeterAll.mono_l k
  refine ⟨?_, ?_⟩
  ·
   intro y0 y1 y2
   unfold pylonlaw12_MeterAll.l0
   repeat' first
   | (with_reducible exact ih0 _ _ _)
   | (with_reducible exact ih1 _ _ _ _)
   | (with_reducible exact pylonlaw12_awake.mono _)
   | (with_reducible exact pylonlaw12_plays.mono _ _ _ _ _ _ _ _ _ _ _ _ _)
   | (with_reducible exact pylonlaw12_wants.mono _ _ _ _ _ _ _ _ _ _ _ _ _)
   | (with_reducible exact pylonref12_SameSeries.mono _ _ _)
   | (with_reducible exact LeO.refl _)
   | (with_reducible exact LeO.none _)
   | (with_reducible refine LeO.ite ?_ ?_)
   | (with_reducible refine LeO.bind ?_ (fun _ => ?_))
   | exact ih0 _ _ _
   | exact ih1 _ _ _ _
   | exact pylonlaw12_awake.mono _
   | exact pylonlaw12_plays.mono _ _ _ _ _ _ _ _ _ _ _ _ _
   | exact pylonlaw12_wants.mono _ _ _ _ _ _ _ _ _ _ _ _ _
   | exact pylonref12_SameSeries.mono _ _ _
   | exact LeO.none _
   | refine LeO.ite ?_ ?_
   | refine LeO.bind ?_ (fun _ => ?_)
  ·
   intro y0 y1 y2 y3
   unfold pylonlaw12_MeterAll.j1
   repeat' first
   | (with_reducible exact ih0 _ _ _)
   | (with_reducible exact ih1 _ _ _ _)
   | (with_reducible exact pylonlaw12_awake.mono _)
   | (with_reducible exact pylonlaw12_plays.mono _ _ _ _ _ _ _ _ _ _ _ _ _)
   | (with_reducible exact pylonlaw12_wants.mono _ _ _ _ _ _ _ _ _ _ _ _ _)
   | (with_reducible exact pylonref12_SameSeries.mono _ _ _)
   | (with_reducible exact LeO.refl _)
   | (with_reducible exact LeO.none _)
   | (with_reducible refine LeO.ite ?_ ?_)
   | (with_reducible refine LeO.bind ?_ (fun _ => ?_))
   | exact ih0 _ _ _
   | exact ih1 _ _ _ _
   | exact pylonlaw12_awake.mono _
   | exact pylonlaw12_plays.mono _ _ _ _ _ _ _ _ _ _ _ _ _
   | exact pylonlaw12_wants.mono _ _ _ _ _ _ _ _ _ _ _ _ _
   | exact pylonref12_SameSeries.mono _ _ _
   | exact LeO.none _
   | refine LeO.ite ?_ ?_
   | refine LeO.bind ?_ (fun _ => ?_)
theorem pylonlaw12_MeterAll.mono : ∀ a0 k, LeO (pylonlaw12_MeterAll.f k a0) (pylonlaw12_MeterAll.f (k + 1) a0) := by
 intro a0 k
 obtain ⟨ih0, ih1⟩ := pylonlaw12_MeterAll.mono_l k
 unfold pylonlaw12_MeterAll.f
 repeat' first
   | (with_reducible exact ih0 _ _ _)
   | (with_reducible exact ih1 _ _ _ _)
   | (with_reducible exact pylonlaw12_awake.mono _)
   | (with_reducible exact pylonlaw12_plays.mono _ _ _ _ _ _ _ _ _ _ _ _ _)
   | (with_reducible exact pylonlaw12_wants.mono _ _ _ _ _ _ _ _ _ _ _ _ _)
   | (with_reducible exact pylonref12_SameSeries.mono _ _ _)
   | (with_reducible exact LeO.refl _)
   | (with_reducible exact LeO.none _)
   | (with_reducible refine LeO.ite ?_ ?_)
   | (with_reducible refine LeO.bind ?_ (fun _ => ?_))
   | exact ih0 _ _ _
   | exact ih1 _ _ _ _
   | exact pylonlaw12_awake.mono _
   | exact pylonlaw12_plays.mono _ _ _ _ _ _ _ _ _ _ _ _ _
   | exact pylonlaw12_wants.mono _ _ _ _ _ _ _ _ _ _ _ _ _
   | exact pylonref12_SameSeries.mono _ _ _
   | exact LeO.none _
   | refine LeO.ite ?_ ?_
   | refine LeO.bind ?_ (fun _ => ?_)
def pylonlaw12_MeterAll.T6 : Bool × List (List Nat × List Nat) := (true, [([], []), ([], []), ([0, 1], [0, 1]), ([2], [2]), ([3], [3]), ([], []), ([], []), ([5, 6], [5, 6]), ([7], [7]), ([8, 4], [8]), ([], []), ([], []), ([10, 4, 9, 0, 1, 2, 3, 4, 10, 11], [4, 10]), ([11, 9, 12, 0, 1, 2, 3, 4, 5, 6, 7, 8, 9, 10, 11, 12], [9, 11])])
def pylonlaw12_MeterAll.B6 : List Nat := [0, 0, 3, 7, 15, 0, 0, 96, 224, 511, 0, 0, 4095, 8191]
theorem pylonlaw12_MeterAll.tab6 : rtab .any (opsOf Try.f10 6) = pylonlaw12_MeterAll.T6 := by kernel_rfl
theorem pylonlaw12_MeterAll.bits6 : waitsOk pylonlaw12_MeterAll.T6.2 pylonlaw12_MeterAll.B6 = true := by kernel_rfl
set_option maxHeartbeats 8000000 in
set_option maxRecDepth 100000 in
theorem pylonlaw12_MeterAll.calls (k : Nat) (A0 : Option Addr) (c0 : Nat) (l0 : List (S73)) (r : Bool) (w : World) (hr0 : Kd.C k73 w A0 l0.length l0) (hc0 : l0.length ≤ c0) (h : pylonlaw12_MeterAll.f k l0 = some r) :
  Calls Try.prog 10 #[.slice A0 l0.length c0] w fun e w' => e = .returned (.bool r) ∧ Below w.heap.size w w' := by
 have hu73 := Try.underlying73
 have hu70 := Try.underlying70
 have HR0 := Aside0.mk hr0
 have HC0 := Aside0.mk hc0
 clear hr0 hc0
 have HB := Aside0.mk (Below.refl w.heap.size w)
 have H : ((pylonlaw12_awake.f k).bind fun t247 => (if t247 = true then (pylonlaw12_MeterAll.l0 k l0 (l0.length : Int) 0) else (some false))) = some r := h
 clear h
 replace H := Option.bind_eq_some_iff.mp H
 obtain ⟨t247, A20, H⟩ := H
 replace H : (if t247 = true then (pylonlaw12_MeterAll.l0 k l0 (l0.length : Int) 0) else (some false)) = some r := H
 have A2 := Aside0.mk A20
 clear A20
 by_cases c3 : t247 = true
 ·
  subst c3
  have H1 : (pylonlaw12_MeterAll.l0 k l0 (l0.length : Int) 0) = some r := by rw [if_pos rfl] at H; exact H
  clear H
  have H := H1
  clear H1
  have H' := Aside0.mk H
  clear H
  go_enter Try.func10, Try.ntmps10
  go_wp2_with (first | ((with_reducible refine gate_callee (f := 20) rfl ?_); refine goesL_ (some 6) rfl rfl Try.func20 (by kernel_rfl) rfl #[] rfl (by (try simp only [List.map_toArray, List.map_cons, List.map_nil]); first | done | rfl | (simp only [List.length_drop, List.length_take]; rfl)) ?_; (with_reducible refine (pylonlaw12_awake.calls k  true _ A2.out).mono ?_); rintro e w4 ⟨rfl, hb⟩; refine ⟨_, rfl, ?_⟩; have n0_ := Aside0.mk (below_step (by repeat (first | (with_reducible first | exact HB.out | apply lA_ | apply lN_ | apply l1_) | exact HB.out)) hb); clear HB; have HB := n0_; clear n0_; (try clear hb); (try clear hb2); (try clear hk); (try clear hi)))
  go_loopg [10] k (fun kq v10 w' => ∃ (x10_1 : Int), v10 = .int .i64 x10_1 ∧ Aside0 (pylonlaw12_MeterAll.l0 kq l0 (l0.length : Int) x10_1 = some r) ∧ Aside0 (kq ≤ k) ∧ Aside0 (Below w.heap.size w w'))
  case atStart => exact ⟨(0), (by first | rfl | (simp; done) | (simp [*]; done)), H', ⟨Nat.le_refl _⟩, ⟨by repeat (first | (with_reducible first | exact HB.out | apply lA_ | apply lN_ | apply l1_) | exact HB.out)⟩⟩
  case round =>
   clear H'
   (try clear c1); (try clear c2); (try clear p2); (try clear c3)
   obtain ⟨x10_1, rfl, HA, HK1, HB⟩ := hrel
   cases gk with
   | zero => exact absurd HA.out (by simp [pylonlaw12_MeterAll.l0])
   | succ k1 =>
    have H := HA.out
    clear HA
    simp only [pylonlaw12_MeterAll.l0] at H
    by_cases c5 : x10_1 < (l0.length : Int)
    ·
     rw [if_pos c5] at H
     have c5b0 : decide (x10_1 < (l0.length : Int)) = true := decide_eq_true c5
     clear c5
     by_cases c6 : 0 ≤ x10_1
     ·
      rw [if_pos c6] at H
      have c6b0 : decide (0 ≤ x10_1) = true := decide_eq_true c6
      clear c6
      by_cases c7 : x10_1 < (l0.length : Int)
      ·
       rw [if_pos c7] at H
       have c7b0 : decide (x10_1 < (l0.length : Int)) = true := decide_eq_true c7
       clear c7
       replace H := Option.bind_eq_some_iff.mp H
       obtain ⟨⟨t249, t250, t251, t252, t253, t254, t257⟩, A80, H⟩ := H
       replace H : ((pylonlaw12_wants.f k1 ((rd_T73 l0 x10_1).f0) ((rd_T73 l0 x10_1).f1.f0) ((rd_T73 l0 x10_1).f1.f1) ((rd_T73 l0 x10_1).f2.f0) ((rd_T73 l0 x10_1).f2.f1) ((rd_T73 l0 x10_1).f2.f2) ((rd_T73 l0 x10_1).f2.f3) ((rd_T73 l0 x10_1).f2.f4) ((rd_T73 l0 x10_1).f3) ((rd_T73 l0 x10_1).f4) ((rd_T73 l0 x10_1).f5) ((rd_T73 l0 x10_1).f6)).bind fun bt259 => (if (!(t249 == bt259.1)) = true then (pylonlaw12_MeterAll.j1 k1 l0 (l0.length : Int) x10_1 true) else (if ceq t250.re t250.im bt259.2.1.re bt259.2.1.im = true then (if t251 = bt259.2.2.1 then (if t252 = bt259.2.2.2.1 then (if t253 = bt259.2.2.2.2.1 then (if t257 = bt259.2.2.2.2.2.2 then ((pylonref12_SameSeries.f k1 t254 bt259.2.2.2.2.2.1).bind fun t270 => (pylonlaw12_MeterAll.j1 k1 l0 (l0.length : Int) x10_1 (!t270))) else (pylonlaw12_MeterAll.j1 k1 l0 (l0.length : Int) x10_1 true)) else (pylonlaw12_MeterAll.j1 k1 l0 (l0.length : Int) x10_1 true)) else (pylonlaw12_MeterAll.j1 k1 l0 (l0.length : Int) x10_1 true)) else (pylonlaw12_MeterAll.j1 k1 l0 (l0.length : Int) x10_1 true)) else (pylonlaw12_MeterAll.j1 k1 l0 (l0.length : Int) x10_1 true)))) = some r := H
       have A8 := Aside0.mk A80
       clear A80
       replace H := Option.bind_eq_some_iff.mp H
       obtain ⟨⟨t259, t260, t261, t262, t263, t264, t267⟩, A90, H⟩ := H
       replace H : (if (!(t249 == t259)) = true then (pylonlaw12_MeterAll.j1 k1 l0 (l0.length : Int) x10_1 true) else (if ceq t250.re t250.im t260.re t260.im = true then (if t251 = t261 then (if t252 = t262 then (if t253 = t263 then (if t257 = t267 then ((pylonref12_SameSeries.f k1 t254 t264).bind fun t270 => (pylonlaw12_MeterAll.j1 k1 l0 (l0.length : Int) x10_1 (!t270))) else (pylonlaw12_MeterAll.j1 k1 l0 (l0.length : Int) x10_1 true)) else (pylonlaw12_MeterAll.j1 k1 l0 (l0.length : Int) x10_1 true)) else (pylonlaw12_MeterAll.j1 k1 l0 (l0.length : Int) x10_1 true)) else (pylonlaw12_MeterAll.j1 k1 l0 (l0.length : Int) x10_1 true)) else (pylonlaw12_MeterAll.j1 k1 l0 (l0.length : Int) x10_1 true))) = some r := H
       have A9 := Aside0.mk A90
       clear A90
       have HC10 := Aside0.mk H
       clear H
       try go_wp2
       have n0_ := Aside0.mk (l1_ HB.out)
       clear HB
       have HB := n0_
       clear n0_
       have p248 : 0 ≤ (x10_1 : Int) := of_decide_eq_true (by first | (with_reducible assumption) | assumption)
       have q248 : x10_1 < (l0.length : Int) := of_decide_eq_true (by first | (with_reducible assumption) | assumption)
       obtain ⟨ad248, A248_10, c248_10, A248_11, c248_11, e248, hx248_0, hx248_1, hx248_2, hx248_3, hx248_4, hx248_5, hx248_6, hx248_7, hx248_8, hx248_9, hx248_10, hx248_11, hl248_10, hi248_10, hl248_11, hi248_11⟩ := at_T73 HR0.out x10_1 p248 q248
       have hw248_11 := hx248_11
       have hw248_10 := hx248_10
       have hw248_9 := hx248_9
       have hw248_8 := hx248_8
       have hw248_7 := hx248_7
       have hw248_6 := hx248_6
       have hw248_5 := hx248_5
       have hw248_4 := hx248_4
       have hw248_3 := hx248_3
       have hw248_2 := hx248_2
       have hw248_1 := hx248_1
       have hw248_0 := hx248_0
       cases e248
       replace hx248_0 := (HB.out.cell (World.block_lt_of_cell? w _ hx248_0)).trans hx248_0
       replace hx248_1 := (HB.out.cell (World.block_lt_of_cell? w _ hx248_1)).trans hx248_1
       replace hx248_2 := (HB.out.cell (World.block_lt_of_cell? w _ hx248_2)).trans hx248_2
       replace hx248_3 := (HB.out.cell (World.block_lt_of_cell? w _ hx248_3)).trans hx248_3
       replace hx248_4 := (HB.out.cell (World.block_lt_of_cell? w _ hx248_4)).trans hx248_4
       replace hx248_5 := (HB.out.cell (World.block_lt_of_cell? w _ hx248_5)).trans hx248_5
       replace hx248_6 := (HB.out.cell (World.block_lt_of_cell? w _ hx248_6)).trans hx248_6
       replace hx248_7 := (HB.out.cell (World.block_lt_of_cell? w _ hx248_7)).trans hx248_7
       replace hx248_8 := (HB.out.cell (World.block_lt_of_cell? w _ hx248_8)).trans hx248_8
       replace hx248_9 := (HB.out.cell (World.block_lt_of_cell? w _ hx248_9)).trans hx248_9
       replace hx248_10 := (HB.out.cell (World.block_lt_of_cell? w _ hx248_10)).trans hx248_10
       replace hx248_11 := (HB.out.cell (World.block_lt_of_cell? w _ hx248_11)).trans hx248_11
       have HR248_10 := Aside0.mk hi248_10
       have HC248_10 := Aside0.mk hl248_10
       clear hi248_10 hl248_10
       have HR248_11 := Aside0.mk hi248_11
       have HC248_11 := Aside0.mk hl248_11
       clear hi248_11 hl248_11
       replace p248 := eq_true p248
       replace q248 := eq_true q248
       have p258 : 0 ≤ (x10_1 : Int) := of_decide_eq_true (by first | (with_reducible assumption) | assumption)
       have q258 : x10_1 < (l0.length : Int) := of_decide_eq_true (by first | (with_reducible assumption) | assumption)
       obtain ⟨ad258, A258_10, c258_10, A258_11, c258_11, e258, hx258_0, hx258_1, hx258_2, hx258_3, hx258_4, hx258_5, hx258_6, hx258_7, hx258_8, hx258_9, hx258_10, hx258_11, hl258_10, hi258_10, hl258_11, hi258_11⟩ := at_T73 HR0.out x10_1 p258 q258
       have hw258_11 := hx258_11
       have hw258_10 := hx258_10
       have hw258_9 := hx258_9
       have hw258_8 := hx258_8
       have hw258_7 := hx258_7
       have hw258_6 := hx258_6
       have hw258_5 := hx258_5
       have hw258_4 := hx258_4
       have hw258_3 := hx258_3
       have hw258_2 := hx258_2
       have hw258_1 := hx258_1
       have hw258_0 := hx258_0
       obtain rfl : ad248 = ad258 := (by injection e258)
       replace hx258_0 := (HB.out.cell (World.block_lt_of_cell? w _ hx258_0)).trans hx258_0
       replace hx258_1 := (HB.out.cell (World.block_lt_of_cell? w _ hx258_1)).trans hx258_1
       replace hx258_2 := (HB.out.cell (World.block_lt_of_cell? w _ hx258_2)).trans hx258_2
       replace hx258_3 := (HB.out.cell (World.block_lt_of_cell? w _ hx258_3)).trans hx258_3
       replace hx258_4 := (HB.out.cell (World.block_lt_of_cell? w _ hx258_4)).trans hx258_4
       replace hx258_5 := (HB.out.cell (World.block_lt_of_cell? w _ hx258_5)).trans hx258_5
       replace hx258_6 := (HB.out.cell (World.block_lt_of_cell? w _ hx258_6)).trans hx258_6
       replace hx258_7 := (HB.out.cell (World.block_lt_of_cell? w _ hx258_7)).trans hx258_7
       replace hx258_8 := (HB.out.cell (World.block_lt_of_cell? w _ hx258_8)).trans hx258_8
       replace hx258_9 := (HB.out.cell (World.block_lt_of_cell? w _ hx258_9)).trans hx258_9
       replace hx258_10 := (HB.out.cell (World.block_lt_of_cell? w _ hx258_10)).trans hx258_10
       replace hx258_11 := (HB.out.cell (World.block_lt_of_cell? w _ hx258_11)).trans hx258_11
       have HR258_10 := Aside0.mk hi258_10
       have HC258_10 := Aside0.mk hl258_10
       clear hi258_10 hl258_10
       have HR258_11 := Aside0.mk hi258_11
       have HC258_11 := Aside0.mk hl258_11
       clear hi258_11 hl258_11
       replace p258 := eq_true p258
       replace q258 := eq_true q258
       have ea_ := Option.some.inj (hx248_10.symm.trans hx258_10)
       injection ea_ with ea_ en_ ec_
       subst ea_
       subst ec_
       clear en_
       have ea_ := Option.some.inj (hx248_11.symm.trans hx258_11)
       injection ea_ with ea_ en_ ec_
       subst ea_
       subst ec_
       clear en_
       refine start_ (n := 14) (S := fun w' => w'.cell? (ad248.add ((x10_1).toNat * 12)) = some (.int .i64 ((rd_T73 l0 x10_1).f0)) ∧ w'.cell? ⟨(ad248.add ((x10_1).toNat * 12)).block, (ad248.add ((x10_1).toNat * 12)).off + 1, none⟩ = some (.float .f64 ((rd_T73 l0 x10_1).f1.f0)) ∧ w'.cell? ⟨(ad248.add ((x10_1).toNat * 12)).block, (ad248.add ((x10_1).toNat * 12)).off + 2, none⟩ = some (.float .f64 ((rd_T73 l0 x10_1).f1.f1)) ∧ w'.cell? ⟨(ad248.add ((x10_1).toNat * 12)).block, (ad248.add ((x10_1).toNat * 12)).off + 3, none⟩ = some (.int .i64 ((rd_T73 l0 x10_1).f2.f0)) ∧ w'.cell? ⟨(ad248.add ((x10_1).toNat * 12)).block, (ad248.add ((x10_1).toNat * 12)).off + 4, none⟩ = some (.int .i64 ((rd_T73 l0 x10_1).f2.f1)) ∧ w'.cell? ⟨(ad248.add ((x10_1).toNat * 12)).block, (ad248.add ((x10_1).toNat * 12)).off + 5, none⟩ = some (.int .i64 ((rd_T73 l0 x10_1).f2.f2)) ∧ w'.cell? ⟨(ad248.add ((x10_1).toNat * 12)).block, (ad248.add ((x10_1).toNat * 12)).off + 6, none⟩ = some (.int .i64 ((rd_T73 l0 x10_1).f2.f3)) ∧ w'.cell? ⟨(ad248.add ((x10_1).toNat * 12)).block, (ad248.add ((x10_1).toNat * 12)).off + 7, none⟩ = some (.int .u8 ((rd_T73 l0 x10_1).f2.f4)) ∧ w'.cell? ⟨(ad248.add ((x10_1).toNat * 12)).block, (ad248.add ((x10_1).toNat * 12)).off + 8, none⟩ = some (.int .i64 ((rd_T73 l0 x10_1).f3)) ∧ w'.cell? ⟨(ad248.add ((x10_1).toNat * 12)).block, (ad248.add ((x10_1).toNat * 12)).off + 9, none⟩ = some (.int .i64 ((rd_T73 l0 x10_1).f4)) ∧ w'.cell? ⟨(ad248.add ((x10_1).toNat * 12)).block, (ad248.add ((x10_1).toNat * 12)).off + 10, none⟩ = some (.slice A248_10 ((rd_T73 l0 x10_1).f5).length c248_10) ∧ w'.cell? ⟨(ad248.add ((x10_1).toNat * 12)).block, (ad248.add ((x10_1).toNat * 12)).off + 11, none⟩ = some (.slice A248_11 ((rd_T73 l0 x10_1).f6).length c248_11) ∧ w'.cell? (ad248.add ((x10_1).toNat * 12)) = some (.int .i64 ((rd_T73 l0 x10_1).f0)) ∧ w'.cell? ⟨(ad248.add ((x10_1).toNat * 12)).block, (ad248.add ((x10_1).toNat * 12)).off + 1, none⟩ = some (.float .f64 ((rd_T73 l0 x10_1).f1.f0)) ∧ w'.cell? ⟨(ad248.add ((x10_1).toNat * 12)).block, (ad248.add ((x10_1).toNat * 12)).off + 2, none⟩ = some (.float .f64 ((rd_T73 l0 x10_1).f1.f1)) ∧ w'.cell? ⟨(ad248.add ((x10_1).toNat * 12)).block, (ad248.add ((x10_1).toNat * 12)).off + 3, none⟩ = some (.int .i64 ((rd_T73 l0 x10_1).f2.f0)) ∧ w'.cell? ⟨(ad248.add ((x10_1).toNat * 12)).block, (ad248.add ((x10_1).toNat * 12)).off + 4, none⟩ = some (.int .i64 ((rd_T73 l0 x10_1).f2.f1)) ∧ w'.cell? ⟨(ad248.add ((x10_1).toNat * 12)).block, (ad248.add ((x10_1).toNat * 12)).off + 5, none⟩ = some (.int .i64 ((rd_T73 l0 x10_1).f2.f2)) ∧ w'.cell? ⟨(ad248.add ((x10_1).toNat * 12)).block, (ad248.add ((x10_1).toNat * 12)).off + 6, none⟩ = some (.int .i64 ((rd_T73 l0 x10_1).f2.f3)) ∧ w'.cell? ⟨(ad248.add ((x10_1).toNat * 12)).block, (ad248.add ((x10_1).toNat * 12)).off + 7, none⟩ = some (.int .u8 ((rd_T73 l0 x10_1).f2.f4)) ∧ w'.cell? ⟨(ad248.add ((x10_1).toNat * 12)).block, (ad248.add ((x10_1).toNat * 12)).off + 8, none⟩ = some (.int .i64 ((rd_T73 l0 x10_1).f3)) ∧ w'.cell? ⟨(ad248.add ((x10_1).toNat * 12)).block, (ad248.add ((x10_1).toNat * 12)).off + 9, none⟩ = some (.int .i64 ((rd_T73 l0 x10_1).f4)) ∧ w'.cell? ⟨(ad248.add ((x10_1).toNat * 12)).block, (ad248.add ((x10_1).toNat * 12)).off + 10, none⟩ = some (.slice A248_10 ((rd_T73 l0 x10_1).f5).length c248_10) ∧ w'.cell? ⟨(ad248.add ((x10_1).toNat * 12)).block, (ad248.add ((x10_1).toNat * 12)).off + 11, none⟩ = some (.slice A248_11 ((rd_T73 l0 x10_1).f6).length c248_11)) (ds := []) (upT 0 14) (by kernel_rfl) rfl rfl ⟨(bc_ HB hw248_0), (bc_ HB hw248_1), (bc_ HB hw248_2), (bc_ HB hw248_3), (bc_ HB hw248_4), (bc_ HB hw248_5), (bc_ HB hw248_6), (bc_ HB hw248_7), (bc_ HB hw248_8), (bc_ HB hw248_9), (bc_ HB hw248_10), (bc_ HB hw248_11), (bc_ HB hw258_0), (bc_ HB hw258_1), (bc_ HB hw258_2), (bc_ HB hw258_3), (bc_ HB hw258_4), (bc_ HB hw258_5), (bc_ HB hw258_6), (bc_ HB hw258_7), (bc_ HB hw258_8), (bc_ HB hw258_9), (bc_ HB hw258_10), (bc_ HB hw258_11)⟩ (fun hHeld => ?_); refine with_tabW pylonlaw12_MeterAll.tab6 pylonlaw12_MeterAll.bits6 (fun HT_ HW_ => ?_)
       generalize wr.drew = w11 at HB HR248_10 HR248_11 HR258_10 HR258_11 hx248_0 hx248_1 hx248_10 hx248_11 hx248_2 hx248_3 hx248_4 hx248_5 hx248_6 hx248_7 hx248_8 hx248_9 hx258_0 hx258_1 hx258_10 hx258_11 hx258_2 hx258_3 hx258_4 hx258_5 hx258_6 hx258_7 hx258_8 hx258_9 hHeld ⊢
       refine pq 0 13 ?_ (upT 1 13) rfl rfl HT_ (by kernel_rfl) (fun _ _ _ h => h) (Or.inl ⟨by rfl, ?_⟩) ?_ ?_ ?_; rotate_left; (intro w'; go_simp; with_reducible rfl); rotate_left; (simp only [putS]; rfl)
       refine pq 1 14 ?_ (upT 2 12) rfl rfl HT_ (by kernel_rfl) (fun _ _ _ h => h) (Or.inl ⟨by rfl, ?_⟩) ?_ ?_ ?_; rotate_left; (intro w'; go_simp; with_reducible rfl); rotate_left; (simp only [putS]; rfl)
       refine pq 2 15 ?_ (upT 3 11) rfl rfl HT_ (by kernel_rfl) (fun _ _ _ h => h) (Or.inl ⟨by rfl, ?_⟩) ?_ ?_ ?_; rotate_left; (intro w'; go_simp; with_reducible rfl); rotate_left; (simp only [putS]; rfl)
       refine pure_ (i := 5) (N := some 18) (v := ?_) (a' := ?_) #[true, true, true, false, false, true, false, false, false, false, false, false, false, false] rfl rfl (any_of HT_.out (by kernel_rfl)) (fun _ _ _ h => h) (Or.inl ⟨by rfl, ?_⟩) ?_ ?_; rotate_left; (intro w'; go_simp; with_reducible rfl); rotate_left; (simp only [putS]; rfl)
       refine pure_ (i := 6) (N := some 19) (v := ?_) (a' := ?_) #[true, true, true, false, false, true, true, false, false, false, false, false, false, false] rfl rfl (any_of HT_.out (by kernel_rfl)) (fun _ _ _ h => h) (Or.inl ⟨by rfl, ?_⟩) ?_ ?_; rotate_left; (intro w'; go_simp; with_reducible rfl); rotate_left; (simp only [putS]; rfl)
       refine pure_ (i := 7) (N := some 20) (v := ?_) (a' := ?_) #[true, true, true, false, false, true, true, true, false, false, false, false, false, false] rfl rfl (any_of HT_.out (by kernel_rfl)) (fun _ _ _ h => h) (Or.inl ⟨by rfl, ?_⟩) ?_ ?_; rotate_left; (intro w'; go_simp; with_reducible rfl); rotate_left; (simp only [putS]; rfl)
       refine take_ (i := 3) (N := some 16) (v := ?_) (a' := ?_) #[true, true, true, true, false, true, true, true, false, false, false, false, false, false] rfl rfl (take_ofW HT_.out HW_.out (by kernel_rfl)) (fun _ _ _ h => h) (Or.inl ⟨by rfl, ?_⟩) hHeld ?_ ?_
       rotate_left
       ·
        rintro w' ⟨s0, s1, s2, s3, s4, s5, s6, s7, s8, s9, s10, s11, s12, s13, s14, s15, s16, s17, s18, s19, s20, s21, s22, s23⟩
        go_simp
        with_reducible rfl
       rotate_left; (simp only [putS]; rfl)
       refine take_ (i := 8) (N := some 21) (v := ?_) (a' := ?_) #[true, true, true, true, false, true, true, true, true, false, false, false, false, false] rfl rfl (take_ofW HT_.out HW_.out (by kernel_rfl)) (fun _ _ _ h => h) (Or.inl ⟨by rfl, ?_⟩) hHeld ?_ ?_
       rotate_left
       ·
        rintro w' ⟨s0, s1, s2, s3, s4, s5, s6, s7, s8, s9, s10, s11, s12, s13, s14, s15, s16, s17, s18, s19, s20, s21, s22, s23⟩
        go_simp
        with_reducible rfl
       rotate_left; (simp only [putS]; rfl)
       refine join_ (σ := Value × Value × Nat × Nat) 2 (upT 12 2) (fun s_ => [(17, .agg #[.bool t249, .complex .f64 t250.re t250.im, .int .i64 t251, .int .i64 t252, .int .i64 t253, s_.1, .int .i64 t257]), (22, .agg #[.bool t259, .complex .f64 t260.re t260.im, .int .i64 t261, .int .i64 t262, .int .i64 t263, s_.2.1, .int .i64 t267]), (4, .pointer (some ⟨s_.2.2.1, 0, none⟩)), (5, .pointer (some ⟨s_.2.2.2, 0, none⟩))]) (fun s_ w' => (w'.cell? (ad248.add ((x10_1).toNat * 12)) = some (.int .i64 ((rd_T73 l0 x10_1).f0)) ∧ w'.cell? ⟨(ad248.add ((x10_1).toNat * 12)).block, (ad248.add ((x10_1).toNat * 12)).off + 1, none⟩ = some (.float .f64 ((rd_T73 l0 x10_1).f1.f0)) ∧ w'.cell? ⟨(ad248.add ((x10_1).toNat * 12)).block, (ad248.add ((x10_1).toNat * 12)).off + 2, none⟩ = some (.float .f64 ((rd_T73 l0 x10_1).f1.f1)) ∧ w'.cell? ⟨(ad248.add ((x10_1).toNat * 12)).block, (ad248.add ((x10_1).toNat * 12)).off + 3, none⟩ = some (.int .i64 ((rd_T73 l0 x10_1).f2.f0)) ∧ w'.cell? ⟨(ad248.add ((x10_1).toNat * 12)).block, (ad248.add ((x10_1).toNat * 12)).off + 4, none⟩ = some (.int .i64 ((rd_T73 l0 x10_1).f2.f1)) ∧ w'.cell? ⟨(ad248.add ((x10_1).toNat * 12)).block, (ad248.add ((x10_1).toNat * 12)).off + 5, none⟩ = some (.int .i64 ((rd_T73 l0 x10_1).f2.f2)) ∧ w'.cell? ⟨(ad248.add ((x10_1).toNat * 12)).block, (ad248.add ((x10_1).toNat * 12)).off + 6, none⟩ = some (.int .i64 ((rd_T73 l0 x10_1).f2.f3)) ∧ w'.cell? ⟨(ad248.add ((x10_1).toNat * 12)).block, (ad248.add ((x10_1).toNat * 12)).off + 7, none⟩ = some (.int .u8 ((rd_T73 l0 x10_1).f2.f4)) ∧ w'.cell? ⟨(ad248.add ((x10_1).toNat * 12)).block, (ad248.add ((x10_1).toNat * 12)).off + 8, none⟩ = some (.int .i64 ((rd_T73 l0 x10_1).f3)) ∧ w'.cell? ⟨(ad248.add ((x10_1).toNat * 12)).block, (ad248.add ((x10_1).toNat * 12)).off + 9, none⟩ = some (.int .i64 ((rd_T73 l0 x10_1).f4)) ∧ w'.cell? ⟨(ad248.add ((x10_1).toNat * 12)).block, (ad248.add ((x10_1).toNat * 12)).off + 10, none⟩ = some (.slice A248_10 ((rd_T73 l0 x10_1).f5).length c248_10) ∧ w'.cell? ⟨(ad248.add ((x10_1).toNat * 12)).block, (ad248.add ((x10_1).toNat * 12)).off + 11, none⟩ = some (.slice A248_11 ((rd_T73 l0 x10_1).f6).length c248_11) ∧ w'.cell? (ad248.add ((x10_1).toNat * 12)) = some (.int .i64 ((rd_T73 l0 x10_1).f0)) ∧ w'.cell? ⟨(ad248.add ((x10_1).toNat * 12)).block, (ad248.add ((x10_1).toNat * 12)).off + 1, none⟩ = some (.float .f64 ((rd_T73 l0 x10_1).f1.f0)) ∧ w'.cell? ⟨(ad248.add ((x10_1).toNat * 12)).block, (ad248.add ((x10_1).toNat * 12)).off + 2, none⟩ = some (.float .f64 ((rd_T73 l0 x10_1).f1.f1)) ∧ w'.cell? ⟨(ad248.add ((x10_1).toNat * 12)).block, (ad248.add ((x10_1).toNat * 12)).off + 3, none⟩ = some (.int .i64 ((rd_T73 l0 x10_1).f2.f0)) ∧ w'.cell? ⟨(ad248.add ((x10_1).toNat * 12)).block, (ad248.add ((x10_1).toNat * 12)).off + 4, none⟩ = some (.int .i64 ((rd_T73 l0 x10_1).f2.f1)) ∧ w'.cell? ⟨(ad248.add ((x10_1).toNat * 12)).block, (ad248.add ((x10_1).toNat * 12)).off + 5, none⟩ = some (.int .i64 ((rd_T73 l0 x10_1).f2.f2)) ∧ w'.cell? ⟨(ad248.add ((x10_1).toNat * 12)).block, (ad248.add ((x10_1).toNat * 12)).off + 6, none⟩ = some (.int .i64 ((rd_T73 l0 x10_1).f2.f3)) ∧ w'.cell? ⟨(ad248.add ((x10_1).toNat * 12)).block, (ad248.add ((x10_1).toNat * 12)).off + 7, none⟩ = some (.int .u8 ((rd_T73 l0 x10_1).f2.f4)) ∧ w'.cell? ⟨(ad248.add ((x10_1).toNat * 12)).block, (ad248.add ((x10_1).toNat * 12)).off + 8, none⟩ = some (.int .i64 ((rd_T73 l0 x10_1).f3)) ∧ w'.cell? ⟨(ad248.add ((x10_1).toNat * 12)).block, (ad248.add ((x10_1).toNat * 12)).off + 9, none⟩ = some (.int .i64 ((rd_T73 l0 x10_1).f4)) ∧ w'.cell? ⟨(ad248.add ((x10_1).toNat * 12)).block, (ad248.add ((x10_1).toNat * 12)).off + 10, none⟩ = some (.slice A248_10 ((rd_T73 l0 x10_1).f5).length c248_10) ∧ w'.cell? ⟨(ad248.add ((x10_1).toNat * 12)).block, (ad248.add ((x10_1).toNat * 12)).off + 11, none⟩ = some (.slice A248_11 ((rd_T73 l0 x10_1).f6).length c248_11)) ∧ (Kd.R Kd.c128 31 w' w.heap.size (fun k_ => some k_ ≠ (s_.2.1 : Value).ownBlock) s_.1 t254) ∧ (Kd.R Kd.c128 31 w' w.heap.size (fun k_ => some k_ ≠ (s_.1 : Value).ownBlock) s_.2.1 t264) ∧ (w'.heap[s_.2.2.1]? = some (.cells #[.bool false, .complex .f64 0 0, .int .i64 0, .int .i64 0, .int .i64 0, .slice none 0 0, .int .i64 0] 70 (0, 0))) ∧ (w'.heap[s_.2.2.2]? = some (.cells #[.bool false, .complex .f64 0 0, .int .i64 0, .int .i64 0, .int .i64 0, .slice none 0 0, .int .i64 0] 70 (0, 0))) ∧ (w.heap.size ≤ s_.2.2.1) ∧ (w.heap.size ≤ s_.2.2.1) ∧ (s_.2.2.2 ≠ s_.2.2.1) ∧ (s_.2.2.1 ≠ s_.2.2.2) ∧ (w.heap.size ≤ s_.2.2.2) ∧ (w.heap.size ≤ s_.2.2.2) ∧ (Below w.heap.size w w')) ?_ ?_
       rotate_left
       ·
        intro hJ4_9_10_11
        refine join_ (σ := Value × Value × Nat) 3 (upT 11 3) (fun s_ => [(17, .agg #[.bool t249, .complex .f64 t250.re t250.im, .int .i64 t251, .int .i64 t252, .int .i64 t253, s_.1, .int .i64 t257]), (22, .agg #[.bool t259, .complex .f64 t260.re t260.im, .int .i64 t261, .int .i64 t262, .int .i64 t263, s_.2.1, .int .i64 t267]), (4, .pointer (some ⟨s_.2.2, 0, none⟩))]) (fun s_ w' => (w'.cell? (ad248.add ((x10_1).toNat * 12)) = some (.int .i64 ((rd_T73 l0 x10_1).f0)) ∧ w'.cell? ⟨(ad248.add ((x10_1).toNat * 12)).block, (ad248.add ((x10_1).toNat * 12)).off + 1, none⟩ = some (.float .f64 ((rd_T73 l0 x10_1).f1.f0)) ∧ w'.cell? ⟨(ad248.add ((x10_1).toNat * 12)).block, (ad248.add ((x10_1).toNat * 12)).off + 2, none⟩ = some (.float .f64 ((rd_T73 l0 x10_1).f1.f1)) ∧ w'.cell? ⟨(ad248.add ((x10_1).toNat * 12)).block, (ad248.add ((x10_1).toNat * 12)).off + 3, none⟩ = some (.int .i64 ((rd_T73 l0 x10_1).f2.f0)) ∧ w'.cell? ⟨(ad248.add ((x10_1).toNat * 12)).block, (ad248.add ((x10_1).toNat * 12)).off + 4, none⟩ = some (.int .i64 ((rd_T73 l0 x10_1).f2.f1)) ∧ w'.cell? ⟨(ad248.add ((x10_1).toNat * 12)).block, (ad248.add ((x10_1).toNat * 12)).off + 5, none⟩ = some (.int .i64 ((rd_T73 l0 x10_1).f2.f2)) ∧ w'.cell? ⟨(ad248.add ((x10_1).toNat * 12)).block, (ad248.add ((x10_1).toNat * 12)).off + 6, none⟩ = some (.int .i64 ((rd_T73 l0 x10_1).f2.f3)) ∧ w'.cell? ⟨(ad248.add ((x10_1).toNat * 12)).block, (ad248.add ((x10_1).toNat * 12)).off + 7, none⟩ = some (.int .u8 ((rd_T73 l0 x10_1).f2.f4)) ∧ w'.cell? ⟨(ad248.add ((x10_1).toNat * 12)).block, (ad248.add ((x10_1).toNat * 12)).off + 8, none⟩ = some (.int .i64 ((rd_T73 l0 x10_1).f3)) ∧ w'.cell? ⟨(ad248.add ((x10_1).toNat * 12)).block, (ad248.add ((x10_1).toNat * 12)).off + 9, none⟩ = some (.int .i64 ((rd_T73 l0 x10_1).f4)) ∧ w'.cell? ⟨(ad248.add ((x10_1).toNat * 12)).block, (ad248.add ((x10_1).toNat * 12)).off + 10, none⟩ = some (.slice A248_10 ((rd_T73 l0 x10_1).f5).length c248_10) ∧ w'.cell? ⟨(ad248.add ((x10_1).toNat * 12)).block, (ad248.add ((x10_1).toNat * 12)).off + 11, none⟩ = some (.slice A248_11 ((rd_T73 l0 x10_1).f6).length c248_11) ∧ w'.cell? (ad248.add ((x10_1).toNat * 12)) = some (.int .i64 ((rd_T73 l0 x10_1).f0)) ∧ w'.cell? ⟨(ad248.add ((x10_1).toNat * 12)).block, (ad248.add ((x10_1).toNat * 12)).off + 1, none⟩ = some (.float .f64 ((rd_T73 l0 x10_1).f1.f0)) ∧ w'.cell? ⟨(ad248.add ((x10_1).toNat * 12)).block, (ad248.add ((x10_1).toNat * 12)).off + 2, none⟩ = some (.float .f64 ((rd_T73 l0 x10_1).f1.f1)) ∧ w'.cell? ⟨(ad248.add ((x10_1).toNat * 12)).block, (ad248.add ((x10_1).toNat * 12)).off + 3, none⟩ = some (.int .i64 ((rd_T73 l0 x10_1).f2.f0)) ∧ w'.cell? ⟨(ad248.add ((x10_1).toNat * 12)).block, (ad248.add ((x10_1).toNat * 12)).off + 4, none⟩ = some (.int .i64 ((rd_T73 l0 x10_1).f2.f1)) ∧ w'.cell? ⟨(ad248.add ((x10_1).toNat * 12)).block, (ad248.add ((x10_1).toNat * 12)).off + 5, none⟩ = some (.int .i64 ((rd_T73 l0 x10_1).f2.f2)) ∧ w'.cell? ⟨(ad248.add ((x10_1).toNat * 12)).block, (ad248.add ((x10_1).toNat * 12)).off + 6, none⟩ = some (.int .i64 ((rd_T73 l0 x10_1).f2.f3)) ∧ w'.cell? ⟨(ad248.add ((x10_1).toNat * 12)).block, (ad248.add ((x10_1).toNat * 12)).off + 7, none⟩ = some (.int .u8 ((rd_T73 l0 x10_1).f2.f4)) ∧ w'.cell? ⟨(ad248.add ((x10_1).toNat * 12)).block, (ad248.add ((x10_1).toNat * 12)).off + 8, none⟩ = some (.int .i64 ((rd_T73 l0 x10_1).f3)) ∧ w'.cell? ⟨(ad248.add ((x10_1).toNat * 12)).block, (ad248.add ((x10_1).toNat * 12)).off + 9, none⟩ = some (.int .i64 ((rd_T73 l0 x10_1).f4)) ∧ w'.cell? ⟨(ad248.add ((x10_1).toNat * 12)).block, (ad248.add ((x10_1).toNat * 12)).off + 10, none⟩ = some (.slice A248_10 ((rd_T73 l0 x10_1).f5).length c248_10) ∧ w'.cell? ⟨(ad248.add ((x10_1).toNat * 12)).block, (ad248.add ((x10_1).toNat * 12)).off + 11, none⟩ = some (.slice A248_11 ((rd_T73 l0 x10_1).f6).length c248_11)) ∧ (Kd.R Kd.c128 31 w' w.heap.size (fun k_ => some k_ ≠ (s_.2.1 : Value).ownBlock) s_.1 t254) ∧ (Kd.R Kd.c128 31 w' w.heap.size (fun k_ => some k_ ≠ (s_.1 : Value).ownBlock) s_.2.1 t264) ∧ (w'.heap[s_.2.2]? = some (.cells #[.bool false, .complex .f64 0 0, .int .i64 0, .int .i64 0, .int .i64 0, .slice none 0 0, .int .i64 0] 70 (0, 0))) ∧ (w.heap.size ≤ s_.2.2) ∧ (w.heap.size ≤ s_.2.2) ∧ (Below w.heap.size w w')) ?_ ?_
        rotate_left
        ·
         intro hJ4_9_10
         refine join_ (σ := Value × Value × Nat) 3 #[true, true, true, true, true, true, true, true, true, true, false, true, false, false] (fun s_ => [(17, .agg #[.bool t249, .complex .f64 t250.re t250.im, .int .i64 t251, .int .i64 t252, .int .i64 t253, s_.1, .int .i64 t257]), (22, .agg #[.bool t259, .complex .f64 t260.re t260.im, .int .i64 t261, .int .i64 t262, .int .i64 t263, s_.2.1, .int .i64 t267]), (5, .pointer (some ⟨s_.2.2, 0, none⟩))]) (fun s_ w' => (w'.cell? (ad248.add ((x10_1).toNat * 12)) = some (.int .i64 ((rd_T73 l0 x10_1).f0)) ∧ w'.cell? ⟨(ad248.add ((x10_1).toNat * 12)).block, (ad248.add ((x10_1).toNat * 12)).off + 1, none⟩ = some (.float .f64 ((rd_T73 l0 x10_1).f1.f0)) ∧ w'.cell? ⟨(ad248.add ((x10_1).toNat * 12)).block, (ad248.add ((x10_1).toNat * 12)).off + 2, none⟩ = some (.float .f64 ((rd_T73 l0 x10_1).f1.f1)) ∧ w'.cell? ⟨(ad248.add ((x10_1).toNat * 12)).block, (ad248.add ((x10_1).toNat * 12)).off + 3, none⟩ = some (.int .i64 ((rd_T73 l0 x10_1).f2.f0)) ∧ w'.cell? ⟨(ad248.add ((x10_1).toNat * 12)).block, (ad248.add ((x10_1).toNat * 12)).off + 4, none⟩ = some (.int .i64 ((rd_T73 l0 x10_1).f2.f1)) ∧ w'.cell? ⟨(ad248.add ((x10_1).toNat * 12)).block, (ad248.add ((x10_1).toNat * 12)).off + 5, none⟩ = some (.int .i64 ((rd_T73 l0 x10_1).f2.f2)) ∧ w'.cell? ⟨(ad248.add ((x10_1).toNat * 12)).block, (ad248.add ((x10_1).toNat * 12)).off + 6, none⟩ = some (.int .i64 ((rd_T73 l0 x10_1).f2.f3)) ∧ w'.cell? ⟨(ad248.add ((x10_1).toNat * 12)).block, (ad248.add ((x10_1).toNat * 12)).off + 7, none⟩ = some (.int .u8 ((rd_T73 l0 x10_1).f2.f4)) ∧ w'.cell? ⟨(ad248.add ((x10_1).toNat * 12)).block, (ad248.add ((x10_1).toNat * 12)).off + 8, none⟩ = some (.int .i64 ((rd_T73 l0 x10_1).f3)) ∧ w'.cell? ⟨(ad248.add ((x10_1).toNat * 12)).block, (ad248.add ((x10_1).toNat * 12)).off + 9, none⟩ = some (.int .i64 ((rd_T73 l0 x10_1).f4)) ∧ w'.cell? ⟨(ad248.add ((x10_1).toNat * 12)).block, (ad248.add ((x10_1).toNat * 12)).off + 10, none⟩ = some (.slice A248_10 ((rd_T73 l0 x10_1).f5).length c248_10) ∧ w'.cell? ⟨(ad248.add ((x10_1).toNat * 12)).block, (ad248.add ((x10_1).toNat * 12)).off + 11, none⟩ = some (.slice A248_11 ((rd_T73 l0 x10_1).f6).length c248_11) ∧ w'.cell? (ad248.add ((x10_1).toNat * 12)) = some (.int .i64 ((rd_T73 l0 x10_1).f0)) ∧ w'.cell? ⟨(ad248.add ((x10_1).toNat * 12)).block, (ad248.add ((x10_1).toNat * 12)).off + 1, none⟩ = some (.float .f64 ((rd_T73 l0 x10_1).f1.f0)) ∧ w'.cell? ⟨(ad248.add ((x10_1).toNat * 12)).block, (ad248.add ((x10_1).toNat * 12)).off + 2, none⟩ = some (.float .f64 ((rd_T73 l0 x10_1).f1.f1)) ∧ w'.cell? ⟨(ad248.add ((x10_1).toNat * 12)).block, (ad248.add ((x10_1).toNat * 12)).off + 3, none⟩ = some (.int .i64 ((rd_T73 l0 x10_1).f2.f0)) ∧ w'.cell? ⟨(ad248.add ((x10_1).toNat * 12)).block, (ad248.add ((x10_1).toNat * 12)).off + 4, none⟩ = some (.int .i64 ((rd_T73 l0 x10_1).f2.f1)) ∧ w'.cell? ⟨(ad248.add ((x10_1).toNat * 12)).block, (ad248.add ((x10_1).toNat * 12)).off + 5, none⟩ = some (.int .i64 ((rd_T73 l0 x10_1).f2.f2)) ∧ w'.cell? ⟨(ad248.add ((x10_1).toNat * 12)).block, (ad248.add ((x10_1).toNat * 12)).off + 6, none⟩ = some (.int .i64 ((rd_T73 l0 x10_1).f2.f3)) ∧ w'.cell? ⟨(ad248.add ((x10_1).toNat * 12)).block, (ad248.add ((x10_1).toNat * 12)).off + 7, none⟩ = some (.int .u8 ((rd_T73 l0 x10_1).f2.f4)) ∧ w'.cell? ⟨(ad248.add ((x10_1).toNat * 12)).block, (ad248.add ((x10_1).toNat * 12)).off + 8, none⟩ = some (.int .i64 ((rd_T73 l0 x10_1).f3)) ∧ w'.cell? ⟨(ad248.add ((x10_1).toNat * 12)).block, (ad248.add ((x10_1).toNat * 12)).off + 9, none⟩ = some (.int .i64 ((rd_T73 l0 x10_1).f4)) ∧ w'.cell? ⟨(ad248.add ((x10_1).toNat * 12)).block, (ad248.add ((x10_1).toNat * 12)).off + 10, none⟩ = some (.slice A248_10 ((rd_T73 l0 x10_1).f5).length c248_10) ∧ w'.cell? ⟨(ad248.add ((x10_1).toNat * 12)).block, (ad248.add ((x10_1).toNat * 12)).off + 11, none⟩ = some (.slice A248_11 ((rd_T73 l0 x10_1).f6).length c248_11)) ∧ (Kd.R Kd.c128 31 w' w.heap.size (fun k_ => some k_ ≠ (s_.2.1 : Value).ownBlock) s_.1 t254) ∧ (Kd.R Kd.c128 31 w' w.heap.size (fun k_ => some k_ ≠ (s_.1 : Value).ownBlock) s_.2.1 t264) ∧ (w'.heap[s_.2.2]? = some (.cells #[.bool false, .complex .f64 0 0, .int .i64 0, .int .i64 0, .int .i64 0, .slice none 0 0, .int .i64 0] 70 (0, 0))) ∧ (w.heap.size ≤ s_.2.2) ∧ (w.heap.size ≤ s_.2.2) ∧ (Below w.heap.size w w')) ?_ ?_
         rotate_left
         ·
          intro hJ4_9_11
          refine join_ (σ := Value × Nat × Nat) 3 #[true, true, true, true, true, true, true, true, true, false, true, true, false, false] (fun s_ => [(17, .agg #[.bool t249, .complex .f64 t250.re t250.im, .int .i64 t251, .int .i64 t252, .int .i64 t253, s_.1, .int .i64 t257]), (4, .pointer (some ⟨s_.2.1, 0, none⟩)), (5, .pointer (some ⟨s_.2.2, 0, none⟩))]) (fun s_ w' => (w'.cell? (ad248.add ((x10_1).toNat * 12)) = some (.int .i64 ((rd_T73 l0 x10_1).f0)) ∧ w'.cell? ⟨(ad248.add ((x10_1).toNat * 12)).block, (ad248.add ((x10_1).toNat * 12)).off + 1, none⟩ = some (.float .f64 ((rd_T73 l0 x10_1).f1.f0)) ∧ w'.cell? ⟨(ad248.add ((x10_1).toNat * 12)).block, (ad248.add ((x10_1).toNat * 12)).off + 2, none⟩ = some (.float .f64 ((rd_T73 l0 x10_1).f1.f1)) ∧ w'.cell? ⟨(ad248.add ((x10_1).toNat * 12)).block, (ad248.add ((x10_1).toNat * 12)).off + 3, none⟩ = some (.int .i64 ((rd_T73 l0 x10_1).f2.f0)) ∧ w'.cell? ⟨(ad248.add ((x10_1).toNat * 12)).block, (ad248.add ((x10_1).toNat * 12)).off + 4, none⟩ = some (.int .i64 ((rd_T73 l0 x10_1).f2.f1)) ∧ w'.cell? ⟨(ad248.add ((x10_1).toNat * 12)).block, (ad248.add ((x10_1).toNat * 12)).off + 5, none⟩ = some (.int .i64 ((rd_T73 l0 x10_1).f2.f2)) ∧ w'.cell? ⟨(ad248.add ((x10_1).toNat * 12)).block, (ad248.add ((x10_1).toNat * 12)).off + 6, none⟩ = some (.int .i64 ((rd_T73 l0 x10_1).f2.f3)) ∧ w'.cell? ⟨(ad248.add ((x10_1).toNat * 12)).block, (ad248.add ((x10_1).toNat * 12)).off + 7, none⟩ = some (.int .u8 ((rd_T73 l0 x10_1).f2.f4)) ∧ w'.cell? ⟨(ad248.add ((x10_1).toNat * 12)).block, (ad248.add ((x10_1).toNat * 12)).off + 8, none⟩ = some (.int .i64 ((rd_T73 l0 x10_1).f3)) ∧ w'.cell? ⟨(ad248.add ((x10_1).toNat * 12)).block, (ad248.add ((x10_1).toNat * 12)).off + 9, none⟩ = some (.int .i64 ((rd_T73 l0 x10_1).f4)) ∧ w'.cell? ⟨(ad248.add ((x10_1).toNat * 12)).block, (ad248.add ((x10_1).toNat * 12)).off + 10, none⟩ = some (.slice A248_10 ((rd_T73 l0 x10_1).f5).length c248_10) ∧ w'.cell? ⟨(ad248.add ((x10_1).toNat * 12)).block, (ad248.add ((x10_1).toNat * 12)).off + 11, none⟩ = some (.slice A248_11 ((rd_T73 l0 x10_1).f6).length c248_11) ∧ w'.cell? (ad248.add ((x10_1).toNat * 12)) = some (.int .i64 ((rd_T73 l0 x10_1).f0)) ∧ w'.cell? ⟨(ad248.add ((x10_1).toNat * 12)).block, (ad248.add ((x10_1).toNat * 12)).off + 1, none⟩ = some (.float .f64 ((rd_T73 l0 x10_1).f1.f0)) ∧ w'.cell? ⟨(ad248.add ((x10_1).toNat * 12)).block, (ad248.add ((x10_1).toNat * 12)).off + 2, none⟩ = some (.float .f64 ((rd_T73 l0 x10_1).f1.f1)) ∧ w'.cell? ⟨(ad248.add ((x10_1).toNat * 12)).block, (ad248.add ((x10_1).toNat * 12)).off + 3, none⟩ = some (.int .i64 ((rd_T73 l0 x10_1).f2.f0)) ∧ w'.cell? ⟨(ad248.add ((x10_1).toNat * 12)).block, (ad248.add ((x10_1).toNat * 12)).off + 4, none⟩ = some (.int .i64 ((rd_T73 l0 x10_1).f2.f1)) ∧ w'.cell? ⟨(ad248.add ((x10_1).toNat * 12)).block, (ad248.add ((x10_1).toNat * 12)).off + 5, none⟩ = some (.int .i64 ((rd_T73 l0 x10_1).f2.f2)) ∧ w'.cell? ⟨(ad248.add ((x10_1).toNat * 12)).block, (ad248.add ((x10_1).toNat * 12)).off + 6, none⟩ = some (.int .i64 ((rd_T73 l0 x10_1).f2.f3)) ∧ w'.cell? ⟨(ad248.add ((x10_1).toNat * 12)).block, (ad248.add ((x10_1).toNat * 12)).off + 7, none⟩ = some (.int .u8 ((rd_T73 l0 x10_1).f2.f4)) ∧ w'.cell? ⟨(ad248.add ((x10_1).toNat * 12)).block, (ad248.add ((x10_1).toNat * 12)).off + 8, none⟩ = some (.int .i64 ((rd_T73 l0 x10_1).f3)) ∧ w'.cell? ⟨(ad248.add ((x10_1).toNat * 12)).block, (ad248.add ((x10_1).toNat * 12)).off + 9, none⟩ = some (.int .i64 ((rd_T73 l0 x10_1).f4)) ∧ w'.cell? ⟨(ad248.add ((x10_1).toNat * 12)).block, (ad248.add ((x10_1).toNat * 12)).off + 10, none⟩ = some (.slice A248_10 ((rd_T73 l0 x10_1).f5).length c248_10) ∧ w'.cell? ⟨(ad248.add ((x10_1).toNat * 12)).block, (ad248.add ((x10_1).toNat * 12)).off + 11, none⟩ = some (.slice A248_11 ((rd_T73 l0 x10_1).f6).length c248_11)) ∧ (Kd.R Kd.c128 31 w' w.heap.size (fun _ => True) s_.1 t254) ∧ (w'.heap[s_.2.1]? = some (.cells #[.bool false, .complex .f64 0 0, .int .i64 0, .int .i64 0, .int .i64 0, .slice none 0 0, .int .i64 0] 70 (0, 0))) ∧ (w'.heap[s_.2.2]? = some (.cells #[.bool false, .complex .f64 0 0, .int .i64 0, .int .i64 0, .int .i64 0, .slice none 0 0, .int .i64 0] 70 (0, 0))) ∧ (w.heap.size ≤ s_.2.1) ∧ (w.heap.size ≤ s_.2.1) ∧ (s_.2.2 ≠ s_.2.1) ∧ (s_.2.1 ≠ s_.2.2) ∧ (w.heap.size ≤ s_.2.2) ∧ (w.heap.size ≤ s_.2.2) ∧ (Below w.heap.size w w')) ?_ ?_
          rotate_left
          ·
           intro hJ4_10_11
           refine join_ (σ := Value × Value) 4 (upT 10 4) (fun s_ => [(17, .agg #[.bool t249, .complex .f64 t250.re t250.im, .int .i64 t251, .int .i64 t252, .int .i64 t253, s_.1, .int .i64 t257]), (22, .agg #[.bool t259, .complex .f64 t260.re t260.im, .int .i64 t261, .int .i64 t262, .int .i64 t263, s_.2, .int .i64 t267])]) (fun s_ w' => (w'.cell? (ad248.add ((x10_1).toNat * 12)) = some (.int .i64 ((rd_T73 l0 x10_1).f0)) ∧ w'.cell? ⟨(ad248.add ((x10_1).toNat * 12)).block, (ad248.add ((x10_1).toNat * 12)).off + 1, none⟩ = some (.float .f64 ((rd_T73 l0 x10_1).f1.f0)) ∧ w'.cell? ⟨(ad248.add ((x10_1).toNat * 12)).block, (ad248.add ((x10_1).toNat * 12)).off + 2, none⟩ = some (.float .f64 ((rd_T73 l0 x10_1).f1.f1)) ∧ w'.cell? ⟨(ad248.add ((x10_1).toNat * 12)).block, (ad248.add ((x10_1).toNat * 12)).off + 3, none⟩ = some (.int .i64 ((rd_T73 l0 x10_1).f2.f0)) ∧ w'.cell? ⟨(ad248.add ((x10_1).toNat * 12)).block, (ad248.add ((x10_1).toNat * 12)).off + 4, none⟩ = some (.int .i64 ((rd_T73 l0 x10_1).f2.f1)) ∧ w'.cell? ⟨(ad248.add ((x10_1).toNat * 12)).block, (ad248.add ((x10_1).toNat * 12)).off + 5, none⟩ = some (.int .i64 ((rd_T73 l0 x10_1).f2.f2)) ∧ w'.cell? ⟨(ad248.add ((x10_1).toNat * 12)).block, (ad248.add ((x10_1).toNat * 12)).off + 6, none⟩ = some (.int .i64 ((rd_T73 l0 x10_1).f2.f3)) ∧ w'.cell? ⟨(ad248.add ((x10_1).toNat * 12)).block, (ad248.add ((x10_1).toNat * 12)).off + 7, none⟩ = some (.int .u8 ((rd_T73 l0 x10_1).f2.f4)) ∧ w'.cell? ⟨(ad248.add ((x10_1).toNat * 12)).block, (ad248.add ((x10_1).toNat * 12)).off + 8, none⟩ = some (.int .i64 ((rd_T73 l0 x10_1).f3)) ∧ w'.cell? ⟨(ad248.add ((x10_1).toNat * 12)).block, (ad248.add ((x10_1).toNat * 12)).off + 9, none⟩ = some (.int .i64 ((rd_T73 l0 x10_1).f4)) ∧ w'.cell? ⟨(ad248.add ((x10_1).toNat * 12)).block, (ad248.add ((x10_1).toNat * 12)).off + 10, none⟩ = some (.slice A248_10 ((rd_T73 l0 x10_1).f5).length c248_10) ∧ w'.cell? ⟨(ad248.add ((x10_1).toNat * 12)).block, (ad248.add ((x10_1).toNat * 12)).off + 11, none⟩ = some (.slice A248_11 ((rd_T73 l0 x10_1).f6).length c248_11) ∧ w'.cell? (ad248.add ((x10_1).toNat * 12)) = some (.int .i64 ((rd_T73 l0 x10_1).f0)) ∧ w'.cell? ⟨(ad248.add ((x10_1).toNat * 12)).block, (ad248.add ((x10_1).toNat * 12)).off + 1, none⟩ = some (.float .f64 ((rd_T73 l0 x10_1).f1.f0)) ∧ w'.cell? ⟨(ad248.add ((x10_1).toNat * 12)).block, (ad248.add ((x10_1).toNat * 12)).off + 2, none⟩ = some (.float .f64 ((rd_T73 l0 x10_1).f1.f1)) ∧ w'.cell? ⟨(ad248.add ((x10_1).toNat * 12)).block, (ad248.add ((x10_1).toNat * 12)).off + 3, none⟩ = some (.int .i64 ((rd_T73 l0 x10_1).f2.f0)) ∧ w'.cell? ⟨(ad248.add ((x10_1).toNat * 12)).block, (ad248.add ((x10_1).toNat * 12)).off + 4, none⟩ = some (.int .i64 ((rd_T73 l0 x10_1).f2.f1)) ∧ w'.cell? ⟨(ad248.add ((x10_1).toNat * 12)).block, (ad248.add ((x10_1).toNat * 12)).off + 5, none⟩ = some (.int .i64 ((rd_T73 l0 x10_1).f2.f2)) ∧ w'.cell? ⟨(ad248.add ((x10_1).toNat * 12)).block, (ad248.add ((x10_1).toNat * 12)).off + 6, none⟩ = some (.int .i64 ((rd_T73 l0 x10_1).f2.f3)) ∧ w'.cell? ⟨(ad248.add ((x10_1).toNat * 12)).block, (ad248.add ((x10_1).toNat * 12)).off + 7, none⟩ = some (.int .u8 ((rd_T73 l0 x10_1).f2.f4)) ∧ w'.cell? ⟨(ad248.add ((x10_1).toNat * 12)).block, (ad248.add ((x10_1).toNat * 12)).off + 8, none⟩ = some (.int .i64 ((rd_T73 l0 x10_1).f3)) ∧ w'.cell? ⟨(ad248.add ((x10_1).toNat * 12)).block, (ad248.add ((x10_1).toNat * 12)).off + 9, none⟩ = some (.int .i64 ((rd_T73 l0 x10_1).f4)) ∧ w'.cell? ⟨(ad248.add ((x10_1).toNat * 12)).block, (ad248.add ((x10_1).toNat * 12)).off + 10, none⟩ = some (.slice A248_10 ((rd_T73 l0 x10_1).f5).length c248_10) ∧ w'.cell? ⟨(ad248.add ((x10_1).toNat * 12)).block, (ad248.add ((x10_1).toNat * 12)).off + 11, none⟩ = some (.slice A248_11 ((rd_T73 l0 x10_1).f6).length c248_11)) ∧ (Kd.R Kd.c128 31 w' w.heap.size (fun k_ => some k_ ≠ (s_.2 : Value).ownBlock) s_.1 t254) ∧ (Kd.R Kd.c128 31 w' w.heap.size (fun k_ => some k_ ≠ (s_.1 : Value).ownBlock) s_.2 t264) ∧ (Below w.heap.size w w')) ?_ ?_
           rotate_left
           ·
            intro hJ4_9
            refine join_ (σ := Value × Nat) 4 #[true, true, true, true, true, true, true, true, true, false, true, false, false, false] (fun s_ => [(17, .agg #[.bool t249, .complex .f64 t250.re t250.im, .int .i64 t251, .int .i64 t252, .int .i64 t253, s_.1, .int .i64 t257]), (4, .pointer (some ⟨s_.2, 0, none⟩))]) (fun s_ w' => (w'.cell? (ad248.add ((x10_1).toNat * 12)) = some (.int .i64 ((rd_T73 l0 x10_1).f0)) ∧ w'.cell? ⟨(ad248.add ((x10_1).toNat * 12)).block, (ad248.add ((x10_1).toNat * 12)).off + 1, none⟩ = some (.float .f64 ((rd_T73 l0 x10_1).f1.f0)) ∧ w'.cell? ⟨(ad248.add ((x10_1).toNat * 12)).block, (ad248.add ((x10_1).toNat * 12)).off + 2, none⟩ = some (.float .f64 ((rd_T73 l0 x10_1).f1.f1)) ∧ w'.cell? ⟨(ad248.add ((x10_1).toNat * 12)).block, (ad248.add ((x10_1).toNat * 12)).off + 3, none⟩ = some (.int .i64 ((rd_T73 l0 x10_1).f2.f0)) ∧ w'.cell? ⟨(ad248.add ((x10_1).toNat * 12)).block, (ad248.add ((x10_1).toNat * 12)).off + 4, none⟩ = some (.int .i64 ((rd_T73 l0 x10_1).f2.f1)) ∧ w'.cell? ⟨(ad248.add ((x10_1).toNat * 12)).block, (ad248.add ((x10_1).toNat * 12)).off + 5, none⟩ = some (.int .i64 ((rd_T73 l0 x10_1).f2.f2)) ∧ w'.cell? ⟨(ad248.add ((x10_1).toNat * 12)).block, (ad248.add ((x10_1).toNat * 12)).off + 6, none⟩ = some (.int .i64 ((rd_T73 l0 x10_1).f2.f3)) ∧ w'.cell? ⟨(ad248.add ((x10_1).toNat * 12)).block, (ad248.add ((x10_1).toNat * 12)).off + 7, none⟩ = some (.int .u8 ((rd_T73 l0 x10_1).f2.f4)) ∧ w'.cell? ⟨(ad248.add ((x10_1).toNat * 12)).block, (ad248.add ((x10_1).toNat * 12)).off + 8, none⟩ = some (.int .i64 ((rd_T73 l0 x10_1).f3)) ∧ w'.cell? ⟨(ad248.add ((x10_1).toNat * 12)).block, (ad248.add ((x10_1).toNat * 12)).off + 9, none⟩ = some (.int .i64 ((rd_T73 l0 x10_1).f4)) ∧ w'.cell? ⟨(ad248.add ((x10_1).toNat * 12)).block, (ad248.add ((x10_1).toNat * 12)).off + 10, none⟩ = some (.slice A248_10 ((rd_T73 l0 x10_1).f5).length c248_10) ∧ w'.cell? ⟨(ad248.add ((x10_1).toNat * 12)).block, (ad248.add ((x10_1).toNat * 12)).off + 11, none⟩ = some (.slice A248_11 ((rd_T73 l0 x10_1).f6).length c248_11) ∧ w'.cell? (ad248.add ((x10_1).toNat * 12)) = some (.int .i64 ((rd_T73 l0 x10_1).f0)) ∧ w'.cell? ⟨(ad248.add ((x10_1).toNat * 12)).block, (ad248.add ((x10_1).toNat * 12)).off + 1, none⟩ = some (.float .f64 ((rd_T73 l0 x10_1).f1.f0)) ∧ w'.cell? ⟨(ad248.add ((x10_1).toNat * 12)).block, (ad248.add ((x10_1).toNat * 12)).off + 2, none⟩ = some (.float .f64 ((rd_T73 l0 x10_1).f1.f1)) ∧ w'.cell? ⟨(ad248.add ((x10_1).toNat * 12)).block, (ad248.add ((x10_1).toNat * 12)).off + 3, none⟩ = some (.int .i64 ((rd_T73 l0 x10_1).f2.f0)) ∧ w'.cell? ⟨(ad248.add ((x10_1).toNat * 12)).block, (ad248.add ((x10_1).toNat * 12)).off + 4, none⟩ = some (.int .i64 ((rd_T73 l0 x10_1).f2.f1)) ∧ w'.cell? ⟨(ad248.add ((x10_1).toNat * 12)).block, (ad248.add ((x10_1).toNat * 12)).off + 5, none⟩ = some (.int .i64 ((rd_T73 l0 x10_1).f2.f2)) ∧ w'.cell? ⟨(ad248.add ((x10_1).toNat * 12)).block, (ad248.add ((x10_1).toNat * 12)).off + 6, none⟩ = some (.int .i64 ((rd_T73 l0 x10_1).f2.f3)) ∧ w'.cell? ⟨(ad248.add ((x10_1).toNat * 12)).block, (ad248.add ((x10_1).toNat * 12)).off + 7, none⟩ = some (.int .u8 ((rd_T73 l0 x10_1).f2.f4)) ∧ w'.cell? ⟨(ad248.add ((x10_1).toNat * 12)).block, (ad248.add ((x10_1).toNat * 12)).off + 8, none⟩ = some (.int .i64 ((rd_T73 l0 x10_1).f3)) ∧ w'.cell? ⟨(ad248.add ((x10_1).toNat * 12)).block, (ad248.add ((x10_1).toNat * 12)).off + 9, none⟩ = some (.int .i64 ((rd_T73 l0 x10_1).f4)) ∧ w'.cell? ⟨(ad248.add ((x10_1).toNat * 12)).block, (ad248.add ((x10_1).toNat * 12)).off + 10, none⟩ = some (.slice A248_10 ((rd_T73 l0 x10_1).f5).length c248_10) ∧ w'.cell? ⟨(ad248.add ((x10_1).toNat * 12)).block, (ad248.add ((x10_1).toNat * 12)).off + 11, none⟩ = some (.slice A248_11 ((rd_T73 l0 x10_1).f6).length c248_11)) ∧ (Kd.R Kd.c128 31 w' w.heap.size (fun _ => True) s_.1 t254) ∧ (w'.heap[s_.2]? = some (.cells #[.bool false, .complex .f64 0 0, .int .i64 0, .int .i64 0, .int .i64 0, .slice none 0 0, .int .i64 0] 70 (0, 0))) ∧ (w.heap.size ≤ s_.2) ∧ (w.heap.size ≤ s_.2) ∧ (Below w.heap.size w w')) ?_ ?_
            rotate_left
            ·
             intro hJ4_10
             refine join_ (σ := Value × Nat) 4 #[true, true, true, true, true, true, true, true, true, false, false, true, false, false] (fun s_ => [(17, .agg #[.bool t249, .complex .f64 t250.re t250.im, .int .i64 t251, .int .i64 t252, .int .i64 t253, s_.1, .int .i64 t257]), (5, .pointer (some ⟨s_.2, 0, none⟩))]) (fun s_ w' => (w'.cell? (ad248.add ((x10_1).toNat * 12)) = some (.int .i64 ((rd_T73 l0 x10_1).f0)) ∧ w'.cell? ⟨(ad248.add ((x10_1).toNat * 12)).block, (ad248.add ((x10_1).toNat * 12)).off + 1, none⟩ = some (.float .f64 ((rd_T73 l0 x10_1).f1.f0)) ∧ w'.cell? ⟨(ad248.add ((x10_1).toNat * 12)).block, (ad248.add ((x10_1).toNat * 12)).off + 2, none⟩ = some (.float .f64 ((rd_T73 l0 x10_1).f1.f1)) ∧ w'.cell? ⟨(ad248.add ((x10_1).toNat * 12)).block, (ad248.add ((x10_1).toNat * 12)).off + 3, none⟩ = some (.int .i64 ((rd_T73 l0 x10_1).f2.f0)) ∧ w'.cell? ⟨(ad248.add ((x10_1).toNat * 12)).block, (ad248.add ((x10_1).toNat * 12)).off + 4, none⟩ = some (.int .i64 ((rd_T73 l0 x10_1).f2.f1)) ∧ w'.cell? ⟨(ad248.add ((x10_1).toNat * 12)).block, (ad248.add ((x10_1).toNat * 12)).off + 5, none⟩ = some (.int .i64 ((rd_T73 l0 x10_1).f2.f2)) ∧ w'.cell? ⟨(ad248.add ((x10_1).toNat * 12)).block, (ad248.add ((x10_1).toNat * 12)).off + 6, none⟩ = some (.int .i64 ((rd_T73 l0 x10_1).f2.f3)) ∧ w'.cell? ⟨(ad248.add ((x10_1).toNat * 12)).block, (ad248.add ((x10_1).toNat * 12)).off + 7, none⟩ = some (.int .u8 ((rd_T73 l0 x10_1).f2.f4)) ∧ w'.cell? ⟨(ad248.add ((x10_1).toNat * 12)).block, (ad248.add ((x10_1).toNat * 12)).off + 8, none⟩ = some (.int .i64 ((rd_T73 l0 x10_1).f3)) ∧ w'.cell? ⟨(ad248.add ((x10_1).toNat * 12)).block, (ad248.add ((x10_1).toNat * 12)).off + 9, none⟩ = some (.int .i64 ((rd_T73 l0 x10_1).f4)) ∧ w'.cell? ⟨(ad248.add ((x10_1).toNat * 12)).block, (ad248.add ((x10_1).toNat * 12)).off + 10, none⟩ = some (.slice A248_10 ((rd_T73 l0 x10_1).f5).length c248_10) ∧ w'.cell? ⟨(ad248.add ((x10_1).toNat * 12)).block, (ad248.add ((x10_1).toNat * 12)).off + 11, none⟩ = some (.slice A248_11 ((rd_T73 l0 x10_1).f6).length c248_11) ∧ w'.cell? (ad248.add ((x10_1).toNat * 12)) = some (.int .i64 ((rd_T73 l0 x10_1).f0)) ∧ w'.cell? ⟨(ad248.add ((x10_1).toNat * 12)).block, (ad248.add ((x10_1).toNat * 12)).off + 1, none⟩ = some (.float .f64 ((rd_T73 l0 x10_1).f1.f0)) ∧ w'.cell? ⟨(ad248.add ((x10_1).toNat * 12)).block, (ad248.add ((x10_1).toNat * 12)).off + 2, none⟩ = some (.float .f64 ((rd_T73 l0 x10_1).f1.f1)) ∧ w'.cell? ⟨(ad248.add ((x10_1).toNat * 12)).block, (ad248.add ((x10_1).toNat * 12)).off + 3, none⟩ = some (.int .i64 ((rd_T73 l0 x10_1).f2.f0)) ∧ w'.cell? ⟨(ad248.add ((x10_1).toNat * 12)).block, (ad248.add ((x10_1).toNat * 12)).off + 4, none⟩ = some (.int .i64 ((rd_T73 l0 x10_1).f2.f1)) ∧ w'.cell? ⟨(ad248.add ((x10_1).toNat * 12)).block, (ad248.add ((x10_1).toNat * 12)).off + 5, none⟩ = some (.int .i64 ((rd_T73 l0 x10_1).f2.f2)) ∧ w'.cell? ⟨(ad248.add ((x10_1).toNat * 12)).block, (ad248.add ((x10_1).toNat * 12)).off + 6, none⟩ = some (.int .i64 ((rd_T73 l0 x10_1).f2.f3)) ∧ w'.cell? ⟨(ad248.add ((x10_1).toNat * 12)).block, (ad248.add ((x10_1).toNat * 12)).off + 7, none⟩ = some (.int .u8 ((rd_T73 l0 x10_1).f2.f4)) ∧ w'.cell? ⟨(ad248.add ((x10_1).toNat * 12)).block, (ad248.add ((x10_1).toNat * 12)).off + 8, none⟩ = some (.int .i64 ((rd_T73 l0 x10_1).f3)) ∧ w'.cell? ⟨(ad248.add ((x10_1).toNat * 12)).block, (ad248.add ((x10_1).toNat * 12)).off + 9, none⟩ = some (.int .i64 ((rd_T73 l0 x10_1).f4)) ∧ w'.cell? ⟨(ad248.add ((x10_1).toNat * 12)).block, (ad248.add ((x10_1).toNat * 12)).off + 10, none⟩ = some (.slice A248_10 ((rd_T73 l0 x10_1).f5).length c248_10) ∧ w'.cell? ⟨(ad248.add ((x10_1).toNat * 12)).block, (ad248.add ((x10_1).toNat * 12)).off + 11, none⟩ = some (.slice A248_11 ((rd_T73 l0 x10_1).f6).length c248_11)) ∧ (Kd.R Kd.c128 31 w' w.heap.size (fun _ => True) s_.1 t254) ∧ (w'.heap[s_.2]? = some (.cells #[.bool false, .complex .f64 0 0, .int .i64 0, .int .i64 0, .int .i64 0, .slice none 0 0, .int .i64 0] 70 (0, 0))) ∧ (w.heap.size ≤ s_.2) ∧ (w.heap.size ≤ s_.2) ∧ (Below w.heap.size w w')) ?_ ?_
             rotate_left
             ·
              intro hJ4_11
              refine join_ (σ := Nat × Nat) 4 #[true, true, true, true, false, true, true, true, true, false, true, true, false, false] (fun s_ => [(4, .pointer (some ⟨s_.1, 0, none⟩)), (5, .pointer (some ⟨s_.2, 0, none⟩))]) (fun s_ w' => (w'.cell? (ad248.add ((x10_1).toNat * 12)) = some (.int .i64 ((rd_T73 l0 x10_1).f0)) ∧ w'.cell? ⟨(ad248.add ((x10_1).toNat * 12)).block, (ad248.add ((x10_1).toNat * 12)).off + 1, none⟩ = some (.float .f64 ((rd_T73 l0 x10_1).f1.f0)) ∧ w'.cell? ⟨(ad248.add ((x10_1).toNat * 12)).block, (ad248.add ((x10_1).toNat * 12)).off + 2, none⟩ = some (.float .f64 ((rd_T73 l0 x10_1).f1.f1)) ∧ w'.cell? ⟨(ad248.add ((x10_1).toNat * 12)).block, (ad248.add ((x10_1).toNat * 12)).off + 3, none⟩ = some (.int .i64 ((rd_T73 l0 x10_1).f2.f0)) ∧ w'.cell? ⟨(ad248.add ((x10_1).toNat * 12)).block, (ad248.add ((x10_1).toNat * 12)).off + 4, none⟩ = some (.int .i64 ((rd_T73 l0 x10_1).f2.f1)) ∧ w'.cell? ⟨(ad248.add ((x10_1).toNat * 12)).block, (ad248.add ((x10_1).toNat * 12)).off + 5, none⟩ = some (.int .i64 ((rd_T73 l0 x10_1).f2.f2)) ∧ w'.cell? ⟨(ad248.add ((x10_1).toNat * 12)).block, (ad248.add ((x10_1).toNat * 12)).off + 6, none⟩ = some (.int .i64 ((rd_T73 l0 x10_1).f2.f3)) ∧ w'.cell? ⟨(ad248.add ((x10_1).toNat * 12)).block, (ad248.add ((x10_1).toNat * 12)).off + 7, none⟩ = some (.int .u8 ((rd_T73 l0 x10_1).f2.f4)) ∧ w'.cell? ⟨(ad248.add ((x10_1).toNat * 12)).block, (ad248.add ((x10_1).toNat * 12)).off + 8, none⟩ = some (.int .i64 ((rd_T73 l0 x10_1).f3)) ∧ w'.cell? ⟨(ad248.add ((x10_1).toNat * 12)).block, (ad248.add ((x10_1).toNat * 12)).off + 9, none⟩ = some (.int .i64 ((rd_T73 l0 x10_1).f4)) ∧ w'.cell? ⟨(ad248.add ((x10_1).toNat * 12)).block, (ad248.add ((x10_1).toNat * 12)).off + 10, none⟩ = some (.slice A248_10 ((rd_T73 l0 x10_1).f5).length c248_10) ∧ w'.cell? ⟨(ad248.add ((x10_1).toNat * 12)).block, (ad248.add ((x10_1).toNat * 12)).off + 11, none⟩ = some (.slice A248_11 ((rd_T73 l0 x10_1).f6).length c248_11) ∧ w'.cell? (ad248.add ((x10_1).toNat * 12)) = some (.int .i64 ((rd_T73 l0 x10_1).f0)) ∧ w'.cell? ⟨(ad248.add ((x10_1).toNat * 12)).block, (ad248.add ((x10_1).toNat * 12)).off + 1, none⟩ = some (.float .f64 ((rd_T73 l0 x10_1).f1.f0)) ∧ w'.cell? ⟨(ad248.add ((x10_1).toNat * 12)).block, (ad248.add ((x10_1).toNat * 12)).off + 2, none⟩ = some (.float .f64 ((rd_T73 l0 x10_1).f1.f1)) ∧ w'.cell? ⟨(ad248.add ((x10_1).toNat * 12)).block, (ad248.add ((x10_1).toNat * 12)).off + 3, none⟩ = some (.int .i64 ((rd_T73 l0 x10_1).f2.f0)) ∧ w'.cell? ⟨(ad248.add ((x10_1).toNat * 12)).block, (ad248.add ((x10_1).toNat * 12)).off + 4, none⟩ = some (.int .i64 ((rd_T73 l0 x10_1).f2.f1)) ∧ w'.cell? ⟨(ad248.add ((x10_1).toNat * 12)).block, (ad248.add ((x10_1).toNat * 12)).off + 5, none⟩ = some (.int .i64 ((rd_T73 l0 x10_1).f2.f2)) ∧ w'.cell? ⟨(ad248.add ((x10_1).toNat * 12)).block, (ad248.add ((x10_1).toNat * 12)).off + 6, none⟩ = some (.int .i64 ((rd_T73 l0 x10_1).f2.f3)) ∧ w'.cell? ⟨(ad248.add ((x10_1).toNat * 12)).block, (ad248.add ((x10_1).toNat * 12)).off + 7, none⟩ = some (.int .u8 ((rd_T73 l0 x10_1).f2.f4)) ∧ w'.cell? ⟨(ad248.add ((x10_1).toNat * 12)).block, (ad248.add ((x10_1).toNat * 12)).off + 8, none⟩ = some (.int .i64 ((rd_T73 l0 x10_1).f3)) ∧ w'.cell? ⟨(ad248.add ((x10_1).toNat * 12)).block, (ad248.add ((x10_1).toNat * 12)).off + 9, none⟩ = some (.int .i64 ((rd_T73 l0 x10_1).f4)) ∧ w'.cell? ⟨(ad248.add ((x10_1).toNat * 12)).block, (ad248.add ((x10_1).toNat * 12)).off + 10, none⟩ = some (.slice A248_10 ((rd_T73 l0 x10_1).f5).length c248_10) ∧ w'.cell? ⟨(ad248.add ((x10_1).toNat * 12)).block, (ad248.add ((x10_1).toNat * 12)).off + 11, none⟩ = some (.slice A248_11 ((rd_T73 l0 x10_1).f6).length c248_11)) ∧ (w'.heap[s_.1]? = some (.cells #[.bool false, .complex .f64 0 0, .int .i64 0, .int .i64 0, .int .i64 0, .slice none 0 0, .int .i64 0] 70 (0, 0))) ∧ (w'.heap[s_.2]? = some (.cells #[.bool false, .complex .f64 0 0, .int .i64 0, .int .i64 0, .int .i64 0, .slice none 0 0, .int .i64 0] 70 (0, 0))) ∧ (w.heap.size ≤ s_.1) ∧ (w.heap.size ≤ s_.1) ∧ (s_.2 ≠ s_.1) ∧ (s_.1 ≠ s_.2) ∧ (w.heap.size ≤ s_.2) ∧ (w.heap.size ≤ s_.2) ∧ (Below w.heap.size w w')) ?_ ?_
              rotate_left
              ·
               intro hJ10_11
               refine join_ (σ := Value) 5 (upT 9 5) (fun s_ => [(17, .agg #[.bool t249, .complex .f64 t250.re t250.im, .int .i64 t251, .int .i64 t252, .int .i64 t253, s_, .int .i64 t257])]) (fun s_ w' => (w'.cell? (ad248.add ((x10_1).toNat * 12)) = some (.int .i64 ((rd_T73 l0 x10_1).f0)) ∧ w'.cell? ⟨(ad248.add ((x10_1).toNat * 12)).block, (ad248.add ((x10_1).toNat * 12)).off + 1, none⟩ = some (.float .f64 ((rd_T73 l0 x10_1).f1.f0)) ∧ w'.cell? ⟨(ad248.add ((x10_1).toNat * 12)).block, (ad248.add ((x10_1).toNat * 12)).off + 2, none⟩ = some (.float .f64 ((rd_T73 l0 x10_1).f1.f1)) ∧ w'.cell? ⟨(ad248.add ((x10_1).toNat * 12)).block, (ad248.add ((x10_1).toNat * 12)).off + 3, none⟩ = some (.int .i64 ((rd_T73 l0 x10_1).f2.f0)) ∧ w'.cell? ⟨(ad248.add ((x10_1).toNat * 12)).block, (ad248.add ((x10_1).toNat * 12)).off + 4, none⟩ = some (.int .i64 ((rd_T73 l0 x10_1).f2.f1)) ∧ w'.cell? ⟨(ad248.add ((x10_1).toNat * 12)).block, (ad248.add ((x10_1).toNat * 12)).off + 5, none⟩ = some (.int .i64 ((rd_T73 l0 x10_1).f2.f2)) ∧ w'.cell? ⟨(ad248.add ((x10_1).toNat * 12)).block, (ad248.add ((x10_1).toNat * 12)).off + 6, none⟩ = some (.int .i64 ((rd_T73 l0 x10_1).f2.f3)) ∧ w'.cell? ⟨(ad248.add ((x10_1).toNat * 12)).block, (ad248.add ((x10_1).toNat * 12)).off + 7, none⟩ = some (.int .u8 ((rd_T73 l0 x10_1).f2.f4)) ∧ w'.cell? ⟨(ad248.add ((x10_1).toNat * 12)).block, (ad248.add ((x10_1).toNat * 12)).off + 8, none⟩ = some (.int .i64 ((rd_T73 l0 x10_1).f3)) ∧ w'.cell? ⟨(ad248.add ((x10_1).toNat * 12)).block, (ad248.add ((x10_1).toNat * 12)).off + 9, none⟩ = some (.int .i64 ((rd_T73 l0 x10_1).f4)) ∧ w'.cell? ⟨(ad248.add ((x10_1).toNat * 12)).block, (ad248.add ((x10_1).toNat * 12)).off + 10, none⟩ = some (.slice A248_10 ((rd_T73 l0 x10_1).f5).length c248_10) ∧ w'.cell? ⟨(ad248.add ((x10_1).toNat * 12)).block, (ad248.add ((x10_1).toNat * 12)).off + 11, none⟩ = some (.slice A248_11 ((rd_T73 l0 x10_1).f6).length c248_11) ∧ w'.cell? (ad248.add ((x10_1).toNat * 12)) = some (.int .i64 ((rd_T73 l0 x10_1).f0)) ∧ w'.cell? ⟨(ad248.add ((x10_1).toNat * 12)).block, (ad248.add ((x10_1).toNat * 12)).off + 1, none⟩ = some (.float .f64 ((rd_T73 l0 x10_1).f1.f0)) ∧ w'.cell? ⟨(ad248.add ((x10_1).toNat * 12)).block, (ad248.add ((x10_1).toNat * 12)).off + 2, none⟩ = some (.float .f64 ((rd_T73 l0 x10_1).f1.f1)) ∧ w'.cell? ⟨(ad248.add ((x10_1).toNat * 12)).block, (ad248.add ((x10_1).toNat * 12)).off + 3, none⟩ = some (.int .i64 ((rd_T73 l0 x10_1).f2.f0)) ∧ w'.cell? ⟨(ad248.add ((x10_1).toNat * 12)).block, (ad248.add ((x10_1).toNat * 12)).off + 4, none⟩ = some (.int .i64 ((rd_T73 l0 x10_1).f2.f1)) ∧ w'.cell? ⟨(ad248.add ((x10_1).toNat * 12)).block, (ad248.add ((x10_1).toNat * 12)).off + 5, none⟩ = some (.int .i64 ((rd_T73 l0 x10_1).f2.f2)) ∧ w'.cell? ⟨(ad248.add ((x10_1).toNat * 12)).block, (ad248.add ((x10_1).toNat * 12)).off + 6, none⟩ = some (.int .i64 ((rd_T73 l0 x10_1).f2.f3)) ∧ w'.cell? ⟨(ad248.add ((x10_1).toNat * 12)).block, (ad248.add ((x10_1).toNat * 12)).off + 7, none⟩ = some (.int .u8 ((rd_T73 l0 x10_1).f2.f4)) ∧ w'.cell? ⟨(ad248.add ((x10_1).toNat * 12)).block, (ad248.add ((x10_1).toNat * 12)).off + 8, none⟩ = some (.int .i64 ((rd_T73 l0 x10_1).f3)) ∧ w'.cell? ⟨(ad248.add ((x10_1).toNat * 12)).block, (ad248.add ((x10_1).toNat * 12)).off + 9, none⟩ = some (.int .i64 ((rd_T73 l0 x10_1).f4)) ∧ w'.cell? ⟨(ad248.add ((x10_1).toNat * 12)).block, (ad248.add ((x10_1).toNat * 12)).off + 10, none⟩ = some (.slice A248_10 ((rd_T73 l0 x10_1).f5).length c248_10) ∧ w'.cell? ⟨(ad248.add ((x10_1).toNat * 12)).block, (ad248.add ((x10_1).toNat * 12)).off + 11, none⟩ = some (.slice A248_11 ((rd_T73 l0 x10_1).f6).length c248_11)) ∧ (Kd.R Kd.c128 31 w' w.heap.size (fun _ => True) s_ t254) ∧ (Below w.heap.size w w')) ?_ ?_
               rotate_left
               ·
                intro hJ4
                refine join_ (σ := Nat) 5 #[true, true, true, true, false, true, true, true, true, false, true, false, false, false] (fun s_ => [(4, .pointer (some ⟨s_, 0, none⟩))]) (fun s_ w' => (w'.cell? (ad248.add ((x10_1).toNat * 12)) = some (.int .i64 ((rd_T73 l0 x10_1).f0)) ∧ w'.cell? ⟨(ad248.add ((x10_1).toNat * 12)).block, (ad248.add ((x10_1).toNat * 12)).off + 1, none⟩ = some (.float .f64 ((rd_T73 l0 x10_1).f1.f0)) ∧ w'.cell? ⟨(ad248.add ((x10_1).toNat * 12)).block, (ad248.add ((x10_1).toNat * 12)).off + 2, none⟩ = some (.float .f64 ((rd_T73 l0 x10_1).f1.f1)) ∧ w'.cell? ⟨(ad248.add ((x10_1).toNat * 12)).block, (ad248.add ((x10_1).toNat * 12)).off + 3, none⟩ = some (.int .i64 ((rd_T73 l0 x10_1).f2.f0)) ∧ w'.cell? ⟨(ad248.add ((x10_1).toNat * 12)).block, (ad248.add ((x10_1).toNat * 12)).off + 4, none⟩ = some (.int .i64 ((rd_T73 l0 x10_1).f2.f1)) ∧ w'.cell? ⟨(ad248.add ((x10_1).toNat * 12)).block, (ad248.add ((x10_1).toNat * 12)).off + 5, none⟩ = some (.int .i64 ((rd_T73 l0 x10_1).f2.f2)) ∧ w'.cell? ⟨(ad248.add ((x10_1).toNat * 12)).block, (ad248.add ((x10_1).toNat * 12)).off + 6, none⟩ = some (.int .i64 ((rd_T73 l0 x10_1).f2.f3)) ∧ w'.cell? ⟨(ad248.add ((x10_1).toNat * 12)).block, (ad248.add ((x10_1).toNat * 12)).off + 7, none⟩ = some (.int .u8 ((rd_T73 l0 x10_1).f2.f4)) ∧ w'.cell? ⟨(ad248.add ((x10_1).toNat * 12)).block, (ad248.add ((x10_1).toNat * 12)).off + 8, none⟩ = some (.int .i64 ((rd_T73 l0 x10_1).f3)) ∧ w'.cell? ⟨(ad248.add ((x10_1).toNat * 12)).block, (ad248.add ((x10_1).toNat * 12)).off + 9, none⟩ = some (.int .i64 ((rd_T73 l0 x10_1).f4)) ∧ w'.cell? ⟨(ad248.add ((x10_1).toNat * 12)).block, (ad248.add ((x10_1).toNat * 12)).off + 10, none⟩ = some (.slice A248_10 ((rd_T73 l0 x10_1).f5).length c248_10) ∧ w'.cell? ⟨(ad248.add ((x10_1).toNat * 12)).block, (ad248.add ((x10_1).toNat * 12)).off + 11, none⟩ = some (.slice A248_11 ((rd_T73 l0 x10_1).f6).length c248_11) ∧ w'.cell? (ad248.add ((x10_1).toNat * 12)) = some (.int .i64 ((rd_T73 l0 x10_1).f0)) ∧ w'.cell? ⟨(ad248.add ((x10_1).toNat * 12)).block, (ad248.add ((x10_1).toNat * 12)).off + 1, none⟩ = some (.float .f64 ((rd_T73 l0 x10_1).f1.f0)) ∧ w'.cell? ⟨(ad248.add ((x10_1).toNat * 12)).block, (ad248.add ((x10_1).toNat * 12)).off + 2, none⟩ = some (.float .f64 ((rd_T73 l0 x10_1).f1.f1)) ∧ w'.cell? ⟨(ad248.add ((x10_1).toNat * 12)).block, (ad248.add ((x10_1).toNat * 12)).off + 3, none⟩ = some (.int .i64 ((rd_T73 l0 x10_1).f2.f0)) ∧ w'.cell? ⟨(ad248.add ((x10_1).toNat * 12)).block, (ad248.add ((x10_1).toNat * 12)).off + 4, none⟩ = some (.int .i64 ((rd_T73 l0 x10_1).f2.f1)) ∧ w'.cell? ⟨(ad248.add ((x10_1).toNat * 12)).block, (ad248.add ((x10_1).toNat * 12)).off + 5, none⟩ = some (.int .i64 ((rd_T73 l0 x10_1).f2.f2)) ∧ w'.cell? ⟨(ad248.add ((x10_1).toNat * 12)).block, (ad248.add ((x10_1).toNat * 12)).off + 6, none⟩ = some (.int .i64 ((rd_T73 l0 x10_1).f2.f3)) ∧ w'.cell? ⟨(ad248.add ((x10_1).toNat * 12)).block, (ad248.add ((x10_1).toNat * 12)).off + 7, none⟩ = some (.int .u8 ((rd_T73 l0 x10_1).f2.f4)) ∧ w'.cell? ⟨(ad248.add ((x10_1).toNat * 12)).block, (ad248.add ((x10_1).toNat * 12)).off + 8, none⟩ = some (.int .i64 ((rd_T73 l0 x10_1).f3)) ∧ w'.cell? ⟨(ad248.add ((x10_1).toNat * 12)).block, (ad248.add ((x10_1).toNat * 12)).off + 9, none⟩ = some (.int .i64 ((rd_T73 l0 x10_1).f4)) ∧ w'.cell? ⟨(ad248.add ((x10_1).toNat * 12)).block, (ad248.add ((x10_1).toNat * 12)).off + 10, none⟩ = some (.slice A248_10 ((rd_T73 l0 x10_1).f5).length c248_10) ∧ w'.cell? ⟨(ad248.add ((x10_1).toNat * 12)).block, (ad248.add ((x10_1).toNat * 12)).off + 11, none⟩ = some (.slice A248_11 ((rd_T73 l0 x10_1).f6).length c248_11)) ∧ (w'.heap[s_]? = some (.cells #[.bool false, .complex .f64 0 0, .int .i64 0, .int .i64 0, .int .i64 0, .slice none 0 0, .int .i64 0] 70 (0, 0))) ∧ (w.heap.size ≤ s_) ∧ (w.heap.size ≤ s_) ∧ (Below w.heap.size w w')) ?_ ?_
                rotate_left
                ·
                 intro hJ10
                 refine join_ (σ := Nat) 5 #[true, true, true, true, false, true, true, true, true, false, false, true, false, false] (fun s_ => [(5, .pointer (some ⟨s_, 0, none⟩))]) (fun s_ w' => (w'.cell? (ad248.add ((x10_1).toNat * 12)) = some (.int .i64 ((rd_T73 l0 x10_1).f0)) ∧ w'.cell? ⟨(ad248.add ((x10_1).toNat * 12)).block, (ad248.add ((x10_1).toNat * 12)).off + 1, none⟩ = some (.float .f64 ((rd_T73 l0 x10_1).f1.f0)) ∧ w'.cell? ⟨(ad248.add ((x10_1).toNat * 12)).block, (ad248.add ((x10_1).toNat * 12)).off + 2, none⟩ = some (.float .f64 ((rd_T73 l0 x10_1).f1.f1)) ∧ w'.cell? ⟨(ad248.add ((x10_1).toNat * 12)).block, (ad248.add ((x10_1).toNat * 12)).off + 3, none⟩ = some (.int .i64 ((rd_T73 l0 x10_1).f2.f0)) ∧ w'.cell? ⟨(ad248.add ((x10_1).toNat * 12)).block, (ad248.add ((x10_1).toNat * 12)).off + 4, none⟩ = some (.int .i64 ((rd_T73 l0 x10_1).f2.f1)) ∧ w'.cell? ⟨(ad248.add ((x10_1).toNat * 12)).block, (ad248.add ((x10_1).toNat * 12)).off + 5, none⟩ = some (.int .i64 ((rd_T73 l0 x10_1).f2.f2)) ∧ w'.cell? ⟨(ad248.add ((x10_1).toNat * 12)).block, (ad248.add ((x10_1).toNat * 12)).off + 6, none⟩ = some (.int .i64 ((rd_T73 l0 x10_1).f2.f3)) ∧ w'.cell? ⟨(ad248.add ((x10_1).toNat * 12)).block, (ad248.add ((x10_1).toNat * 12)).off + 7, none⟩ = some (.int .u8 ((rd_T73 l0 x10_1).f2.f4)) ∧ w'.cell? ⟨(ad248.add ((x10_1).toNat * 12)).block, (ad248.add ((x10_1).toNat * 12)).off + 8, none⟩ = some (.int .i64 ((rd_T73 l0 x10_1).f3)) ∧ w'.cell? ⟨(ad248.add ((x10_1).toNat * 12)).block, (ad248.add ((x10_1).toNat * 12)).off + 9, none⟩ = some (.int .i64 ((rd_T73 l0 x10_1).f4)) ∧ w'.cell? ⟨(ad248.add ((x10_1).toNat * 12)).block, (ad248.add ((x10_1).toNat * 12)).off + 10, none⟩ = some (.slice A248_10 ((rd_T73 l0 x10_1).f5).length c248_10) ∧ w'.cell? ⟨(ad248.add ((x10_1).toNat * 12)).block, (ad248.add ((x10_1).toNat * 12)).off + 11, none⟩ = some (.slice A248_11 ((rd_T73 l0 x10_1).f6).length c248_11) ∧ w'.cell? (ad248.add ((x10_1).toNat * 12)) = some (.int .i64 ((rd_T73 l0 x10_1).f0)) ∧ w'.cell? ⟨(ad248.add ((x10_1).toNat * 12)).block, (ad248.add ((x10_1).toNat * 12)).off + 1, none⟩ = some (.float .f64 ((rd_T73 l0 x10_1).f1.f0)) ∧ w'.cell? ⟨(ad248.add ((x10_1).toNat * 12)).block, (ad248.add ((x10_1).toNat * 12)).off + 2, none⟩ = some (.float .f64 ((rd_T73 l0 x10_1).f1.f1)) ∧ w'.cell? ⟨(ad248.add ((x10_1).toNat * 12)).block, (ad248.add ((x10_1).toNat * 12)).off + 3, none⟩ = some (.int .i64 ((rd_T73 l0 x10_1).f2.f0)) ∧ w'.cell? ⟨(ad248.add ((x10_1).toNat * 12)).block, (ad248.add ((x10_1).toNat * 12)).off + 4, none⟩ = some (.int .i64 ((rd_T73 l0 x10_1).f2.f1)) ∧ w'.cell? ⟨(ad248.add ((x10_1).toNat * 12)).block, (ad248.add ((x10_1).toNat * 12)).off + 5, none⟩ = some (.int .i64 ((rd_T73 l0 x10_1).f2.f2)) ∧ w'.cell? ⟨(ad248.add ((x10_1).toNat * 12)).block, (ad248.add ((x10_1).toNat * 12)).off + 6, none⟩ = some (.int .i64 ((rd_T73 l0 x10_1).f2.f3)) ∧ w'.cell? ⟨(ad248.add ((x10_1).toNat * 12)).block, (ad248.add ((x10_1).toNat * 12)).off + 7, none⟩ = some (.int .u8 ((rd_T73 l0 x10_1).f2.f4)) ∧ w'.cell? ⟨(ad248.add ((x10_1).toNat * 12)).block, (ad248.add ((x10_1).toNat * 12)).off + 8, none⟩ = some (.int .i64 ((rd_T73 l0 x10_1).f3)) ∧ w'.cell? ⟨(ad248.add ((x10_1).toNat * 12)).block, (ad248.add ((x10_1).toNat * 12)).off + 9, none⟩ = some (.int .i64 ((rd_T73 l0 x10_1).f4)) ∧ w'.cell? ⟨(ad248.add ((x10_1).toNat * 12)).block, (ad248.add ((x10_1).toNat * 12)).off + 10, none⟩ = some (.slice A248_10 ((rd_T73 l0 x10_1).f5).length c248_10) ∧ w'.cell? ⟨(ad248.add ((x10_1).toNat * 12)).block, (ad248.add ((x10_1).toNat * 12)).off + 11, none⟩ = some (.slice A248_11 ((rd_T73 l0 x10_1).f6).length c248_11)) ∧ (w'.heap[s_]? = some (.cells #[.bool false, .complex .f64 0 0, .int .i64 0, .int .i64 0, .int .i64 0, .slice none 0 0, .int .i64 0] 70 (0, 0))) ∧ (w.heap.size ≤ s_) ∧ (w.heap.size ≤ s_) ∧ (Below w.heap.size w w')) ?_ ?_
                 rotate_left
                 ·
                  intro hJ11
                  refine three_ (i := 4) (j := 10) (k := 11) (Ni := some 17) (Nj := some 4) (Nk := some 5) (upT 9 5) #[true, true, true, true, false, true, true, true, true, false, true, false, false, false] #[true, true, true, true, false, true, true, true, true, false, false, true, false, false] rfl rfl rfl rfl rfl rfl (three_of HT_.out (by kernel_rfl)) (by decide) (by decide) (by decide) (fun K hK => ?_) (fun K hK => ?_) (fun K hK => ?_)
                  ·
                   skip
                   refine goes_ Try.func40 (by kernel_rfl) rfl #[.agg #[.int .i64 ((rd_T73 l0 x10_1).f0), .float .f64 ((rd_T73 l0 x10_1).f1.f0), .float .f64 ((rd_T73 l0 x10_1).f1.f1), .int .i64 ((rd_T73 l0 x10_1).f2.f0), .int .i64 ((rd_T73 l0 x10_1).f2.f1), .int .i64 ((rd_T73 l0 x10_1).f2.f2), .int .i64 ((rd_T73 l0 x10_1).f2.f3), .int .u8 ((rd_T73 l0 x10_1).f2.f4), .int .i64 ((rd_T73 l0 x10_1).f3), .int .i64 ((rd_T73 l0 x10_1).f4), .slice A248_10 ((rd_T73 l0 x10_1).f5).length c248_10, .slice A248_11 ((rd_T73 l0 x10_1).f6).length c248_11]] (by rfl) rfl rfl (by (try simp only [List.map_toArray, List.map_cons, List.map_nil]); first | done | rfl | (simp only [List.length_drop, List.length_take]; rfl)) ?_
                   with_reducible refine (pylonlaw12_plays.calls k1 ((rd_T73 l0 x10_1).f0) ((rd_T73 l0 x10_1).f1.f0) ((rd_T73 l0 x10_1).f1.f1) ((rd_T73 l0 x10_1).f2.f0) ((rd_T73 l0 x10_1).f2.f1) ((rd_T73 l0 x10_1).f2.f2) ((rd_T73 l0 x10_1).f2.f3) ((rd_T73 l0 x10_1).f2.f4) ((rd_T73 l0 x10_1).f3) ((rd_T73 l0 x10_1).f4) _ _ ((rd_T73 l0 x10_1).f5) _ _ ((rd_T73 l0 x10_1).f6) t249 t250 t251 t252 t253 t254 t257 _ ?side1 ?side2 ?side3 ?side4 A8.out).mono ?_
                   (case side1 => repeat (first | exact (Kd.C_below HR248_10.out HB.out) | (with_reducible refine Kd.C_alloc ?_ _) | (with_reducible refine Kd.C_drewN ?_ _) | (with_reducible refine Kd.C_drew ?_)))
                   (case side2 => exact HC248_10.out)
                   (case side3 => repeat (first | exact (Kd.C_below HR248_11.out HB.out) | (with_reducible refine Kd.C_alloc ?_ _) | (with_reducible refine Kd.C_drewN ?_ _) | (with_reducible refine Kd.C_drew ?_)))
                   (case side4 => exact HC248_11.out)
                   rintro e w12 ⟨v255, rfl, ho0, hb⟩
                   refine ⟨_, rfl, ?_⟩
                   have n0_ := Aside0.mk (Kd.R_lower ho0 (below_size (by repeat (first | (with_reducible first | exact HB.out | apply lA_ | apply lN_ | apply l1_) | exact HB.out))))
                   have n1_ := Aside0.mk (below_step (by repeat (first | (with_reducible first | exact HB.out | apply lA_ | apply lN_ | apply l1_) | exact HB.out)) hb)
                   clear HB
                   have HO256 := n0_
                   have HB := n1_
                   clear n0_ n1_
                   (try clear hb)
                   (try clear hb2)
                   (try clear hk)
                   (try clear hi)
                   (try clear ho0)
                   refine hK.out _ _ ⟨(bc_ HB hw248_0), (bc_ HB hw248_1), (bc_ HB hw248_2), (bc_ HB hw248_3), (bc_ HB hw248_4), (bc_ HB hw248_5), (bc_ HB hw248_6), (bc_ HB hw248_7), (bc_ HB hw248_8), (bc_ HB hw248_9), (bc_ HB hw248_10), (bc_ HB hw248_11), (bc_ HB hw258_0), (bc_ HB hw258_1), (bc_ HB hw258_2), (bc_ HB hw258_3), (bc_ HB hw258_4), (bc_ HB hw258_5), (bc_ HB hw258_6), (bc_ HB hw258_7), (bc_ HB hw258_8), (bc_ HB hw258_9), (bc_ HB hw258_10), (bc_ HB hw258_11)⟩ (fun hHeld => ?_)
                   clear hK K
                   refine norm_ (a' := ?_) ?_ ?_
                   rotate_left
                   ·
                    show Act.put _ (some 17) _ = _
                    simp only [putS]
                    rfl
                   exact norm_ (by first | (simp only [putAll, Act.put, List.setIfInBounds_toArray, List.set_cons_zero, List.set_cons_succ]; done) | (simp only [putAll, Act.put, List.setIfInBounds_toArray, List.set_cons_zero, List.set_cons_succ]; rfl)) (hJ4 (v255) _ ⟨hHeld, (by (with_reducible repeat (first | apply Kd.R_alloc | apply Kd.R_drewN | apply Kd.R_drew)); exact HO256.out), (by repeat (first | (with_reducible first | exact HB.out | apply lA_ | apply lN_ | apply l1_) | exact HB.out))⟩)
                  ·
                   skip
                   refine box_step ?hg (N := 4) ?hd (cs := #[.bool false, .complex .f64 0 0, .int .i64 0, .int .i64 0, .int .i64 0, .slice none 0 0, .int .i64 0]) (t := 70) ?hr ?_; (case hd => rfl); (case hg => rfl); (case hr => first | (go_simp; done) | (go_simp; rfl))
                   intro gb268 hg w12 hbox hb
                   have n0_ := Aside0.mk (below_step (by repeat (first | (with_reducible first | exact HB.out | apply lA_ | apply lN_ | apply l1_) | exact HB.out)) hb)
                   have n1_ := Aside0.mk (hbox)
                   have n2_ := Aside0.mk ((by rw [hg]; exact (below_size (by repeat (first | (with_reducible first | exact HB.out | apply lA_ | apply lN_ | apply l1_) | exact HB.out))) : w.heap.size ≤ gb268))
                   have n3_ := Aside0.mk ((by rw [hg]; exact (below_size (by repeat (first | (with_reducible first | exact HB.out | apply lA_ | apply lN_ | apply l1_) | exact HB.out))) : w.heap.size ≤ gb268))
                   clear HB
                   have HB := n0_
                   have BK268 := n1_
                   have GW268 := n2_
                   have GE268 := n3_
                   clear n0_ n1_ n2_ n3_
                   clear hb hbox hg
                   refine hK.out _ _ ⟨(bc_ HB hw248_0), (bc_ HB hw248_1), (bc_ HB hw248_2), (bc_ HB hw248_3), (bc_ HB hw248_4), (bc_ HB hw248_5), (bc_ HB hw248_6), (bc_ HB hw248_7), (bc_ HB hw248_8), (bc_ HB hw248_9), (bc_ HB hw248_10), (bc_ HB hw248_11), (bc_ HB hw258_0), (bc_ HB hw258_1), (bc_ HB hw258_2), (bc_ HB hw258_3), (bc_ HB hw258_4), (bc_ HB hw258_5), (bc_ HB hw258_6), (bc_ HB hw258_7), (bc_ HB hw258_8), (bc_ HB hw258_9), (bc_ HB hw258_10), (bc_ HB hw258_11)⟩ (fun hHeld => ?_)
                   clear hK K
                   refine norm_ (a' := ?_) ?_ ?_
                   rotate_left
                   ·
                    show Act.put _ (some 4) _ = _
                    simp only [putS]
                    rfl
                   exact norm_ (by first | (simp only [putAll, Act.put, List.setIfInBounds_toArray, List.set_cons_zero, List.set_cons_succ]; done) | (simp only [putAll, Act.put, List.setIfInBounds_toArray, List.set_cons_zero, List.set_cons_succ]; rfl)) (hJ10 (gb268) _ ⟨hHeld, (by (with_reducible repeat (first | refine bN_ ?_ _ | refine bD_ ?_ | refine bA_ ?_ _)); exact BK268.out), GW268.out, GE268.out, (by repeat (first | (with_reducible first | exact HB.out | apply lA_ | apply lN_ | apply l1_ | refine lS_ ?_ GE268.out) | exact HB.out))⟩)
                  ·
                   skip
                   refine box_step ?hg (N := 5) ?hd (cs := #[.bool false, .complex .f64 0 0, .int .i64 0, .int .i64 0, .int .i64 0, .slice none 0 0, .int .i64 0]) (t := 70) ?hr ?_; (case hd => rfl); (case hg => rfl); (case hr => first | (go_simp; done) | (go_simp; rfl))
                   intro gb269 hg w12 hbox hb
                   have n0_ := Aside0.mk (below_step (by repeat (first | (with_reducible first | exact HB.out | apply lA_ | apply lN_ | apply l1_) | exact HB.out)) hb)
                   have n1_ := Aside0.mk (hbox)
                   have n2_ := Aside0.mk ((by rw [hg]; exact (below_size (by repeat (first | (with_reducible first | exact HB.out | apply lA_ | apply lN_ | apply l1_) | exact HB.out))) : w.heap.size ≤ gb269))
                   have n3_ := Aside0.mk ((by rw [hg]; exact (below_size (by repeat (first | (with_reducible first | exact HB.out | apply lA_ | apply lN_ | apply l1_) | exact HB.out))) : w.heap.size ≤ gb269))
                   clear HB
                   have HB := n0_
                   have BK269 := n1_
                   have GW269 := n2_
                   have GE269 := n3_
                   clear n0_ n1_ n2_ n3_
                   clear hb hbox hg
                   refine hK.out _ _ ⟨(bc_ HB hw248_0), (bc_ HB hw248_1), (bc_ HB hw248_2), (bc_ HB hw248_3), (bc_ HB hw248_4), (bc_ HB hw248_5), (bc_ HB hw248_6), (bc_ HB hw248_7), (bc_ HB hw248_8), (bc_ HB hw248_9), (bc_ HB hw248_10), (bc_ HB hw248_11), (bc_ HB hw258_0), (bc_ HB hw258_1), (bc_ HB hw258_2), (bc_ HB hw258_3), (bc_ HB hw258_4), (bc_ HB hw258_5), (bc_ HB hw258_6), (bc_ HB hw258_7), (bc_ HB hw258_8), (bc_ HB hw258_9), (bc_ HB hw258_10), (bc_ HB hw258_11)⟩ (fun hHeld => ?_)
                   clear hK K
                   refine norm_ (a' := ?_) ?_ ?_
                   rotate_left
                   ·
                    show Act.put _ (some 5) _ = _
                    simp only [putS]
                    rfl
                   exact norm_ (by first | (simp only [putAll, Act.put, List.setIfInBounds_toArray, List.set_cons_zero, List.set_cons_succ]; done) | (simp only [putAll, Act.put, List.setIfInBounds_toArray, List.set_cons_zero, List.set_cons_succ]; rfl)) (hJ11 (gb269) _ ⟨hHeld, (by (with_reducible repeat (first | refine bN_ ?_ _ | refine bD_ ?_ | refine bA_ ?_ _)); exact BK269.out), GW269.out, GE269.out, (by repeat (first | (with_reducible first | exact HB.out | apply lA_ | apply lN_ | apply l1_ | refine lS_ ?_ GE269.out) | exact HB.out))⟩)
                 ·
                  skip
                  rintro gb269 w13 ⟨hS_, h0_, h1_, h2_, h3_⟩
                  have n0_ : Aside0 (w13.heap[gb269]? = some (.cells #[.bool false, .complex .f64 0 0, .int .i64 0, .int .i64 0, .int .i64 0, .slice none 0 0, .int .i64 0] 70 (0, 0))) := ⟨h0_⟩
                  have n1_ : Aside0 (w.heap.size ≤ gb269) := ⟨h1_⟩
                  have n2_ : Aside0 (w.heap.size ≤ gb269) := ⟨h2_⟩
                  have n3_ : Aside0 (Below w.heap.size w w13) := ⟨h3_⟩
                  clear HB
                  clear h0_ h1_ h2_ h3_
                  have BK269 := n0_
                  have GW269 := n1_
                  have GE269 := n2_
                  have HB := n3_
                  clear n0_ n1_ n2_ n3_
                  have hHeld := hS_
                  refine norm_ (a' := ?_) ?_ ?_
                  rotate_left
                  ·
                   simp only [putAll, Act.put, List.setIfInBounds_toArray, List.set_cons_zero, List.set_cons_succ]
                   rfl
                  refine two_ (i := 4) (j := 10) (Ni := some 17) (Nj := some 4) #[true, true, true, true, true, true, true, true, true, false, false, true, false, false] #[true, true, true, true, false, true, true, true, true, false, true, true, false, false] rfl rfl rfl rfl (two_of HT_.out (by kernel_rfl)) (by decide) (by decide) (fun K hK => ?_) (fun K hK => ?_)
                  ·
                   skip
                   refine goes_ Try.func40 (by kernel_rfl) rfl #[.agg #[.int .i64 ((rd_T73 l0 x10_1).f0), .float .f64 ((rd_T73 l0 x10_1).f1.f0), .float .f64 ((rd_T73 l0 x10_1).f1.f1), .int .i64 ((rd_T73 l0 x10_1).f2.f0), .int .i64 ((rd_T73 l0 x10_1).f2.f1), .int .i64 ((rd_T73 l0 x10_1).f2.f2), .int .i64 ((rd_T73 l0 x10_1).f2.f3), .int .u8 ((rd_T73 l0 x10_1).f2.f4), .int .i64 ((rd_T73 l0 x10_1).f3), .int .i64 ((rd_T73 l0 x10_1).f4), .slice A248_10 ((rd_T73 l0 x10_1).f5).length c248_10, .slice A248_11 ((rd_T73 l0 x10_1).f6).length c248_11]] (by rfl) rfl rfl (by (try simp only [List.map_toArray, List.map_cons, List.map_nil]); first | done | rfl | (simp only [List.length_drop, List.length_take]; rfl)) ?_
                   with_reducible refine (pylonlaw12_plays.calls k1 ((rd_T73 l0 x10_1).f0) ((rd_T73 l0 x10_1).f1.f0) ((rd_T73 l0 x10_1).f1.f1) ((rd_T73 l0 x10_1).f2.f0) ((rd_T73 l0 x10_1).f2.f1) ((rd_T73 l0 x10_1).f2.f2) ((rd_T73 l0 x10_1).f2.f3) ((rd_T73 l0 x10_1).f2.f4) ((rd_T73 l0 x10_1).f3) ((rd_T73 l0 x10_1).f4) _ _ ((rd_T73 l0 x10_1).f5) _ _ ((rd_T73 l0 x10_1).f6) t249 t250 t251 t252 t253 t254 t257 _ ?side1 ?side2 ?side3 ?side4 A8.out).mono ?_
                   (case side1 => repeat (first | exact (Kd.C_below HR248_10.out HB.out) | (with_reducible refine Kd.C_alloc ?_ _) | (with_reducible refine Kd.C_drewN ?_ _) | (with_reducible refine Kd.C_drew ?_)))
                   (case side2 => exact HC248_10.out)
                   (case side3 => repeat (first | exact (Kd.C_below HR248_11.out HB.out) | (with_reducible refine Kd.C_alloc ?_ _) | (with_reducible refine Kd.C_drewN ?_ _) | (with_reducible refine Kd.C_drew ?_)))
                   (case side4 => exact HC248_11.out)
                   rintro e w14 ⟨v255, rfl, ho0, hb⟩
                   refine ⟨_, rfl, ?_⟩
                   have n0_ := Aside0.mk (Kd.R_lower ho0 (below_size (by repeat (first | (with_reducible first | exact HB.out | apply lA_ | apply lN_ | apply l1_ | refine lS_ ?_ GE269.out) | exact HB.out))))
                   have n1_ := Aside0.mk (bB_ (g := gb269) (o := .cells #[.bool false, .complex .f64 0 0, .int .i64 0, .int .i64 0, .int .i64 0, .slice none 0 0, .int .i64 0] 70 (0, 0)) (by (with_reducible repeat (first | refine bN_ ?_ _ | refine bD_ ?_ | refine bA_ ?_ _)); exact BK269.out) hb)
                   have n2_ := Aside0.mk (below_step (by repeat (first | (with_reducible first | exact HB.out | apply lA_ | apply lN_ | apply l1_ | refine lS_ ?_ GE269.out) | exact HB.out)) hb)
                   clear BK269
                   clear HB
                   have HO256 := n0_
                   have BK269 := n1_
                   have HB := n2_
                   clear n0_ n1_ n2_
                   (try clear hb)
                   (try clear hb2)
                   (try clear hk)
                   (try clear hi)
                   (try clear ho0)
                   refine hK.out _ _ ⟨(bc_ HB hw248_0), (bc_ HB hw248_1), (bc_ HB hw248_2), (bc_ HB hw248_3), (bc_ HB hw248_4), (bc_ HB hw248_5), (bc_ HB hw248_6), (bc_ HB hw248_7), (bc_ HB hw248_8), (bc_ HB hw248_9), (bc_ HB hw248_10), (bc_ HB hw248_11), (bc_ HB hw258_0), (bc_ HB hw258_1), (bc_ HB hw258_2), (bc_ HB hw258_3), (bc_ HB hw258_4), (bc_ HB hw258_5), (bc_ HB hw258_6), (bc_ HB hw258_7), (bc_ HB hw258_8), (bc_ HB hw258_9), (bc_ HB hw258_10), (bc_ HB hw258_11)⟩ (fun hHeld => ?_)
                   clear hK K
                   refine norm_ (a' := ?_) ?_ ?_
                   rotate_left
                   ·
                    show Act.put _ (some 17) _ = _
                    simp only [putS]
                    rfl
                   exact norm_ (by first | (simp only [putAll, Act.put, List.setIfInBounds_toArray, List.set_cons_zero, List.set_cons_succ]; done) | (simp only [putAll, Act.put, List.setIfInBounds_toArray, List.set_cons_zero, List.set_cons_succ]; rfl)) (hJ4_11 (v255, gb269) _ ⟨hHeld, (by (with_reducible repeat (first | apply Kd.R_alloc | apply Kd.R_drewN | apply Kd.R_drew)); exact HO256.out), (by (with_reducible repeat (first | refine bN_ ?_ _ | refine bD_ ?_ | refine bA_ ?_ _)); exact BK269.out), GW269.out, GE269.out, (by repeat (first | (with_reducible first | exact HB.out | apply lA_ | apply lN_ | apply l1_ | refine lS_ ?_ GE269.out) | exact HB.out))⟩)
                  ·
                   skip
                   refine box_step ?hg (N := 4) ?hd (cs := #[.bool false, .complex .f64 0 0, .int .i64 0, .int .i64 0, .int .i64 0, .slice none 0 0, .int .i64 0]) (t := 70) ?hr ?_; (case hd => rfl); (case hg => rfl); (case hr => first | (go_simp; done) | (go_simp; rfl))
                   intro gb268 hg w14 hbox hb
                   have n0_ := Aside0.mk (bB_ (g := gb269) (o := .cells #[.bool false, .complex .f64 0 0, .int .i64 0, .int .i64 0, .int .i64 0, .slice none 0 0, .int .i64 0] 70 (0, 0)) (by (with_reducible repeat (first | refine bN_ ?_ _ | refine bD_ ?_ | refine bA_ ?_ _)); exact BK269.out) hb)
                   have n1_ := Aside0.mk (below_step (by repeat (first | (with_reducible first | exact HB.out | apply lA_ | apply lN_ | apply l1_ | refine lS_ ?_ GE269.out) | exact HB.out)) hb)
                   have n2_ := Aside0.mk (hbox)
                   have n3_ := Aside0.mk ((by rw [hg]; exact (below_size (by repeat (first | (with_reducible first | exact HB.out | apply lA_ | apply lN_ | apply l1_ | refine lS_ ?_ GE269.out) | exact HB.out))) : w.heap.size ≤ gb268))
                   have n4_ := Aside0.mk ((by rw [hg]; exact (below_size (by repeat (first | (with_reducible first | exact HB.out | apply lA_ | apply lN_ | apply l1_ | refine lS_ ?_ GE269.out) | exact HB.out))) : w.heap.size ≤ gb268))
                   have n5_ := Aside0.mk ((by rw [hg]; exact Nat.ne_of_lt (blk_lt (g := gb269) (o := .cells #[.bool false, .complex .f64 0 0, .int .i64 0, .int .i64 0, .int .i64 0, .slice none 0 0, .int .i64 0] 70 (0, 0)) (by (with_reducible repeat (first | refine bN_ ?_ _ | refine bD_ ?_ | refine bA_ ?_ _)); exact BK269.out)) : gb269 ≠ gb268))
                   have n6_ := Aside0.mk ((by rw [hg]; exact Nat.ne_of_gt (blk_lt (g := gb269) (o := .cells #[.bool false, .complex .f64 0 0, .int .i64 0, .int .i64 0, .int .i64 0, .slice none 0 0, .int .i64 0] 70 (0, 0)) (by (with_reducible repeat (first | refine bN_ ?_ _ | refine bD_ ?_ | refine bA_ ?_ _)); exact BK269.out)) : gb268 ≠ gb269))
                   clear BK269
                   clear HB
                   have BK269 := n0_
                   have HB := n1_
                   have BK268 := n2_
                   have GW268 := n3_
                   have GE268 := n4_
                   have NB269_268 := n5_
                   have NB268_269 := n6_
                   clear n0_ n1_ n2_ n3_ n4_ n5_ n6_
                   clear hb hbox hg
                   refine hK.out _ _ ⟨(bc_ HB hw248_0), (bc_ HB hw248_1), (bc_ HB hw248_2), (bc_ HB hw248_3), (bc_ HB hw248_4), (bc_ HB hw248_5), (bc_ HB hw248_6), (bc_ HB hw248_7), (bc_ HB hw248_8), (bc_ HB hw248_9), (bc_ HB hw248_10), (bc_ HB hw248_11), (bc_ HB hw258_0), (bc_ HB hw258_1), (bc_ HB hw258_2), (bc_ HB hw258_3), (bc_ HB hw258_4), (bc_ HB hw258_5), (bc_ HB hw258_6), (bc_ HB hw258_7), (bc_ HB hw258_8), (bc_ HB hw258_9), (bc_ HB hw258_10), (bc_ HB hw258_11)⟩ (fun hHeld => ?_)
                   clear hK K
                   refine norm_ (a' := ?_) ?_ ?_
                   rotate_left
                   ·
                    show Act.put _ (some 4) _ = _
                    simp only [putS]
                    rfl
                   exact norm_ (by first | (simp only [putAll, Act.put, List.setIfInBounds_toArray, List.set_cons_zero, List.set_cons_succ]; done) | (simp only [putAll, Act.put, List.setIfInBounds_toArray, List.set_cons_zero, List.set_cons_succ]; rfl)) (hJ10_11 (gb268, gb269) _ ⟨hHeld, (by (with_reducible repeat (first | refine bN_ ?_ _ | refine bD_ ?_ | refine bA_ ?_ _)); exact BK268.out), (by (with_reducible repeat (first | refine bN_ ?_ _ | refine bD_ ?_ | refine bA_ ?_ _)); exact BK269.out), GW268.out, GE268.out, NB269_268.out, NB268_269.out, GW269.out, GE269.out, (by repeat (first | (with_reducible first | exact HB.out | apply lA_ | apply lN_ | apply l1_ | refine lS_ ?_ GE269.out | refine lS_ ?_ GE268.out) | exact HB.out))⟩)
                ·
                 skip
                 rintro gb268 w13 ⟨hS_, h0_, h1_, h2_, h3_⟩
                 have n0_ : Aside0 (w13.heap[gb268]? = some (.cells #[.bool false, .complex .f64 0 0, .int .i64 0, .int .i64 0, .int .i64 0, .slice none 0 0, .int .i64 0] 70 (0, 0))) := ⟨h0_⟩
                 have n1_ : Aside0 (w.heap.size ≤ gb268) := ⟨h1_⟩
                 have n2_ : Aside0 (w.heap.size ≤ gb268) := ⟨h2_⟩
                 have n3_ : Aside0 (Below w.heap.size w w13) := ⟨h3_⟩
                 clear HB
                 clear h0_ h1_ h2_ h3_
                 have BK268 := n0_
                 have GW268 := n1_
                 have GE268 := n2_
                 have HB := n3_
                 clear n0_ n1_ n2_ n3_
                 have hHeld := hS_
                 refine norm_ (a' := ?_) ?_ ?_
                 rotate_left
                 ·
                  simp only [putAll, Act.put, List.setIfInBounds_toArray, List.set_cons_zero, List.set_cons_succ]
                  rfl
                 refine two_ (i := 4) (j := 11) (Ni := some 17) (Nj := some 5) #[true, true, true, true, true, true, true, true, true, false, true, false, false, false] #[true, true, true, true, false, true, true, true, true, false, true, true, false, false] rfl rfl rfl rfl (two_of HT_.out (by kernel_rfl)) (by decide) (by decide) (fun K hK => ?_) (fun K hK => ?_)
                 ·
                  skip
                  refine goes_ Try.func40 (by kernel_rfl) rfl #[.agg #[.int .i64 ((rd_T73 l0 x10_1).f0), .float .f64 ((rd_T73 l0 x10_1).f1.f0), .float .f64 ((rd_T73 l0 x10_1).f1.f1), .int .i64 ((rd_T73 l0 x10_1).f2.f0), .int .i64 ((rd_T73 l0 x10_1).f2.f1), .int .i64 ((rd_T73 l0 x10_1).f2.f2), .int .i64 ((rd_T73 l0 x10_1).f2.f3), .int .u8 ((rd_T73 l0 x10_1).f2.f4), .int .i64 ((rd_T73 l0 x10_1).f3), .int .i64 ((rd_T73 l0 x10_1).f4), .slice A248_10 ((rd_T73 l0 x10_1).f5).length c248_10, .slice A248_11 ((rd_T73 l0 x10_1).f6).length c248_11]] (by rfl) rfl rfl (by (try simp only [List.map_toArray, List.map_cons, List.map_nil]); first | done | rfl | (simp only [List.length_drop, List.length_take]; rfl)) ?_
                  with_reducible refine (pylonlaw12_plays.calls k1 ((rd_T73 l0 x10_1).f0) ((rd_T73 l0 x10_1).f1.f0) ((rd_T73 l0 x10_1).f1.f1) ((rd_T73 l0 x10_1).f2.f0) ((rd_T73 l0 x10_1).f2.f1) ((rd_T73 l0 x10_1).f2.f2) ((rd_T73 l0 x10_1).f2.f3) ((rd_T73 l0 x10_1).f2.f4) ((rd_T73 l0 x10_1).f3) ((rd_T73 l0 x10_1).f4) _ _ ((rd_T73 l0 x10_1).f5) _ _ ((rd_T73 l0 x10_1).f6) t249 t250 t251 t252 t253 t254 t257 _ ?side1 ?side2 ?side3 ?side4 A8.out).mono ?_
                  (case side1 => repeat (first | exact (Kd.C_below HR248_10.out HB.out) | (with_reducible refine Kd.C_alloc ?_ _) | (with_reducible refine Kd.C_drewN ?_ _) | (with_reducible refine Kd.C_drew ?_)))
                  (case side2 => exact HC248_10.out)
                  (case side3 => repeat (first | exact (Kd.C_below HR248_11.out HB.out) | (with_reducible refine Kd.C_alloc ?_ _) | (with_reducible refine Kd.C_drewN ?_ _) | (with_reducible refine Kd.C_drew ?_)))
                  (case side4 => exact HC248_11.out)
                  rintro e w14 ⟨v255, rfl, ho0, hb⟩
                  refine ⟨_, rfl, ?_⟩
                  have n0_ := Aside0.mk (Kd.R_lower ho0 (below_size (by repeat (first | (with_reducible first | exact HB.out | apply lA_ | apply lN_ | apply l1_ | refine lS_ ?_ GE268.out) | exact HB.out))))
                  have n1_ := Aside0.mk (bB_ (g := gb268) (o := .cells #[.bool false, .complex .f64 0 0, .int .i64 0, .int .i64 0, .int .i64 0, .slice none 0 0, .int .i64 0] 70 (0, 0)) (by (with_reducible repeat (first | refine bN_ ?_ _ | refine bD_ ?_ | refine bA_ ?_ _)); exact BK268.out) hb)
                  have n2_ := Aside0.mk (below_step (by repeat (first | (with_reducible first | exact HB.out | apply lA_ | apply lN_ | apply l1_ | refine lS_ ?_ GE268.out) | exact HB.out)) hb)
                  clear BK268
                  clear HB
                  have HO256 := n0_
                  have BK268 := n1_
                  have HB := n2_
                  clear n0_ n1_ n2_
                  (try clear hb)
                  (try clear hb2)
                  (try clear hk)
                  (try clear hi)
                  (try clear ho0)
                  refine hK.out _ _ ⟨(bc_ HB hw248_0), (bc_ HB hw248_1), (bc_ HB hw248_2), (bc_ HB hw248_3), (bc_ HB hw248_4), (bc_ HB hw248_5), (bc_ HB hw248_6), (bc_ HB hw248_7), (bc_ HB hw248_8), (bc_ HB hw248_9), (bc_ HB hw248_10), (bc_ HB hw248_11), (bc_ HB hw258_0), (bc_ HB hw258_1), (bc_ HB hw258_2), (bc_ HB hw258_3), (bc_ HB hw258_4), (bc_ HB hw258_5), (bc_ HB hw258_6), (bc_ HB hw258_7), (bc_ HB hw258_8), (bc_ HB hw258_9), (bc_ HB hw258_10), (bc_ HB hw258_11)⟩ (fun hHeld => ?_)
                  clear hK K
                  refine norm_ (a' := ?_) ?_ ?_
                  rotate_left
                  ·
                   show Act.put _ (some 17) _ = _
                   simp only [putS]
                   rfl
                  exact norm_ (by first | (simp only [putAll, Act.put, List.setIfInBounds_toArray, List.set_cons_zero, List.set_cons_succ]; done) | (simp only [putAll, Act.put, List.setIfInBounds_toArray, List.set_cons_zero, List.set_cons_succ]; rfl)) (hJ4_10 (v255, gb268) _ ⟨hHeld, (by (with_reducible repeat (first | apply Kd.R_alloc | apply Kd.R_drewN | apply Kd.R_drew)); exact HO256.out), (by (with_reducible repeat (first | refine bN_ ?_ _ | refine bD_ ?_ | refine bA_ ?_ _)); exact BK268.out), GW268.out, GE268.out, (by repeat (first | (with_reducible first | exact HB.out | apply lA_ | apply lN_ | apply l1_ | refine lS_ ?_ GE268.out) | exact HB.out))⟩)
                 ·
                  skip
                  refine box_step ?hg (N := 5) ?hd (cs := #[.bool false, .complex .f64 0 0, .int .i64 0, .int .i64 0, .int .i64 0, .slice none 0 0, .int .i64 0]) (t := 70) ?hr ?_; (case hd => rfl); (case hg => rfl); (case hr => first | (go_simp; done) | (go_simp; rfl))
                  intro gb269 hg w14 hbox hb
                  have n0_ := Aside0.mk (bB_ (g := gb268) (o := .cells #[.bool false, .complex .f64 0 0, .int .i64 0, .int .i64 0, .int .i64 0, .slice none 0 0, .int .i64 0] 70 (0, 0)) (by (with_reducible repeat (first | refine bN_ ?_ _ | refine bD_ ?_ | refine bA_ ?_ _)); exact BK268.out) hb)
                  have n1_ := Aside0.mk (below_step (by repeat (first | (with_reducible first | exact HB.out | apply lA_ | apply lN_ | apply l1_ | refine lS_ ?_ GE268.out) | exact HB.out)) hb)
                  have n2_ := Aside0.mk (hbox)
                  have n3_ := Aside0.mk ((by rw [hg]; exact (below_size (by repeat (first | (with_reducible first | exact HB.out | apply lA_ | apply lN_ | apply l1_ | refine lS_ ?_ GE268.out) | exact HB.out))) : w.heap.size ≤ gb269))
                  have n4_ := Aside0.mk ((by rw [hg]; exact (below_size (by repeat (first | (with_reducible first | exact HB.out | apply lA_ | apply lN_ | apply l1_ | refine lS_ ?_ GE268.out) | exact HB.out))) : w.heap.size ≤ gb269))
                  have n5_ := Aside0.mk ((by rw [hg]; exact Nat.ne_of_lt (blk_lt (g := gb268) (o := .cells #[.bool false, .complex .f64 0 0, .int .i64 0, .int .i64 0, .int .i64 0, .slice none 0 0, .int .i64 0] 70 (0, 0)) (by (with_reducible repeat (first | refine bN_ ?_ _ | refine bD_ ?_ | refine bA_ ?_ _)); exact BK268.out)) : gb268 ≠ gb269))
                  have n6_ := Aside0.mk ((by rw [hg]; exact Nat.ne_of_gt (blk_lt (g := gb268) (o := .cells #[.bool false, .complex .f64 0 0, .int .i64 0, .int .i64 0, .int .i64 0, .slice none 0 0, .int .i64 0] 70 (0, 0)) (by (with_reducible repeat (first | refine bN_ ?_ _ | refine bD_ ?_ | refine bA_ ?_ _)); exact BK268.out)) : gb269 ≠ gb268))
                  clear BK268
                  clear HB
                  have BK268 := n0_
                  have HB := n1_
                  have BK269 := n2_
                  have GW269 := n3_
                  have GE269 := n4_
                  have NB268_269 := n5_
                  have NB269_268 := n6_
                  clear n0_ n1_ n2_ n3_ n4_ n5_ n6_
                  clear hb hbox hg
                  refine hK.out _ _ ⟨(bc_ HB hw248_0), (bc_ HB hw248_1), (bc_ HB hw248_2), (bc_ HB hw248_3), (bc_ HB hw248_4), (bc_ HB hw248_5), (bc_ HB hw248_6), (bc_ HB hw248_7), (bc_ HB hw248_8), (bc_ HB hw248_9), (bc_ HB hw248_10), (bc_ HB hw248_11), (bc_ HB hw258_0), (bc_ HB hw258_1), (bc_ HB hw258_2), (bc_ HB hw258_3), (bc_ HB hw258_4), (bc_ HB hw258_5), (bc_ HB hw258_6), (bc_ HB hw258_7), (bc_ HB hw258_8), (bc_ HB hw258_9), (bc_ HB hw258_10), (bc_ HB hw258_11)⟩ (fun hHeld => ?_)
                  clear hK K
                  refine norm_ (a' := ?_) ?_ ?_
                  rotate_left
                  ·
                   show Act.put _ (some 5) _ = _
                   simp only [putS]
                   rfl
                  exact norm_ (by first | (simp only [putAll, Act.put, List.setIfInBounds_toArray, List.set_cons_zero, List.set_cons_succ]; done) | (simp only [putAll, Act.put, List.setIfInBounds_toArray, List.set_cons_zero, List.set_cons_succ]; rfl)) (hJ10_11 (gb268, gb269) _ ⟨hHeld, (by (with_reducible repeat (first | refine bN_ ?_ _ | refine bD_ ?_ | refine bA_ ?_ _)); exact BK268.out), (by (with_reducible repeat (first | refine bN_ ?_ _ | refine bD_ ?_ | refine bA_ ?_ _)); exact BK269.out), GW268.out, GE268.out, NB269_268.out, NB268_269.out, GW269.out, GE269.out, (by repeat (first | (with_reducible first | exact HB.out | apply lA_ | apply lN_ | apply l1_ | refine lS_ ?_ GE268.out | refine lS_ ?_ GE269.out) | exact HB.out))⟩)
               ·
                skip
                rintro v255 w13 ⟨hS_, h0_, h1_⟩
                have n0_ : Aside0 (Kd.R Kd.c128 31 w13 w.heap.size (fun _ => True) v255 t254) := ⟨h0_⟩
                have n1_ : Aside0 (Below w.heap.size w w13) := ⟨h1_⟩
                clear HB
                clear h0_ h1_
                have HO256 := n0_
                have HB := n1_
                clear n0_ n1_
                have hHeld := hS_
                refine norm_ (a' := ?_) ?_ ?_
                rotate_left
                ·
                 simp only [putAll, Act.put, List.setIfInBounds_toArray, List.set_cons_zero, List.set_cons_succ]
                 rfl
                refine three_ (i := 9) (j := 10) (k := 11) (Ni := some 22) (Nj := some 4) (Nk := some 5) (upT 10 4) #[true, true, true, true, true, true, true, true, true, false, true, false, false, false] #[true, true, true, true, true, true, true, true, true, false, false, true, false, false] rfl rfl rfl rfl rfl rfl (three_of HT_.out (by kernel_rfl)) (by decide) (by decide) (by decide) (fun K hK => ?_) (fun K hK => ?_) (fun K hK => ?_)
                ·
                 skip
                 refine goes_ Try.func41 (by kernel_rfl) rfl #[.agg #[.int .i64 ((rd_T73 l0 x10_1).f0), .float .f64 ((rd_T73 l0 x10_1).f1.f0), .float .f64 ((rd_T73 l0 x10_1).f1.f1), .int .i64 ((rd_T73 l0 x10_1).f2.f0), .int .i64 ((rd_T73 l0 x10_1).f2.f1), .int .i64 ((rd_T73 l0 x10_1).f2.f2), .int .i64 ((rd_T73 l0 x10_1).f2.f3), .int .u8 ((rd_T73 l0 x10_1).f2.f4), .int .i64 ((rd_T73 l0 x10_1).f3), .int .i64 ((rd_T73 l0 x10_1).f4), .slice A248_10 ((rd_T73 l0 x10_1).f5).length c248_10, .slice A248_11 ((rd_T73 l0 x10_1).f6).length c248_11]] (by rfl) rfl rfl (by (try simp only [List.map_toArray, List.map_cons, List.map_nil]); first | done | rfl | (simp only [List.length_drop, List.length_take]; rfl)) ?_
                 with_reducible refine (pylonlaw12_wants.calls k1 ((rd_T73 l0 x10_1).f0) ((rd_T73 l0 x10_1).f1.f0) ((rd_T73 l0 x10_1).f1.f1) ((rd_T73 l0 x10_1).f2.f0) ((rd_T73 l0 x10_1).f2.f1) ((rd_T73 l0 x10_1).f2.f2) ((rd_T73 l0 x10_1).f2.f3) ((rd_T73 l0 x10_1).f2.f4) ((rd_T73 l0 x10_1).f3) ((rd_T73 l0 x10_1).f4) _ _ ((rd_T73 l0 x10_1).f5) _ _ ((rd_T73 l0 x10_1).f6) t259 t260 t261 t262 t263 t264 t267 _ ?side1 ?side2 ?side3 ?side4 A9.out).mono ?_
                 (case side1 => repeat (first | exact (Kd.C_below HR258_10.out HB.out) | (with_reducible refine Kd.C_alloc ?_ _) | (with_reducible refine Kd.C_drewN ?_ _) | (with_reducible refine Kd.C_drew ?_)))
                 (case side2 => exact HC258_10.out)
                 (case side3 => repeat (first | exact (Kd.C_below HR258_11.out HB.out) | (with_reducible refine Kd.C_alloc ?_ _) | (with_reducible refine Kd.C_drewN ?_ _) | (with_reducible refine Kd.C_drew ?_)))
                 (case side4 => exact HC258_11.out)
                 rintro e w14 ⟨v265, rfl, ho0, hb⟩
                 refine ⟨_, rfl, ?_⟩
                 have n0_ := Aside0.mk (Kd.R_elder' (by (with_reducible repeat (first | apply Kd.R_alloc | apply Kd.R_drewN | apply Kd.R_drew)); exact HO256.out) (Kd.R_base ho0) hb)
                 have n1_ := Aside0.mk (Kd.R_lower (Kd.R_new' ho0 (Kd.R_lt (by (with_reducible repeat (first | apply Kd.R_alloc | apply Kd.R_drewN | apply Kd.R_drew)); exact HO256.out))) (below_size (by repeat (first | (with_reducible first | exact HB.out | apply lA_ | apply lN_ | apply l1_) | exact HB.out))))
                 have n2_ := Aside0.mk (below_step (by repeat (first | (with_reducible first | exact HB.out | apply lA_ | apply lN_ | apply l1_) | exact HB.out)) hb)
                 clear HO256
                 clear HB
                 have HO256 := n0_
                 have HO266 := n1_
                 have HB := n2_
                 clear n0_ n1_ n2_
                 (try clear hb)
                 (try clear hb2)
                 (try clear hk)
                 (try clear hi)
                 (try clear ho0)
                 refine hK.out _ _ ⟨(bc_ HB hw248_0), (bc_ HB hw248_1), (bc_ HB hw248_2), (bc_ HB hw248_3), (bc_ HB hw248_4), (bc_ HB hw248_5), (bc_ HB hw248_6), (bc_ HB hw248_7), (bc_ HB hw248_8), (bc_ HB hw248_9), (bc_ HB hw248_10), (bc_ HB hw248_11), (bc_ HB hw258_0), (bc_ HB hw258_1), (bc_ HB hw258_2), (bc_ HB hw258_3), (bc_ HB hw258_4), (bc_ HB hw258_5), (bc_ HB hw258_6), (bc_ HB hw258_7), (bc_ HB hw258_8), (bc_ HB hw258_9), (bc_ HB hw258_10), (bc_ HB hw258_11)⟩ (fun hHeld => ?_)
                 clear hK K
                 refine norm_ (a' := ?_) ?_ ?_
                 rotate_left
                 ·
                  show Act.put _ (some 22) _ = _
                  simp only [putS]
                  rfl
                 exact norm_ (by first | (simp only [putAll, Act.put, List.setIfInBounds_toArray, List.set_cons_zero, List.set_cons_succ]; done) | (simp only [putAll, Act.put, List.setIfInBounds_toArray, List.set_cons_zero, List.set_cons_succ]; rfl)) (hJ4_9 (v255, v265) _ ⟨hHeld, (by (with_reducible repeat (first | apply Kd.R_alloc | apply Kd.R_drewN | apply Kd.R_drew)); exact Kd.R_mono HO256.out (fun _ hk => hk.2)), (by (with_reducible repeat (first | apply Kd.R_alloc | apply Kd.R_drewN | apply Kd.R_drew)); exact Kd.R_mono HO266.out (fun _ hk => hk.2)), (by repeat (first | (with_reducible first | exact HB.out | apply lA_ | apply lN_ | apply l1_) | exact HB.out))⟩)
                ·
                 skip
                 refine box_step ?hg (N := 4) ?hd (cs := #[.bool false, .complex .f64 0 0, .int .i64 0, .int .i64 0, .int .i64 0, .slice none 0 0, .int .i64 0]) (t := 70) ?hr ?_; (case hd => rfl); (case hg => rfl); (case hr => first | (go_simp; done) | (go_simp; rfl))
                 intro gb268 hg w14 hbox hb
                 have n0_ := Aside0.mk (Kd.R_below (by (with_reducible repeat (first | apply Kd.R_alloc | apply Kd.R_drewN | apply Kd.R_drew)); exact HO256.out) hb)
                 have n1_ := Aside0.mk (below_step (by repeat (first | (with_reducible first | exact HB.out | apply lA_ | apply lN_ | apply l1_) | exact HB.out)) hb)
                 have n2_ := Aside0.mk (hbox)
                 have n3_ := Aside0.mk ((by rw [hg]; exact (below_size (by repeat (first | (with_reducible first | exact HB.out | apply lA_ | apply lN_ | apply l1_) | exact HB.out))) : w.heap.size ≤ gb268))
                 have n4_ := Aside0.mk ((by rw [hg]; exact (below_size (by repeat (first | (with_reducible first | exact HB.out | apply lA_ | apply lN_ | apply l1_) | exact HB.out))) : w.heap.size ≤ gb268))
                 clear HO256
                 clear HB
                 have HO256 := n0_
                 have HB := n1_
                 have BK268 := n2_
                 have GW268 := n3_
                 have GE268 := n4_
                 clear n0_ n1_ n2_ n3_ n4_
                 clear hb hbox hg
                 refine hK.out _ _ ⟨(bc_ HB hw248_0), (bc_ HB hw248_1), (bc_ HB hw248_2), (bc_ HB hw248_3), (bc_ HB hw248_4), (bc_ HB hw248_5), (bc_ HB hw248_6), (bc_ HB hw248_7), (bc_ HB hw248_8), (bc_ HB hw248_9), (bc_ HB hw248_10), (bc_ HB hw248_11), (bc_ HB hw258_0), (bc_ HB hw258_1), (bc_ HB hw258_2), (bc_ HB hw258_3), (bc_ HB hw258_4), (bc_ HB hw258_5), (bc_ HB hw258_6), (bc_ HB hw258_7), (bc_ HB hw258_8), (bc_ HB hw258_9), (bc_ HB hw258_10), (bc_ HB hw258_11)⟩ (fun hHeld => ?_)
                 clear hK K
                 refine norm_ (a' := ?_) ?_ ?_
                 rotate_left
                 ·
                  show Act.put _ (some 4) _ = _
                  simp only [putS]
                  rfl
                 exact norm_ (by first | (simp only [putAll, Act.put, List.setIfInBounds_toArray, List.set_cons_zero, List.set_cons_succ]; done) | (simp only [putAll, Act.put, List.setIfInBounds_toArray, List.set_cons_zero, List.set_cons_succ]; rfl)) (hJ4_10 (v255, gb268) _ ⟨hHeld, (by (with_reducible repeat (first | apply Kd.R_alloc | apply Kd.R_drewN | apply Kd.R_drew)); exact HO256.out), (by (with_reducible repeat (first | refine bN_ ?_ _ | refine bD_ ?_ | refine bA_ ?_ _)); exact BK268.out), GW268.out, GE268.out, (by repeat (first | (with_reducible first | exact HB.out | apply lA_ | apply lN_ | apply l1_ | refine lS_ ?_ GE268.out) | exact HB.out))⟩)
                ·
                 skip
                 refine box_step ?hg (N := 5) ?hd (cs := #[.bool false, .complex .f64 0 0, .int .i64 0, .int .i64 0, .int .i64 0, .slice none 0 0, .int .i64 0]) (t := 70) ?hr ?_; (case hd => rfl); (case hg => rfl); (case hr => first | (go_simp; done) | (go_simp; rfl))
                 intro gb269 hg w14 hbox hb
                 have n0_ := Aside0.mk (Kd.R_below (by (with_reducible repeat (first | apply Kd.R_alloc | apply Kd.R_drewN | apply Kd.R_drew)); exact HO256.out) hb)
                 have n1_ := Aside0.mk (below_step (by repeat (first | (with_reducible first | exact HB.out | apply lA_ | apply lN_ | apply l1_) | exact HB.out)) hb)
                 have n2_ := Aside0.mk (hbox)
                 have n3_ := Aside0.mk ((by rw [hg]; exact (below_size (by repeat (first | (with_reducible first | exact HB.out | apply lA_ | apply lN_ | apply l1_) | exact HB.out))) : w.heap.size ≤ gb269))
                 have n4_ := Aside0.mk ((by rw [hg]; exact (below_size (by repeat (first | (with_reducible first | exact HB.out | apply lA_ | apply lN_ | apply l1_) | exact HB.out))) : w.heap.size ≤ gb269))
                 clear HO256
                 clear HB
                 have HO256 := n0_
                 have HB := n1_
                 have BK269 := n2_
                 have GW269 := n3_
                 have GE269 := n4_
                 clear n0_ n1_ n2_ n3_ n4_
                 clear hb hbox hg
                 refine hK.out _ _ ⟨(bc_ HB hw248_0), (bc_ HB hw248_1), (bc_ HB hw248_2), (bc_ HB hw248_3), (bc_ HB hw248_4), (bc_ HB hw248_5), (bc_ HB hw248_6), (bc_ HB hw248_7), (bc_ HB hw248_8), (bc_ HB hw248_9), (bc_ HB hw248_10), (bc_ HB hw248_11), (bc_ HB hw258_0), (bc_ HB hw258_1), (bc_ HB hw258_2), (bc_ HB hw258_3), (bc_ HB hw258_4), (bc_ HB hw258_5), (bc_ HB hw258_6), (bc_ HB hw258_7), (bc_ HB hw258_8), (bc_ HB hw258_9), (bc_ HB hw258_10), (bc_ HB hw258_11)⟩ (fun hHeld => ?_)
                 clear hK K
                 refine norm_ (a' := ?_) ?_ ?_
                 rotate_left
                 ·
                  show Act.put _ (some 5) _ = _
                  simp only [putS]
                  rfl
                 exact norm_ (by first | (simp only [putAll, Act.put, List.setIfInBounds_toArray, List.set_cons_zero, List.set_cons_succ]; done) | (simp only [putAll, Act.put, List.setIfInBounds_toArray, List.set_cons_zero, List.set_cons_succ]; rfl)) (hJ4_11 (v255, gb269) _ ⟨hHeld, (by (with_reducible repeat (first | apply Kd.R_alloc | apply Kd.R_drewN | apply Kd.R_drew)); exact HO256.out), (by (with_reducible repeat (first | refine bN_ ?_ _ | refine bD_ ?_ | refine bA_ ?_ _)); exact BK269.out), GW269.out, GE269.out, (by repeat (first | (with_reducible first | exact HB.out | apply lA_ | apply lN_ | apply l1_ | refine lS_ ?_ GE269.out) | exact HB.out))⟩)
              ·
               skip
               rintro ⟨gb268, gb269⟩ w14 ⟨hS_, h0_, h1_, h2_, h3_, h4_, h5_, h6_, h7_, h8_⟩
               have n0_ : Aside0 (w14.heap[gb268]? = some (.cells #[.bool false, .complex .f64 0 0, .int .i64 0, .int .i64 0, .int .i64 0, .slice none 0 0, .int .i64 0] 70 (0, 0))) := ⟨h0_⟩
               have n1_ : Aside0 (w14.heap[gb269]? = some (.cells #[.bool false, .complex .f64 0 0, .int .i64 0, .int .i64 0, .int .i64 0, .slice none 0 0, .int .i64 0] 70 (0, 0))) := ⟨h1_⟩
               have n2_ : Aside0 (w.heap.size ≤ gb268) := ⟨h2_⟩
               have n3_ : Aside0 (w.heap.size ≤ gb268) := ⟨h3_⟩
               have n4_ : Aside0 (gb269 ≠ gb268) := ⟨h4_⟩
               have n5_ : Aside0 (gb268 ≠ gb269) := ⟨h5_⟩
               have n6_ : Aside0 (w.heap.size ≤ gb269) := ⟨h6_⟩
               have n7_ : Aside0 (w.heap.size ≤ gb269) := ⟨h7_⟩
               have n8_ : Aside0 (Below w.heap.size w w14) := ⟨h8_⟩
               clear HB
               clear h0_ h1_ h2_ h3_ h4_ h5_ h6_ h7_ h8_
               have BK268 := n0_
               have BK269 := n1_
               have GW268 := n2_
               have GE268 := n3_
               have NB269_268 := n4_
               have NB268_269 := n5_
               have GW269 := n6_
               have GE269 := n7_
               have HB := n8_
               clear n0_ n1_ n2_ n3_ n4_ n5_ n6_ n7_ n8_
               have hHeld := hS_
               refine norm_ (a' := ?_) ?_ ?_
               rotate_left
               ·
                simp only [putAll, Act.put, List.setIfInBounds_toArray, List.set_cons_zero, List.set_cons_succ]
                rfl
               refine one_ (i := 4) (N := some 17) #[true, true, true, true, true, true, true, true, true, false, true, true, false, false] rfl rfl (one_of HT_.out (by kernel_rfl)) (by decide) (fun K hK => ?_)
               refine goes_ Try.func40 (by kernel_rfl) rfl #[.agg #[.int .i64 ((rd_T73 l0 x10_1).f0), .float .f64 ((rd_T73 l0 x10_1).f1.f0), .float .f64 ((rd_T73 l0 x10_1).f1.f1), .int .i64 ((rd_T73 l0 x10_1).f2.f0), .int .i64 ((rd_T73 l0 x10_1).f2.f1), .int .i64 ((rd_T73 l0 x10_1).f2.f2), .int .i64 ((rd_T73 l0 x10_1).f2.f3), .int .u8 ((rd_T73 l0 x10_1).f2.f4), .int .i64 ((rd_T73 l0 x10_1).f3), .int .i64 ((rd_T73 l0 x10_1).f4), .slice A248_10 ((rd_T73 l0 x10_1).f5).length c248_10, .slice A248_11 ((rd_T73 l0 x10_1).f6).length c248_11]] (by rfl) rfl rfl (by (try simp only [List.map_toArray, List.map_cons, List.map_nil]); first | done | rfl | (simp only [List.length_drop, List.length_take]; rfl)) ?_
               with_reducible refine (pylonlaw12_plays.calls k1 ((rd_T73 l0 x10_1).f0) ((rd_T73 l0 x10_1).f1.f0) ((rd_T73 l0 x10_1).f1.f1) ((rd_T73 l0 x10_1).f2.f0) ((rd_T73 l0 x10_1).f2.f1) ((rd_T73 l0 x10_1).f2.f2) ((rd_T73 l0 x10_1).f2.f3) ((rd_T73 l0 x10_1).f2.f4) ((rd_T73 l0 x10_1).f3) ((rd_T73 l0 x10_1).f4) _ _ ((rd_T73 l0 x10_1).f5) _ _ ((rd_T73 l0 x10_1).f6) t249 t250 t251 t252 t253 t254 t257 _ ?side1 ?side2 ?side3 ?side4 A8.out).mono ?_
               (case side1 => repeat (first | exact (Kd.C_below HR248_10.out HB.out) | (with_reducible refine Kd.C_alloc ?_ _) | (with_reducible refine Kd.C_drewN ?_ _) | (with_reducible refine Kd.C_drew ?_)))
               (case side2 => exact HC248_10.out)
               (case side3 => repeat (first | exact (Kd.C_below HR248_11.out HB.out) | (with_reducible refine Kd.C_alloc ?_ _) | (with_reducible refine Kd.C_drewN ?_ _) | (with_reducible refine Kd.C_drew ?_)))
               (case side4 => exact HC248_11.out)
               rintro e w15 ⟨v255, rfl, ho0, hb⟩
               refine ⟨_, rfl, ?_⟩
               have n0_ := Aside0.mk (Kd.R_lower ho0 (below_size (by repeat (first | (with_reducible first | exact HB.out | apply lA_ | apply lN_ | apply l1_ | refine lS_ ?_ GE268.out | refine lS_ ?_ GE269.out) | exact HB.out))))
               have n1_ := Aside0.mk (bB_ (g := gb268) (o := .cells #[.bool false, .complex .f64 0 0, .int .i64 0, .int .i64 0, .int .i64 0, .slice none 0 0, .int .i64 0] 70 (0, 0)) (by (with_reducible repeat (first | refine bN_ ?_ _ | refine bD_ ?_ | refine bA_ ?_ _)); exact BK268.out) hb)
               have n2_ := Aside0.mk (bB_ (g := gb269) (o := .cells #[.bool false, .complex .f64 0 0, .int .i64 0, .int .i64 0, .int .i64 0, .slice none 0 0, .int .i64 0] 70 (0, 0)) (by (with_reducible repeat (first | refine bN_ ?_ _ | refine bD_ ?_ | refine bA_ ?_ _)); exact BK269.out) hb)
               have n3_ := Aside0.mk (below_step (by repeat (first | (with_reducible first | exact HB.out | apply lA_ | apply lN_ | apply l1_ | refine lS_ ?_ GE268.out | refine lS_ ?_ GE269.out) | exact HB.out)) hb)
               clear BK268
               clear BK269
               clear HB
               have HO256 := n0_
               have BK268 := n1_
               have BK269 := n2_
               have HB := n3_
               clear n0_ n1_ n2_ n3_
               (try clear hb)
               (try clear hb2)
               (try clear hk)
               (try clear hi)
               (try clear ho0)
               refine hK.out _ _ ⟨(bc_ HB hw248_0), (bc_ HB hw248_1), (bc_ HB hw248_2), (bc_ HB hw248_3), (bc_ HB hw248_4), (bc_ HB hw248_5), (bc_ HB hw248_6), (bc_ HB hw248_7), (bc_ HB hw248_8), (bc_ HB hw248_9), (bc_ HB hw248_10), (bc_ HB hw248_11), (bc_ HB hw258_0), (bc_ HB hw258_1), (bc_ HB hw258_2), (bc_ HB hw258_3), (bc_ HB hw258_4), (bc_ HB hw258_5), (bc_ HB hw258_6), (bc_ HB hw258_7), (bc_ HB hw258_8), (bc_ HB hw258_9), (bc_ HB hw258_10), (bc_ HB hw258_11)⟩ (fun hHeld => ?_)
               clear hK K
               refine norm_ (a' := ?_) ?_ ?_
               rotate_left
               ·
                show Act.put _ (some 17) _ = _
                simp only [putS]
                rfl
               exact norm_ (by first | (simp only [putAll, Act.put, List.setIfInBounds_toArray, List.set_cons_zero, List.set_cons_succ]; done) | (simp only [putAll, Act.put, List.setIfInBounds_toArray, List.set_cons_zero, List.set_cons_succ]; rfl)) (hJ4_10_11 (v255, gb268, gb269) _ ⟨hHeld, (by (with_reducible repeat (first | apply Kd.R_alloc | apply Kd.R_drewN | apply Kd.R_drew)); exact HO256.out), (by (with_reducible repeat (first | refine bN_ ?_ _ | refine bD_ ?_ | refine bA_ ?_ _)); exact BK268.out), (by (with_reducible repeat (first | refine bN_ ?_ _ | refine bD_ ?_ | refine bA_ ?_ _)); exact BK269.out), GW268.out, GE268.out, NB269_268.out, NB268_269.out, GW269.out, GE269.out, (by repeat (first | (with_reducible first | exact HB.out | apply lA_ | apply lN_ | apply l1_ | refine lS_ ?_ GE268.out | refine lS_ ?_ GE269.out) | exact HB.out))⟩)
             ·
              skip
              rintro ⟨v255, gb269⟩ w14 ⟨hS_, h0_, h1_, h2_, h3_, h4_⟩
              have n0_ : Aside0 (Kd.R Kd.c128 31 w14 w.heap.size (fun _ => True) v255 t254) := ⟨h0_⟩
              have n1_ : Aside0 (w14.heap[gb269]? = some (.cells #[.bool false, .complex .f64 0 0, .int .i64 0, .int .i64 0, .int .i64 0, .slice none 0 0, .int .i64 0] 70 (0, 0))) := ⟨h1_⟩
              have n2_ : Aside0 (w.heap.size ≤ gb269) := ⟨h2_⟩
              have n3_ : Aside0 (w.heap.size ≤ gb269) := ⟨h3_⟩
              have n4_ : Aside0 (Below w.heap.size w w14) := ⟨h4_⟩
              clear HB
              clear h0_ h1_ h2_ h3_ h4_
              have HO256 := n0_
              have BK269 := n1_
              have GW269 := n2_
              have GE269 := n3_
              have HB := n4_
              clear n0_ n1_ n2_ n3_ n4_
              have hHeld := hS_
              refine norm_ (a' := ?_) ?_ ?_
              rotate_left
              ·
               simp only [putAll, Act.put, List.setIfInBounds_toArray, List.set_cons_zero, List.set_cons_succ]
               rfl
              refine two_ (i := 9) (j := 10) (Ni := some 22) (Nj := some 4) #[true, true, true, true, true, true, true, true, true, true, false, true, false, false] #[true, true, true, true, true, true, true, true, true, false, true, true, false, false] rfl rfl rfl rfl (two_of HT_.out (by kernel_rfl)) (by decide) (by decide) (fun K hK => ?_) (fun K hK => ?_)
              ·
               skip
               refine goes_ Try.func41 (by kernel_rfl) rfl #[.agg #[.int .i64 ((rd_T73 l0 x10_1).f0), .float .f64 ((rd_T73 l0 x10_1).f1.f0), .float .f64 ((rd_T73 l0 x10_1).f1.f1), .int .i64 ((rd_T73 l0 x10_1).f2.f0), .int .i64 ((rd_T73 l0 x10_1).f2.f1), .int .i64 ((rd_T73 l0 x10_1).f2.f2), .int .i64 ((rd_T73 l0 x10_1).f2.f3), .int .u8 ((rd_T73 l0 x10_1).f2.f4), .int .i64 ((rd_T73 l0 x10_1).f3), .int .i64 ((rd_T73 l0 x10_1).f4), .slice A248_10 ((rd_T73 l0 x10_1).f5).length c248_10, .slice A248_11 ((rd_T73 l0 x10_1).f6).length c248_11]] (by rfl) rfl rfl (by (try simp only [List.map_toArray, List.map_cons, List.map_nil]); first | done | rfl | (simp only [List.length_drop, List.length_take]; rfl)) ?_
               with_reducible refine (pylonlaw12_wants.calls k1 ((rd_T73 l0 x10_1).f0) ((rd_T73 l0 x10_1).f1.f0) ((rd_T73 l0 x10_1).f1.f1) ((rd_T73 l0 x10_1).f2.f0) ((rd_T73 l0 x10_1).f2.f1) ((rd_T73 l0 x10_1).f2.f2) ((rd_T73 l0 x10_1).f2.f3) ((rd_T73 l0 x10_1).f2.f4) ((rd_T73 l0 x10_1).f3) ((rd_T73 l0 x10_1).f4) _ _ ((rd_T73 l0 x10_1).f5) _ _ ((rd_T73 l0 x10_1).f6) t259 t260 t261 t262 t263 t264 t267 _ ?side1 ?side2 ?side3 ?side4 A9.out).mono ?_
               (case side1 => repeat (first | exact (Kd.C_below HR258_10.out HB.out) | (with_reducible refine Kd.C_alloc ?_ _) | (with_reducible refine Kd.C_drewN ?_ _) | (with_reducible refine Kd.C_drew ?_)))
               (case side2 => exact HC258_10.out)
               (case side3 => repeat (first | exact (Kd.C_below HR258_11.out HB.out) | (with_reducible refine Kd.C_alloc ?_ _) | (with_reducible refine Kd.C_drewN ?_ _) | (with_reducible refine Kd.C_drew ?_)))
               (case side4 => exact HC258_11.out)
               rintro e w15 ⟨v265, rfl, ho0, hb⟩
               refine ⟨_, rfl, ?_⟩
               have n0_ := Aside0.mk (Kd.R_elder' (by (with_reducible repeat (first | apply Kd.R_alloc | apply Kd.R_drewN | apply Kd.R_drew)); exact HO256.out) (Kd.R_base ho0) hb)
               have n1_ := Aside0.mk (Kd.R_lower (Kd.R_new' ho0 (Kd.R_lt (by (with_reducible repeat (first | apply Kd.R_alloc | apply Kd.R_drewN | apply Kd.R_drew)); exact HO256.out))) (below_size (by repeat (first | (with_reducible first | exact HB.out | apply lA_ | apply lN_ | apply l1_ | refine lS_ ?_ GE269.out) | exact HB.out))))
               have n2_ := Aside0.mk (bB_ (g := gb269) (o := .cells #[.bool false, .complex .f64 0 0, .int .i64 0, .int .i64 0, .int .i64 0, .slice none 0 0, .int .i64 0] 70 (0, 0)) (by (with_reducible repeat (first | refine bN_ ?_ _ | refine bD_ ?_ | refine bA_ ?_ _)); exact BK269.out) hb)
               have n3_ := Aside0.mk (below_step (by repeat (first | (with_reducible first | exact HB.out | apply lA_ | apply lN_ | apply l1_ | refine lS_ ?_ GE269.out) | exact HB.out)) hb)
               clear HO256
               clear BK269
               clear HB
               have HO256 := n0_
               have HO266 := n1_
               have BK269 := n2_
               have HB := n3_
               clear n0_ n1_ n2_ n3_
               (try clear hb)
               (try clear hb2)
               (try clear hk)
               (try clear hi)
               (try clear ho0)
               refine hK.out _ _ ⟨(bc_ HB hw248_0), (bc_ HB hw248_1), (bc_ HB hw248_2), (bc_ HB hw248_3), (bc_ HB hw248_4), (bc_ HB hw248_5), (bc_ HB hw248_6), (bc_ HB hw248_7), (bc_ HB hw248_8), (bc_ HB hw248_9), (bc_ HB hw248_10), (bc_ HB hw248_11), (bc_ HB hw258_0), (bc_ HB hw258_1), (bc_ HB hw258_2), (bc_ HB hw258_3), (bc_ HB hw258_4), (bc_ HB hw258_5), (bc_ HB hw258_6), (bc_ HB hw258_7), (bc_ HB hw258_8), (bc_ HB hw258_9), (bc_ HB hw258_10), (bc_ HB hw258_11)⟩ (fun hHeld => ?_)
               clear hK K
               refine norm_ (a' := ?_) ?_ ?_
               rotate_left
               ·
                show Act.put _ (some 22) _ = _
                simp only [putS]
                rfl
               exact norm_ (by first | (simp only [putAll, Act.put, List.setIfInBounds_toArray, List.set_cons_zero, List.set_cons_succ]; done) | (simp only [putAll, Act.put, List.setIfInBounds_toArray, List.set_cons_zero, List.set_cons_succ]; rfl)) (hJ4_9_11 (v255, v265, gb269) _ ⟨hHeld, (by (with_reducible repeat (first | apply Kd.R_alloc | apply Kd.R_drewN | apply Kd.R_drew)); exact Kd.R_mono HO256.out (fun _ hk => hk.2)), (by (with_reducible repeat (first | apply Kd.R_alloc | apply Kd.R_drewN | apply Kd.R_drew)); exact Kd.R_mono HO266.out (fun _ hk => hk.2)), (by (with_reducible repeat (first | refine bN_ ?_ _ | refine bD_ ?_ | refine bA_ ?_ _)); exact BK269.out), GW269.out, GE269.out, (by repeat (first | (with_reducible first | exact HB.out | apply lA_ | apply lN_ | apply l1_ | refine lS_ ?_ GE269.out) | exact HB.out))⟩)
              ·
               skip
               refine box_step ?hg (N := 4) ?hd (cs := #[.bool false, .complex .f64 0 0, .int .i64 0, .int .i64 0, .int .i64 0, .slice none 0 0, .int .i64 0]) (t := 70) ?hr ?_; (case hd => rfl); (case hg => rfl); (case hr => first | (go_simp; done) | (go_simp; rfl))
               intro gb268 hg w15 hbox hb
               have n0_ := Aside0.mk (Kd.R_below (by (with_reducible repeat (first | apply Kd.R_alloc | apply Kd.R_drewN | apply Kd.R_drew)); exact HO256.out) hb)
               have n1_ := Aside0.mk (bB_ (g := gb269) (o := .cells #[.bool false, .complex .f64 0 0, .int .i64 0, .int .i64 0, .int .i64 0, .slice none 0 0, .int .i64 0] 70 (0, 0)) (by (with_reducible repeat (first | refine bN_ ?_ _ | refine bD_ ?_ | refine bA_ ?_ _)); exact BK269.out) hb)
               have n2_ := Aside0.mk (below_step (by repeat (first | (with_reducible first | exact HB.out | apply lA_ | apply lN_ | apply l1_ | refine lS_ ?_ GE269.out) | exact HB.out)) hb)
               have n3_ := Aside0.mk (hbox)
               have n4_ := Aside0.mk ((by rw [hg]; exact (below_size (by repeat (first | (with_reducible first | exact HB.out | apply lA_ | apply lN_ | apply l1_ | refine lS_ ?_ GE269.out) | exact HB.out))) : w.heap.size ≤ gb268))
               have n5_ := Aside0.mk ((by rw [hg]; exact (below_size (by repeat (first | (with_reducible first | exact HB.out | apply lA_ | apply lN_ | apply l1_ | refine lS_ ?_ GE269.out) | exact HB.out))) : w.heap.size ≤ gb268))
               have n6_ := Aside0.mk ((by rw [hg]; exact Nat.ne_of_lt (blk_lt (g := gb269) (o := .cells #[.bool false, .complex .f64 0 0, .int .i64 0, .int .i64 0, .int .i64 0, .slice none 0 0, .int .i64 0] 70 (0, 0)) (by (with_reducible repeat (first | refine bN_ ?_ _ | refine bD_ ?_ | refine bA_ ?_ _)); exact BK269.out)) : gb269 ≠ gb268))
               have n7_ := Aside0.mk ((by rw [hg]; exact Nat.ne_of_gt (blk_lt (g := gb269) (o := .cells #[.bool false, .complex .f64 0 0, .int .i64 0, .int .i64 0, .int .i64 0, .slice none 0 0, .int .i64 0] 70 (0, 0)) (by (with_reducible repeat (first | refine bN_ ?_ _ | refine bD_ ?_ | refine bA_ ?_ _)); exact BK269.out)) : gb268 ≠ gb269))
               clear HO256
               clear BK269
               clear HB
               have HO256 := n0_
               have BK269 := n1_
               have HB := n2_
               have BK268 := n3_
               have GW268 := n4_
               have GE268 := n5_
               have NB269_268 := n6_
               have NB268_269 := n7_
               clear n0_ n1_ n2_ n3_ n4_ n5_ n6_ n7_
               clear hb hbox hg
               refine hK.out _ _ ⟨(bc_ HB hw248_0), (bc_ HB hw248_1), (bc_ HB hw248_2), (bc_ HB hw248_3), (bc_ HB hw248_4), (bc_ HB hw248_5), (bc_ HB hw248_6), (bc_ HB hw248_7), (bc_ HB hw248_8), (bc_ HB hw248_9), (bc_ HB hw248_10), (bc_ HB hw248_11), (bc_ HB hw258_0), (bc_ HB hw258_1), (bc_ HB hw258_2), (bc_ HB hw258_3), (bc_ HB hw258_4), (bc_ HB hw258_5), (bc_ HB hw258_6), (bc_ HB hw258_7), (bc_ HB hw258_8), (bc_ HB hw258_9), (bc_ HB hw258_10), (bc_ HB hw258_11)⟩ (fun hHeld => ?_)
               clear hK K
               refine norm_ (a' := ?_) ?_ ?_
               rotate_left
               ·
                show Act.put _ (some 4) _ = _
                simp only [putS]
                rfl
               exact norm_ (by first | (simp only [putAll, Act.put, List.setIfInBounds_toArray, List.set_cons_zero, List.set_cons_succ]; done) | (simp only [putAll, Act.put, List.setIfInBounds_toArray, List.set_cons_zero, List.set_cons_succ]; rfl)) (hJ4_10_11 (v255, gb268, gb269) _ ⟨hHeld, (by (with_reducible repeat (first | apply Kd.R_alloc | apply Kd.R_drewN | apply Kd.R_drew)); exact HO256.out), (by (with_reducible repeat (first | refine bN_ ?_ _ | refine bD_ ?_ | refine bA_ ?_ _)); exact BK268.out), (by (with_reducible repeat (first | refine bN_ ?_ _ | refine bD_ ?_ | refine bA_ ?_ _)); exact BK269.out), GW268.out, GE268.out, NB269_268.out, NB268_269.out, GW269.out, GE269.out, (by repeat (first | (with_reducible first | exact HB.out | apply lA_ | apply lN_ | apply l1_ | refine lS_ ?_ GE269.out | refine lS_ ?_ GE268.out) | exact HB.out))⟩)
            ·
             skip
             rintro ⟨v255, gb268⟩ w14 ⟨hS_, h0_, h1_, h2_, h3_, h4_⟩
             have n0_ : Aside0 (Kd.R Kd.c128 31 w14 w.heap.size (fun _ => True) v255 t254) := ⟨h0_⟩
             have n1_ : Aside0 (w14.heap[gb268]? = some (.cells #[.bool false, .complex .f64 0 0, .int .i64 0, .int .i64 0, .int .i64 0, .slice none 0 0, .int .i64 0] 70 (0, 0))) := ⟨h1_⟩
             have n2_ : Aside0 (w.heap.size ≤ gb268) := ⟨h2_⟩
             have n3_ : Aside0 (w.heap.size ≤ gb268) := ⟨h3_⟩
             have n4_ : Aside0 (Below w.heap.size w w14) := ⟨h4_⟩
             clear HB
             clear h0_ h1_ h2_ h3_ h4_
             have HO256 := n0_
             have BK268 := n1_
             have GW268 := n2_
             have GE268 := n3_
             have HB := n4_
             clear n0_ n1_ n2_ n3_ n4_
             have hHeld := hS_
             refine norm_ (a' := ?_) ?_ ?_
             rotate_left
             ·
              simp only [putAll, Act.put, List.setIfInBounds_toArray, List.set_cons_zero, List.set_cons_succ]
              rfl
             refine two_ (i := 9) (j := 11) (Ni := some 22) (Nj := some 5) (upT 11 3) #[true, true, true, true, true, true, true, true, true, false, true, true, false, false] rfl rfl rfl rfl (two_of HT_.out (by kernel_rfl)) (by decide) (by decide) (fun K hK => ?_) (fun K hK => ?_)
             ·
              skip
              refine goes_ Try.func41 (by kernel_rfl) rfl #[.agg #[.int .i64 ((rd_T73 l0 x10_1).f0), .float .f64 ((rd_T73 l0 x10_1).f1.f0), .float .f64 ((rd_T73 l0 x10_1).f1.f1), .int .i64 ((rd_T73 l0 x10_1).f2.f0), .int .i64 ((rd_T73 l0 x10_1).f2.f1), .int .i64 ((rd_T73 l0 x10_1).f2.f2), .int .i64 ((rd_T73 l0 x10_1).f2.f3), .int .u8 ((rd_T73 l0 x10_1).f2.f4), .int .i64 ((rd_T73 l0 x10_1).f3), .int .i64 ((rd_T73 l0 x10_1).f4), .slice A248_10 ((rd_T73 l0 x10_1).f5).length c248_10, .slice A248_11 ((rd_T73 l0 x10_1).f6).length c248_11]] (by rfl) rfl rfl (by (try simp only [List.map_toArray, List.map_cons, List.map_nil]); first | done | rfl | (simp only [List.length_drop, List.length_take]; rfl)) ?_
              with_reducible refine (pylonlaw12_wants.calls k1 ((rd_T73 l0 x10_1).f0) ((rd_T73 l0 x10_1).f1.f0) ((rd_T73 l0 x10_1).f1.f1) ((rd_T73 l0 x10_1).f2.f0) ((rd_T73 l0 x10_1).f2.f1) ((rd_T73 l0 x10_1).f2.f2) ((rd_T73 l0 x10_1).f2.f3) ((rd_T73 l0 x10_1).f2.f4) ((rd_T73 l0 x10_1).f3) ((rd_T73 l0 x10_1).f4) _ _ ((rd_T73 l0 x10_1).f5) _ _ ((rd_T73 l0 x10_1).f6) t259 t260 t261 t262 t263 t264 t267 _ ?side1 ?side2 ?side3 ?side4 A9.out).mono ?_
              (case side1 => repeat (first | exact (Kd.C_below HR258_10.out HB.out) | (with_reducible refine Kd.C_alloc ?_ _) | (with_reducible refine Kd.C_drewN ?_ _) | (with_reducible refine Kd.C_drew ?_)))
              (case side2 => exact HC258_10.out)
              (case side3 => repeat (first | exact (Kd.C_below HR258_11.out HB.out) | (with_reducible refine Kd.C_alloc ?_ _) | (with_reducible refine Kd.C_drewN ?_ _) | (with_reducible refine Kd.C_drew ?_)))
              (case side4 => exact HC258_11.out)
              rintro e w15 ⟨v265, rfl, ho0, hb⟩
              refine ⟨_, rfl, ?_⟩
              have n0_ := Aside0.mk (Kd.R_elder' (by (with_reducible repeat (first | apply Kd.R_alloc | apply Kd.R_drewN | apply Kd.R_drew)); exact HO256.out) (Kd.R_base ho0) hb)
              have n1_ := Aside0.mk (Kd.R_lower (Kd.R_new' ho0 (Kd.R_lt (by (with_reducible repeat (first | apply Kd.R_alloc | apply Kd.R_drewN | apply Kd.R_drew)); exact HO256.out))) (below_size (by repeat (first | (with_reducible first | exact HB.out | apply lA_ | apply lN_ | apply l1_ | refine lS_ ?_ GE268.out) | exact HB.out))))
              have n2_ := Aside0.mk (bB_ (g := gb268) (o := .cells #[.bool false, .complex .f64 0 0, .int .i64 0, .int .i64 0, .int .i64 0, .slice none 0 0, .int .i64 0] 70 (0, 0)) (by (with_reducible repeat (first | refine bN_ ?_ _ | refine bD_ ?_ | refine bA_ ?_ _)); exact BK268.out) hb)
              have n3_ := Aside0.mk (below_step (by repeat (first | (with_reducible first | exact HB.out | apply lA_ | apply lN_ | apply l1_ | refine lS_ ?_ GE268.out) | exact HB.out)) hb)
              clear HO256
              clear BK268
              clear HB
              have HO256 := n0_
              have HO266 := n1_
              have BK268 := n2_
              have HB := n3_
              clear n0_ n1_ n2_ n3_
              (try clear hb)
              (try clear hb2)
              (try clear hk)
              (try clear hi)
              (try clear ho0)
              refine hK.out _ _ ⟨(bc_ HB hw248_0), (bc_ HB hw248_1), (bc_ HB hw248_2), (bc_ HB hw248_3), (bc_ HB hw248_4), (bc_ HB hw248_5), (bc_ HB hw248_6), (bc_ HB hw248_7), (bc_ HB hw248_8), (bc_ HB hw248_9), (bc_ HB hw248_10), (bc_ HB hw248_11), (bc_ HB hw258_0), (bc_ HB hw258_1), (bc_ HB hw258_2), (bc_ HB hw258_3), (bc_ HB hw258_4), (bc_ HB hw258_5), (bc_ HB hw258_6), (bc_ HB hw258_7), (bc_ HB hw258_8), (bc_ HB hw258_9), (bc_ HB hw258_10), (bc_ HB hw258_11)⟩ (fun hHeld => ?_)
              clear hK K
              refine norm_ (a' := ?_) ?_ ?_
              rotate_left
              ·
               show Act.put _ (some 22) _ = _
               simp only [putS]
               rfl
              exact norm_ (by first | (simp only [putAll, Act.put, List.setIfInBounds_toArray, List.set_cons_zero, List.set_cons_succ]; done) | (simp only [putAll, Act.put, List.setIfInBounds_toArray, List.set_cons_zero, List.set_cons_succ]; rfl)) (hJ4_9_10 (v255, v265, gb268) _ ⟨hHeld, (by (with_reducible repeat (first | apply Kd.R_alloc | apply Kd.R_drewN | apply Kd.R_drew)); exact Kd.R_mono HO256.out (fun _ hk => hk.2)), (by (with_reducible repeat (first | apply Kd.R_alloc | apply Kd.R_drewN | apply Kd.R_drew)); exact Kd.R_mono HO266.out (fun _ hk => hk.2)), (by (with_reducible repeat (first | refine bN_ ?_ _ | refine bD_ ?_ | refine bA_ ?_ _)); exact BK268.out), GW268.out, GE268.out, (by repeat (first | (with_reducible first | exact HB.out | apply lA_ | apply lN_ | apply l1_ | refine lS_ ?_ GE268.out) | exact HB.out))⟩)
             ·
              skip
              refine box_step ?hg (N := 5) ?hd (cs := #[.bool false, .complex .f64 0 0, .int .i64 0, .int .i64 0, .int .i64 0, .slice none 0 0, .int .i64 0]) (t := 70) ?hr ?_; (case hd => rfl); (case hg => rfl); (case hr => first | (go_simp; done) | (go_simp; rfl))
              intro gb269 hg w15 hbox hb
              have n0_ := Aside0.mk (Kd.R_below (by (with_reducible repeat (first | apply Kd.R_alloc | apply Kd.R_drewN | apply Kd.R_drew)); exact HO256.out) hb)
              have n1_ := Aside0.mk (bB_ (g := gb268) (o := .cells #[.bool false, .complex .f64 0 0, .int .i64 0, .int .i64 0, .int .i64 0, .slice none 0 0, .int .i64 0] 70 (0, 0)) (by (with_reducible repeat (first | refine bN_ ?_ _ | refine bD_ ?_ | refine bA_ ?_ _)); exact BK268.out) hb)
              have n2_ := Aside0.mk (below_step (by repeat (first | (with_reducible first | exact HB.out | apply lA_ | apply lN_ | apply l1_ | refine lS_ ?_ GE268.out) | exact HB.out)) hb)
              have n3_ := Aside0.mk (hbox)
              have n4_ := Aside0.mk ((by rw [hg]; exact (below_size (by repeat (first | (with_reducible first | exact HB.out | apply lA_ | apply lN_ | apply l1_ | refine lS_ ?_ GE268.out) | exact HB.out))) : w.heap.size ≤ gb269))
              have n5_ := Aside0.mk ((by rw [hg]; exact (below_size (by repeat (first | (with_reducible first | exact HB.out | apply lA_ | apply lN_ | apply l1_ | refine lS_ ?_ GE268.out) | exact HB.out))) : w.heap.size ≤ gb269))
              have n6_ := Aside0.mk ((by rw [hg]; exact Nat.ne_of_lt (blk_lt (g := gb268) (o := .cells #[.bool false, .complex .f64 0 0, .int .i64 0, .int .i64 0, .int .i64 0, .slice none 0 0, .int .i64 0] 70 (0, 0)) (by (with_reducible repeat (first | refine bN_ ?_ _ | refine bD_ ?_ | refine bA_ ?_ _)); exact BK268.out)) : gb268 ≠ gb269))
              have n7_ := Aside0.mk ((by rw [hg]; exact Nat.ne_of_gt (blk_lt (g := gb268) (o := .cells #[.bool false, .complex .f64 0 0, .int .i64 0, .int .i64 0, .int .i64 0, .slice none 0 0, .int .i64 0] 70 (0, 0)) (by (with_reducible repeat (first | refine bN_ ?_ _ | refine bD_ ?_ | refine bA_ ?_ _)); exact BK268.out)) : gb269 ≠ gb268))
              clear HO256
              clear BK268
              clear HB
              have HO256 := n0_
              have BK268 := n1_
              have HB := n2_
              have BK269 := n3_
              have GW269 := n4_
              have GE269 := n5_
              have NB268_269 := n6_
              have NB269_268 := n7_
              clear n0_ n1_ n2_ n3_ n4_ n5_ n6_ n7_
              clear hb hbox hg
              refine hK.out _ _ ⟨(bc_ HB hw248_0), (bc_ HB hw248_1), (bc_ HB hw248_2), (bc_ HB hw248_3), (bc_ HB hw248_4), (bc_ HB hw248_5), (bc_ HB hw248_6), (bc_ HB hw248_7), (bc_ HB hw248_8), (bc_ HB hw248_9), (bc_ HB hw248_10), (bc_ HB hw248_11), (bc_ HB hw258_0), (bc_ HB hw258_1), (bc_ HB hw258_2), (bc_ HB hw258_3), (bc_ HB hw258_4), (bc_ HB hw258_5), (bc_ HB hw258_6), (bc_ HB hw258_7), (bc_ HB hw258_8), (bc_ HB hw258_9), (bc_ HB hw258_10), (bc_ HB hw258_11)⟩ (fun hHeld => ?_)
              clear hK K
              refine norm_ (a' := ?_) ?_ ?_
              rotate_left
              ·
               show Act.put _ (some 5) _ = _
               simp only [putS]
               rfl
              exact norm_ (by first | (simp only [putAll, Act.put, List.setIfInBounds_toArray, List.set_cons_zero, List.set_cons_succ]; done) | (simp only [putAll, Act.put, List.setIfInBounds_toArray, List.set_cons_zero, List.set_cons_succ]; rfl)) (hJ4_10_11 (v255, gb268, gb269) _ ⟨hHeld, (by (with_reducible repeat (first | apply Kd.R_alloc | apply Kd.R_drewN | apply Kd.R_drew)); exact HO256.out), (by (with_reducible repeat (first | refine bN_ ?_ _ | refine bD_ ?_ | refine bA_ ?_ _)); exact BK268.out), (by (with_reducible repeat (first | refine bN_ ?_ _ | refine bD_ ?_ | refine bA_ ?_ _)); exact BK269.out), GW268.out, GE268.out, NB269_268.out, NB268_269.out, GW269.out, GE269.out, (by repeat (first | (with_reducible first | exact HB.out | apply lA_ | apply lN_ | apply l1_ | refine lS_ ?_ GE268.out | refine lS_ ?_ GE269.out) | exact HB.out))⟩)
           ·
            skip
            rintro ⟨v255, v265⟩ w14 ⟨hS_, h0_, h1_, h2_⟩
            have n0_ : Aside0 (Kd.R Kd.c128 31 w14 w.heap.size (fun k_ => some k_ ≠ (v265 : Value).ownBlock) v255 t254) := ⟨h0_⟩
            have n1_ : Aside0 (Kd.R Kd.c128 31 w14 w.heap.size (fun k_ => some k_ ≠ (v255 : Value).ownBlock) v265 t264) := ⟨h1_⟩
            have n2_ : Aside0 (Below w.heap.size w w14) := ⟨h2_⟩
            clear HB
            clear h0_ h1_ h2_
            have HO256 := n0_
            have HO266 := n1_
            have HB := n2_
            clear n0_ n1_ n2_
            have hHeld := hS_
            refine norm_ (a' := ?_) ?_ ?_
            rotate_left
            ·
             simp only [putAll, Act.put, List.setIfInBounds_toArray, List.set_cons_zero, List.set_cons_succ]
             rfl
            refine two_ (i := 10) (j := 11) (Ni := some 4) (Nj := some 5) (upT 11 3) #[true, true, true, true, true, true, true, true, true, true, false, true, false, false] rfl rfl rfl rfl (two_of HT_.out (by kernel_rfl)) (by decide) (by decide) (fun K hK => ?_) (fun K hK => ?_)
            ·
             skip
             refine box_step ?hg (N := 4) ?hd (cs := #[.bool false, .complex .f64 0 0, .int .i64 0, .int .i64 0, .int .i64 0, .slice none 0 0, .int .i64 0]) (t := 70) ?hr ?_; (case hd => rfl); (case hg => rfl); (case hr => first | (go_simp; done) | (go_simp; rfl))
             intro gb268 hg w15 hbox hb
             have n0_ := Aside0.mk (Kd.R_below (by (with_reducible repeat (first | apply Kd.R_alloc | apply Kd.R_drewN | apply Kd.R_drew)); exact HO256.out) hb)
             have n1_ := Aside0.mk (Kd.R_below (by (with_reducible repeat (first | apply Kd.R_alloc | apply Kd.R_drewN | apply Kd.R_drew)); exact HO266.out) hb)
             have n2_ := Aside0.mk (below_step (by repeat (first | (with_reducible first | exact HB.out | apply lA_ | apply lN_ | apply l1_) | exact HB.out)) hb)
             have n3_ := Aside0.mk (hbox)
             have n4_ := Aside0.mk ((by rw [hg]; exact (below_size (by repeat (first | (with_reducible first | exact HB.out | apply lA_ | apply lN_ | apply l1_) | exact HB.out))) : w.heap.size ≤ gb268))
             have n5_ := Aside0.mk ((by rw [hg]; exact (below_size (by repeat (first | (with_reducible first | exact HB.out | apply lA_ | apply lN_ | apply l1_) | exact HB.out))) : w.heap.size ≤ gb268))
             clear HO256
             clear HO266
             clear HB
             have HO256 := n0_
             have HO266 := n1_
             have HB := n2_
             have BK268 := n3_
             have GW268 := n4_
             have GE268 := n5_
             clear n0_ n1_ n2_ n3_ n4_ n5_
             clear hb hbox hg
             refine hK.out _ _ ⟨(bc_ HB hw248_0), (bc_ HB hw248_1), (bc_ HB hw248_2), (bc_ HB hw248_3), (bc_ HB hw248_4), (bc_ HB hw248_5), (bc_ HB hw248_6), (bc_ HB hw248_7), (bc_ HB hw248_8), (bc_ HB hw248_9), (bc_ HB hw248_10), (bc_ HB hw248_11), (bc_ HB hw258_0), (bc_ HB hw258_1), (bc_ HB hw258_2), (bc_ HB hw258_3), (bc_ HB hw258_4), (bc_ HB hw258_5), (bc_ HB hw258_6), (bc_ HB hw258_7), (bc_ HB hw258_8), (bc_ HB hw258_9), (bc_ HB hw258_10), (bc_ HB hw258_11)⟩ (fun hHeld => ?_)
             clear hK K
             refine norm_ (a' := ?_) ?_ ?_
             rotate_left
             ·
              show Act.put _ (some 4) _ = _
              simp only [putS]
              rfl
             exact norm_ (by first | (simp only [putAll, Act.put, List.setIfInBounds_toArray, List.set_cons_zero, List.set_cons_succ]; done) | (simp only [putAll, Act.put, List.setIfInBounds_toArray, List.set_cons_zero, List.set_cons_succ]; rfl)) (hJ4_9_10 (v255, v265, gb268) _ ⟨hHeld, (by (with_reducible repeat (first | apply Kd.R_alloc | apply Kd.R_drewN | apply Kd.R_drew)); exact HO256.out), (by (with_reducible repeat (first | apply Kd.R_alloc | apply Kd.R_drewN | apply Kd.R_drew)); exact HO266.out), (by (with_reducible repeat (first | refine bN_ ?_ _ | refine bD_ ?_ | refine bA_ ?_ _)); exact BK268.out), GW268.out, GE268.out, (by repeat (first | (with_reducible first | exact HB.out | apply lA_ | apply lN_ | apply l1_ | refine lS_ ?_ GE268.out) | exact HB.out))⟩)
            ·
             skip
             refine box_step ?hg (N := 5) ?hd (cs := #[.bool false, .complex .f64 0 0, .int .i64 0, .int .i64 0, .int .i64 0, .slice none 0 0, .int .i64 0]) (t := 70) ?hr ?_; (case hd => rfl); (case hg => rfl); (case hr => first | (go_simp; done) | (go_simp; rfl))
             intro gb269 hg w15 hbox hb
             have n0_ := Aside0.mk (Kd.R_below (by (with_reducible repeat (first | apply Kd.R_alloc | apply Kd.R_drewN | apply Kd.R_drew)); exact HO256.out) hb)
             have n1_ := Aside0.mk (Kd.R_below (by (with_reducible repeat (first | apply Kd.R_alloc | apply Kd.R_drewN | apply Kd.R_drew)); exact HO266.out) hb)
             have n2_ := Aside0.mk (below_step (by repeat (first | (with_reducible first | exact HB.out | apply lA_ | apply lN_ | apply l1_) | exact HB.out)) hb)
             have n3_ := Aside0.mk (hbox)
             have n4_ := Aside0.mk ((by rw [hg]; exact (below_size (by repeat (first | (with_reducible first | exact HB.out | apply lA_ | apply lN_ | apply l1_) | exact HB.out))) : w.heap.size ≤ gb269))
             have n5_ := Aside0.mk ((by rw [hg]; exact (below_size (by repeat (first | (with_reducible first | exact HB.out | apply lA_ | apply lN_ | apply l1_) | exact HB.out))) : w.heap.size ≤ gb269))
             clear HO256
             clear HO266
             clear HB
             have HO256 := n0_
             have HO266 := n1_
             have HB := n2_
             have BK269 := n3_
             have GW269 := n4_
             have GE269 := n5_
             clear n0_ n1_ n2_ n3_ n4_ n5_
             clear hb hbox hg
             refine hK.out _ _ ⟨(bc_ HB hw248_0), (bc_ HB hw248_1), (bc_ HB hw248_2), (bc_ HB hw248_3), (bc_ HB hw248_4), (bc_ HB hw248_5), (bc_ HB hw248_6), (bc_ HB hw248_7), (bc_ HB hw248_8), (bc_ HB hw248_9), (bc_ HB hw248_10), (bc_ HB hw248_11), (bc_ HB hw258_0), (bc_ HB hw258_1), (bc_ HB hw258_2), (bc_ HB hw258_3), (bc_ HB hw258_4), (bc_ HB hw258_5), (bc_ HB hw258_6), (bc_ HB hw258_7), (bc_ HB hw258_8), (bc_ HB hw258_9), (bc_ HB hw258_10), (bc_ HB hw258_11)⟩ (fun hHeld => ?_)
             clear hK K
             refine norm_ (a' := ?_) ?_ ?_
             rotate_left
             ·
              show Act.put _ (some 5) _ = _
              simp only [putS]
              rfl
             exact norm_ (by first | (simp only [putAll, Act.put, List.setIfInBounds_toArray, List.set_cons_zero, List.set_cons_succ]; done) | (simp only [putAll, Act.put, List.setIfInBounds_toArray, List.set_cons_zero, List.set_cons_succ]; rfl)) (hJ4_9_11 (v255, v265, gb269) _ ⟨hHeld, (by (with_reducible repeat (first | apply Kd.R_alloc | apply Kd.R_drewN | apply Kd.R_drew)); exact HO256.out), (by (with_reducible repeat (first | apply Kd.R_alloc | apply Kd.R_drewN | apply Kd.R_drew)); exact HO266.out), (by (with_reducible repeat (first | refine bN_ ?_ _ | refine bD_ ?_ | refine bA_ ?_ _)); exact BK269.out), GW269.out, GE269.out, (by repeat (first | (with_reducible first | exact HB.out | apply lA_ | apply lN_ | apply l1_ | refine lS_ ?_ GE269.out) | exact HB.out))⟩)
          ·
           skip
           rintro ⟨v255, gb268, gb269⟩ w15 ⟨hS_, h0_, h1_, h2_, h3_, h4_, h5_, h6_, h7_, h8_, h9_⟩
           have n0_ : Aside0 (Kd.R Kd.c128 31 w15 w.heap.size (fun _ => True) v255 t254) := ⟨h0_⟩
           have n1_ : Aside0 (w15.heap[gb268]? = some (.cells #[.bool false, .complex .f64 0 0, .int .i64 0, .int .i64 0, .int .i64 0, .slice none 0 0, .int .i64 0] 70 (0, 0))) := ⟨h1_⟩
           have n2_ : Aside0 (w15.heap[gb269]? = some (.cells #[.bool false, .complex .f64 0 0, .int .i64 0, .int .i64 0, .int .i64 0, .slice none 0 0, .int .i64 0] 70 (0, 0))) := ⟨h2_⟩
           have n3_ : Aside0 (w.heap.size ≤ gb268) := ⟨h3_⟩
           have n4_ : Aside0 (w.heap.size ≤ gb268) := ⟨h4_⟩
           have n5_ : Aside0 (gb269 ≠ gb268) := ⟨h5_⟩
           have n6_ : Aside0 (gb268 ≠ gb269) := ⟨h6_⟩
           have n7_ : Aside0 (w.heap.size ≤ gb269) := ⟨h7_⟩
           have n8_ : Aside0 (w.heap.size ≤ gb269) := ⟨h8_⟩
           have n9_ : Aside0 (Below w.heap.size w w15) := ⟨h9_⟩
           clear HB
           clear h0_ h1_ h2_ h3_ h4_ h5_ h6_ h7_ h8_ h9_
           have HO256 := n0_
           have BK268 := n1_
           have BK269 := n2_
           have GW268 := n3_
           have GE268 := n4_
           have NB269_268 := n5_
           have NB268_269 := n6_
           have GW269 := n7_
           have GE269 := n8_
           have HB := n9_
           clear n0_ n1_ n2_ n3_ n4_ n5_ n6_ n7_ n8_ n9_
           have hHeld := hS_
           refine norm_ (a' := ?_) ?_ ?_
           rotate_left
           ·
            simp only [putAll, Act.put, List.setIfInBounds_toArray, List.set_cons_zero, List.set_cons_succ]
            rfl
           refine one_ (i := 9) (N := some 22) (upT 12 2) rfl rfl (one_of HT_.out (by kernel_rfl)) (by decide) (fun K hK => ?_)
           refine goes_ Try.func41 (by kernel_rfl) rfl #[.agg #[.int .i64 ((rd_T73 l0 x10_1).f0), .float .f64 ((rd_T73 l0 x10_1).f1.f0), .float .f64 ((rd_T73 l0 x10_1).f1.f1), .int .i64 ((rd_T73 l0 x10_1).f2.f0), .int .i64 ((rd_T73 l0 x10_1).f2.f1), .int .i64 ((rd_T73 l0 x10_1).f2.f2), .int .i64 ((rd_T73 l0 x10_1).f2.f3), .int .u8 ((rd_T73 l0 x10_1).f2.f4), .int .i64 ((rd_T73 l0 x10_1).f3), .int .i64 ((rd_T73 l0 x10_1).f4), .slice A248_10 ((rd_T73 l0 x10_1).f5).length c248_10, .slice A248_11 ((rd_T73 l0 x10_1).f6).length c248_11]] (by rfl) rfl rfl (by (try simp only [List.map_toArray, List.map_cons, List.map_nil]); first | done | rfl | (simp only [List.length_drop, List.length_take]; rfl)) ?_
           with_reducible refine (pylonlaw12_wants.calls k1 ((rd_T73 l0 x10_1).f0) ((rd_T73 l0 x10_1).f1.f0) ((rd_T73 l0 x10_1).f1.f1) ((rd_T73 l0 x10_1).f2.f0) ((rd_T73 l0 x10_1).f2.f1) ((rd_T73 l0 x10_1).f2.f2) ((rd_T73 l0 x10_1).f2.f3) ((rd_T73 l0 x10_1).f2.f4) ((rd_T73 l0 x10_1).f3) ((rd_T73 l0 x10_1).f4) _ _ ((rd_T73 l0 x10_1).f5) _ _ ((rd_T73 l0 x10_1).f6) t259 t260 t261 t262 t263 t264 t267 _ ?side1 ?side2 ?side3 ?side4 A9.out).mono ?_
           (case side1 => repeat (first | exact (Kd.C_below HR258_10.out HB.out) | (with_reducible refine Kd.C_alloc ?_ _) | (with_reducible refine Kd.C_drewN ?_ _) | (with_reducible refine Kd.C_drew ?_)))
           (case side2 => exact HC258_10.out)
           (case side3 => repeat (first | exact (Kd.C_below HR258_11.out HB.out) | (with_reducible refine Kd.C_alloc ?_ _) | (with_reducible refine Kd.C_drewN ?_ _) | (with_reducible refine Kd.C_drew ?_)))
           (case side4 => exact HC258_11.out)
           rintro e w16 ⟨v265, rfl, ho0, hb⟩
           refine ⟨_, rfl, ?_⟩
           have n0_ := Aside0.mk (Kd.R_elder' (by (with_reducible repeat (first | apply Kd.R_alloc | apply Kd.R_drewN | apply Kd.R_drew)); exact HO256.out) (Kd.R_base ho0) hb)
           have n1_ := Aside0.mk (Kd.R_lower (Kd.R_new' ho0 (Kd.R_lt (by (with_reducible repeat (first | apply Kd.R_alloc | apply Kd.R_drewN | apply Kd.R_drew)); exact HO256.out))) (below_size (by repeat (first | (with_reducible first | exact HB.out | apply lA_ | apply lN_ | apply l1_ | refine lS_ ?_ GE268.out | refine lS_ ?_ GE269.out) | exact HB.out))))
           have n2_ := Aside0.mk (bB_ (g := gb268) (o := .cells #[.bool false, .complex .f64 0 0, .int .i64 0, .int .i64 0, .int .i64 0, .slice none 0 0, .int .i64 0] 70 (0, 0)) (by (with_reducible repeat (first | refine bN_ ?_ _ | refine bD_ ?_ | refine bA_ ?_ _)); exact BK268.out) hb)
           have n3_ := Aside0.mk (bB_ (g := gb269) (o := .cells #[.bool false, .complex .f64 0 0, .int .i64 0, .int .i64 0, .int .i64 0, .slice none 0 0, .int .i64 0] 70 (0, 0)) (by (with_reducible repeat (first | refine bN_ ?_ _ | refine bD_ ?_ | refine bA_ ?_ _)); exact BK269.out) hb)
           have n4_ := Aside0.mk (below_step (by repeat (first | (with_reducible first | exact HB.out | apply lA_ | apply lN_ | apply l1_ | refine lS_ ?_ GE268.out | refine lS_ ?_ GE269.out) | exact HB.out)) hb)
           clear HO256
           clear BK268
           clear BK269
           clear HB
           have HO256 := n0_
           have HO266 := n1_
           have BK268 := n2_
           have BK269 := n3_
           have HB := n4_
           clear n0_ n1_ n2_ n3_ n4_
           (try clear hb)
           (try clear hb2)
           (try clear hk)
           (try clear hi)
           (try clear ho0)
           refine hK.out _ _ ⟨(bc_ HB hw248_0), (bc_ HB hw248_1), (bc_ HB hw248_2), (bc_ HB hw248_3), (bc_ HB hw248_4), (bc_ HB hw248_5), (bc_ HB hw248_6), (bc_ HB hw248_7), (bc_ HB hw248_8), (bc_ HB hw248_9), (bc_ HB hw248_10), (bc_ HB hw248_11), (bc_ HB hw258_0), (bc_ HB hw258_1), (bc_ HB hw258_2), (bc_ HB hw258_3), (bc_ HB hw258_4), (bc_ HB hw258_5), (bc_ HB hw258_6), (bc_ HB hw258_7), (bc_ HB hw258_8), (bc_ HB hw258_9), (bc_ HB hw258_10), (bc_ HB hw258_11)⟩ (fun hHeld => ?_)
           clear hK K
           refine norm_ (a' := ?_) ?_ ?_
           rotate_left
           ·
            show Act.put _ (some 22) _ = _
            simp only [putS]
            rfl
           exact norm_ (by first | (simp only [putAll, Act.put, List.setIfInBounds_toArray, List.set_cons_zero, List.set_cons_succ]; done) | (simp only [putAll, Act.put, List.setIfInBounds_toArray, List.set_cons_zero, List.set_cons_succ]; rfl)) (hJ4_9_10_11 (v255, v265, gb268, gb269) _ ⟨hHeld, (by (with_reducible repeat (first | apply Kd.R_alloc | apply Kd.R_drewN | apply Kd.R_drew)); exact Kd.R_mono HO256.out (fun _ hk => hk.2)), (by (with_reducible repeat (first | apply Kd.R_alloc | apply Kd.R_drewN | apply Kd.R_drew)); exact Kd.R_mono HO266.out (fun _ hk => hk.2)), (by (with_reducible repeat (first | refine bN_ ?_ _ | refine bD_ ?_ | refine bA_ ?_ _)); exact BK268.out), (by (with_reducible repeat (first | refine bN_ ?_ _ | refine bD_ ?_ | refine bA_ ?_ _)); exact BK269.out), GW268.out, GE268.out, NB269_268.out, NB268_269.out, GW269.out, GE269.out, (by repeat (first | (with_reducible first | exact HB.out | apply lA_ | apply lN_ | apply l1_ | refine lS_ ?_ GE268.out | refine lS_ ?_ GE269.out) | exact HB.out))⟩)
         ·
          skip
          rintro ⟨v255, v265, gb269⟩ w15 ⟨hS_, h0_, h1_, h2_, h3_, h4_, h5_⟩
          have n0_ : Aside0 (Kd.R Kd.c128 31 w15 w.heap.size (fun k_ => some k_ ≠ (v265 : Value).ownBlock) v255 t254) := ⟨h0_⟩
          have n1_ : Aside0 (Kd.R Kd.c128 31 w15 w.heap.size (fun k_ => some k_ ≠ (v255 : Value).ownBlock) v265 t264) := ⟨h1_⟩
          have n2_ : Aside0 (w15.heap[gb269]? = some (.cells #[.bool false, .complex .f64 0 0, .int .i64 0, .int .i64 0, .int .i64 0, .slice none 0 0, .int .i64 0] 70 (0, 0))) := ⟨h2_⟩
          have n3_ : Aside0 (w.heap.size ≤ gb269) := ⟨h3_⟩
          have n4_ : Aside0 (w.heap.size ≤ gb269) := ⟨h4_⟩
          have n5_ : Aside0 (Below w.heap.size w w15) := ⟨h5_⟩
          clear HB
          clear h0_ h1_ h2_ h3_ h4_ h5_
          have HO256 := n0_
          have HO266 := n1_
          have BK269 := n2_
          have GW269 := n3_
          have GE269 := n4_
          have HB := n5_
          clear n0_ n1_ n2_ n3_ n4_ n5_
          have hHeld := hS_
          refine norm_ (a' := ?_) ?_ ?_
          rotate_left
          ·
           simp only [putAll, Act.put, List.setIfInBounds_toArray, List.set_cons_zero, List.set_cons_succ]
           rfl
          refine one_ (i := 10) (N := some 4) (upT 12 2) rfl rfl (one_of HT_.out (by kernel_rfl)) (by decide) (fun K hK => ?_)
          refine box_step ?hg (N := 4) ?hd (cs := #[.bool false, .complex .f64 0 0, .int .i64 0, .int .i64 0, .int .i64 0, .slice none 0 0, .int .i64 0]) (t := 70) ?hr ?_; (case hd => rfl); (case hg => rfl); (case hr => first | (go_simp; done) | (go_simp; rfl))
          intro gb268 hg w16 hbox hb
          have n0_ := Aside0.mk (Kd.R_below (by (with_reducible repeat (first | apply Kd.R_alloc | apply Kd.R_drewN | apply Kd.R_drew)); exact HO256.out) hb)
          have n1_ := Aside0.mk (Kd.R_below (by (with_reducible repeat (first | apply Kd.R_alloc | apply Kd.R_drewN | apply Kd.R_drew)); exact HO266.out) hb)
          have n2_ := Aside0.mk (bB_ (g := gb269) (o := .cells #[.bool false, .complex .f64 0 0, .int .i64 0, .int .i64 0, .int .i64 0, .slice none 0 0, .int .i64 0] 70 (0, 0)) (by (with_reducible repeat (first | refine bN_ ?_ _ | refine bD_ ?_ | refine bA_ ?_ _)); exact BK269.out) hb)
          have n3_ := Aside0.mk (below_step (by repeat (first | (with_reducible first | exact HB.out | apply lA_ | apply lN_ | apply l1_ | refine lS_ ?_ GE269.out) | exact HB.out)) hb)
          have n4_ := Aside0.mk (hbox)
          have n5_ := Aside0.mk ((by rw [hg]; exact (below_size (by repeat (first | (with_reducible first | exact HB.out | apply lA_ | apply lN_ | apply l1_ | refine lS_ ?_ GE269.out) | exact HB.out))) : w.heap.size ≤ gb268))
          have n6_ := Aside0.mk ((by rw [hg]; exact (below_size (by repeat (first | (with_reducible first | exact HB.out | apply lA_ | apply lN_ | apply l1_ | refine lS_ ?_ GE269.out) | exact HB.out))) : w.heap.size ≤ gb268))
          have n7_ := Aside0.mk ((by rw [hg]; exact Nat.ne_of_lt (blk_lt (g := gb269) (o := .cells #[.bool false, .complex .f64 0 0, .int .i64 0, .int .i64 0, .int .i64 0, .slice none 0 0, .int .i64 0] 70 (0, 0)) (by (with_reducible repeat (first | refine bN_ ?_ _ | refine bD_ ?_ | refine bA_ ?_ _)); exact BK269.out)) : gb269 ≠ gb268))
          have n8_ := Aside0.mk ((by rw [hg]; exact Nat.ne_of_gt (blk_lt (g := gb269) (o := .cells #[.bool false, .complex .f64 0 0, .int .i64 0, .int .i64 0, .int .i64 0, .slice none 0 0, .int .i64 0] 70 (0, 0)) (by (with_reducible repeat (first | refine bN_ ?_ _ | refine bD_ ?_ | refine bA_ ?_ _)); exact BK269.out)) : gb268 ≠ gb269))
          clear HO256
          clear HO266
          clear BK269
          clear HB
          have HO256 := n0_
          have HO266 := n1_
          have BK269 := n2_
          have HB := n3_
          have BK268 := n4_
          have GW268 := n5_
          have GE268 := n6_
          have NB269_268 := n7_
          have NB268_269 := n8_
          clear n0_ n1_ n2_ n3_ n4_ n5_ n6_ n7_ n8_
          clear hb hbox hg
          refine hK.out _ _ ⟨(bc_ HB hw248_0), (bc_ HB hw248_1), (bc_ HB hw248_2), (bc_ HB hw248_3), (bc_ HB hw248_4), (bc_ HB hw248_5), (bc_ HB hw248_6), (bc_ HB hw248_7), (bc_ HB hw248_8), (bc_ HB hw248_9), (bc_ HB hw248_10), (bc_ HB hw248_11), (bc_ HB hw258_0), (bc_ HB hw258_1), (bc_ HB hw258_2), (bc_ HB hw258_3), (bc_ HB hw258_4), (bc_ HB hw258_5), (bc_ HB hw258_6), (bc_ HB hw258_7), (bc_ HB hw258_8), (bc_ HB hw258_9), (bc_ HB hw258_10), (bc_ HB hw258_11)⟩ (fun hHeld => ?_)
          clear hK K
          refine norm_ (a' := ?_) ?_ ?_
          rotate_left
          ·
           show Act.put _ (some 4) _ = _
           simp only [putS]
           rfl
          exact norm_ (by first | (simp only [putAll, Act.put, List.setIfInBounds_toArray, List.set_cons_zero, List.set_cons_succ]; done) | (simp only [putAll, Act.put, List.setIfInBounds_toArray, List.set_cons_zero, List.set_cons_succ]; rfl)) (hJ4_9_10_11 (v255, v265, gb268, gb269) _ ⟨hHeld, (by (with_reducible repeat (first | apply Kd.R_alloc | apply Kd.R_drewN | apply Kd.R_drew)); exact HO256.out), (by (with_reducible repeat (first | apply Kd.R_alloc | apply Kd.R_drewN | apply Kd.R_drew)); exact HO266.out), (by (with_reducible repeat (first | refine bN_ ?_ _ | refine bD_ ?_ | refine bA_ ?_ _)); exact BK268.out), (by (with_reducible repeat (first | refine bN_ ?_ _ | refine bD_ ?_ | refine bA_ ?_ _)); exact BK269.out), GW268.out, GE268.out, NB269_268.out, NB268_269.out, GW269.out, GE269.out, (by repeat (first | (with_reducible first | exact HB.out | apply lA_ | apply lN_ | apply l1_ | refine lS_ ?_ GE269.out | refine lS_ ?_ GE268.out) | exact HB.out))⟩)
        ·
         skip
         rintro ⟨v255, v265, gb268⟩ w15 ⟨hS_, h0_, h1_, h2_, h3_, h4_, h5_⟩
         have n0_ : Aside0 (Kd.R Kd.c128 31 w15 w.heap.size (fun k_ => some k_ ≠ (v265 : Value).ownBlock) v255 t254) := ⟨h0_⟩
         have n1_ : Aside0 (Kd.R Kd.c128 31 w15 w.heap.size (fun k_ => some k_ ≠ (v255 : Value).ownBlock) v265 t264) := ⟨h1_⟩
         have n2_ : Aside0 (w15.heap[gb268]? = some (.cells #[.bool false, .complex .f64 0 0, .int .i64 0, .int .i64 0, .int .i64 0, .slice none 0 0, .int .i64 0] 70 (0, 0))) := ⟨h2_⟩
         have n3_ : Aside0 (w.heap.size ≤ gb268) := ⟨h3_⟩
         have n4_ : Aside0 (w.heap.size ≤ gb268) := ⟨h4_⟩
         have n5_ : Aside0 (Below w.heap.size w w15) := ⟨h5_⟩
         clear HB
         clear h0_ h1_ h2_ h3_ h4_ h5_
         have HO256 := n0_
         have HO266 := n1_
         have BK268 := n2_
         have GW268 := n3_
         have GE268 := n4_
         have HB := n5_
         clear n0_ n1_ n2_ n3_ n4_ n5_
         have hHeld := hS_
         refine norm_ (a' := ?_) ?_ ?_
         rotate_left
         ·
          simp only [putAll, Act.put, List.setIfInBounds_toArray, List.set_cons_zero, List.set_cons_succ]
          rfl
         refine one_ (i := 11) (N := some 5) (upT 12 2) rfl rfl (one_of HT_.out (by kernel_rfl)) (by decide) (fun K hK => ?_)
         refine box_step ?hg (N := 5) ?hd (cs := #[.bool false, .complex .f64 0 0, .int .i64 0, .int .i64 0, .int .i64 0, .slice none 0 0, .int .i64 0]) (t := 70) ?hr ?_; (case hd => rfl); (case hg => rfl); (case hr => first | (go_simp; done) | (go_simp; rfl))
         intro gb269 hg w16 hbox hb
         have n0_ := Aside0.mk (Kd.R_below (by (with_reducible repeat (first | apply Kd.R_alloc | apply Kd.R_drewN | apply Kd.R_drew)); exact HO256.out) hb)
         have n1_ := Aside0.mk (Kd.R_below (by (with_reducible repeat (first | apply Kd.R_alloc | apply Kd.R_drewN | apply Kd.R_drew)); exact HO266.out) hb)
         have n2_ := Aside0.mk (bB_ (g := gb268) (o := .cells #[.bool false, .complex .f64 0 0, .int .i64 0, .int .i64 0, .int .i64 0, .slice none 0 0, .int .i64 0] 70 (0, 0)) (by (with_reducible repeat (first | refine bN_ ?_ _ | refine bD_ ?_ | refine bA_ ?_ _)); exact BK268.out) hb)
         have n3_ := Aside0.mk (below_step (by repeat (first | (with_reducible first | exact HB.out | apply lA_ | apply lN_ | apply l1_ | refine lS_ ?_ GE268.out) | exact HB.out)) hb)
         have n4_ := Aside0.mk (hbox)
         have n5_ := Aside0.mk ((by rw [hg]; exact (below_size (by repeat (first | (with_reducible first | exact HB.out | apply lA_ | apply lN_ | apply l1_ | refine lS_ ?_ GE268.out) | exact HB.out))) : w.heap.size ≤ gb269))
         have n6_ := Aside0.mk ((by rw [hg]; exact (below_size (by repeat (first | (with_reducible first | exact HB.out | apply lA_ | apply lN_ | apply l1_ | refine lS_ ?_ GE268.out) | exact HB.out))) : w.heap.size ≤ gb269))
         have n7_ := Aside0.mk ((by rw [hg]; exact Nat.ne_of_lt (blk_lt (g := gb268) (o := .cells #[.bool false, .complex .f64 0 0, .int .i64 0, .int .i64 0, .int .i64 0, .slice none 0 0, .int .i64 0] 70 (0, 0)) (by (with_reducible repeat (first | refine bN_ ?_ _ | refine bD_ ?_ | refine bA_ ?_ _)); exact BK268.out)) : gb268 ≠ gb269))
         have n8_ := Aside0.mk ((by rw [hg]; exact Nat.ne_of_gt (blk_lt (g := gb268) (o := .cells #[.bool false, .complex .f64 0 0, .int .i64 0, .int .i64 0, .int .i64 0, .slice none 0 0, .int .i64 0] 70 (0, 0)) (by (with_reducible repeat (first | refine bN_ ?_ _ | refine bD_ ?_ | refine bA_ ?_ _)); exact BK268.out)) : gb269 ≠ gb268))
         clear HO256
         clear HO266
         clear BK268
         clear HB
         have HO256 := n0_
         have HO266 := n1_
         have BK268 := n2_
         have HB := n3_
         have BK269 := n4_
         have GW269 := n5_
         have GE269 := n6_
         have NB268_269 := n7_
         have NB269_268 := n8_
         clear n0_ n1_ n2_ n3_ n4_ n5_ n6_ n7_ n8_
         clear hb hbox hg
         refine hK.out _ _ ⟨(bc_ HB hw248_0), (bc_ HB hw248_1), (bc_ HB hw248_2), (bc_ HB hw248_3), (bc_ HB hw248_4), (bc_ HB hw248_5), (bc_ HB hw248_6), (bc_ HB hw248_7), (bc_ HB hw248_8), (bc_ HB hw248_9), (bc_ HB hw248_10), (bc_ HB hw248_11), (bc_ HB hw258_0), (bc_ HB hw258_1), (bc_ HB hw258_2), (bc_ HB hw258_3), (bc_ HB hw258_4), (bc_ HB hw258_5), (bc_ HB hw258_6), (bc_ HB hw258_7), (bc_ HB hw258_8), (bc_ HB hw258_9), (bc_ HB hw258_10), (bc_ HB hw258_11)⟩ (fun hHeld => ?_)
         clear hK K
         refine norm_ (a' := ?_) ?_ ?_
         rotate_left
         ·
          show Act.put _ (some 5) _ = _
          simp only [putS]
          rfl
         exact norm_ (by first | (simp only [putAll, Act.put, List.setIfInBounds_toArray, List.set_cons_zero, List.set_cons_succ]; done) | (simp only [putAll, Act.put, List.setIfInBounds_toArray, List.set_cons_zero, List.set_cons_succ]; rfl)) (hJ4_9_10_11 (v255, v265, gb268, gb269) _ ⟨hHeld, (by (with_reducible repeat (first | apply Kd.R_alloc | apply Kd.R_drewN | apply Kd.R_drew)); exact HO256.out), (by (with_reducible repeat (first | apply Kd.R_alloc | apply Kd.R_drewN | apply Kd.R_drew)); exact HO266.out), (by (with_reducible repeat (first | refine bN_ ?_ _ | refine bD_ ?_ | refine bA_ ?_ _)); exact BK268.out), (by (with_reducible repeat (first | refine bN_ ?_ _ | refine bD_ ?_ | refine bA_ ?_ _)); exact BK269.out), GW268.out, GE268.out, NB269_268.out, NB268_269.out, GW269.out, GE269.out, (by repeat (first | (with_reducible first | exact HB.out | apply lA_ | apply lN_ | apply l1_ | refine lS_ ?_ GE268.out | refine lS_ ?_ GE269.out) | exact HB.out))⟩)
       rintro ⟨v255, v265, gb268, gb269⟩ w16 ⟨hS_, h0_, h1_, h2_, h3_, h4_, h5_, h6_, h7_, h8_, h9_, h10_⟩
       have n0_ : Aside0 (Kd.R Kd.c128 31 w16 w.heap.size (fun k_ => some k_ ≠ (v265 : Value).ownBlock) v255 t254) := ⟨h0_⟩
       have n1_ : Aside0 (Kd.R Kd.c128 31 w16 w.heap.size (fun k_ => some k_ ≠ (v255 : Value).ownBlock) v265 t264) := ⟨h1_⟩
       have n2_ : Aside0 (w16.heap[gb268]? = some (.cells #[.bool false, .complex .f64 0 0, .int .i64 0, .int .i64 0, .int .i64 0, .slice none 0 0, .int .i64 0] 70 (0, 0))) := ⟨h2_⟩
       have n3_ : Aside0 (w16.heap[gb269]? = some (.cells #[.bool false, .complex .f64 0 0, .int .i64 0, .int .i64 0, .int .i64 0, .slice none 0 0, .int .i64 0] 70 (0, 0))) := ⟨h3_⟩
       have n4_ : Aside0 (w.heap.size ≤ gb268) := ⟨h4_⟩
       have n5_ : Aside0 (w.heap.size ≤ gb268) := ⟨h5_⟩
       have n6_ : Aside0 (gb269 ≠ gb268) := ⟨h6_⟩
       have n7_ : Aside0 (gb268 ≠ gb269) := ⟨h7_⟩
       have n8_ : Aside0 (w.heap.size ≤ gb269) := ⟨h8_⟩
       have n9_ : Aside0 (w.heap.size ≤ gb269) := ⟨h9_⟩
       have n10_ : Aside0 (Below w.heap.size w w16) := ⟨h10_⟩
       clear HB
       clear h0_ h1_ h2_ h3_ h4_ h5_ h6_ h7_ h8_ h9_ h10_
       have HO256 := n0_
       have HO266 := n1_
       have BK268 := n2_
       have BK269 := n3_
       have GW268 := n4_
       have GE268 := n5_
       have NB269_268 := n6_
       have NB268_269 := n7_
       have GW269 := n8_
       have GE269 := n9_
       have HB := n10_
       clear n0_ n1_ n2_ n3_ n4_ n5_ n6_ n7_ n8_ n9_ n10_
       have hHeld := hS_
       obtain ⟨Ao22, co22, eo22⟩ := Kd.R_slice HO256.out
       (first | subst eo22 | (injection eo22 with f1_ f2_ f3_; have f4_ := f1_.symm; have f5_ := f3_.symm; clear f1_ f2_ f3_; subst f4_; subst f5_))
       obtain ⟨Ao30, co30, eo30⟩ := Kd.R_slice HO266.out
       (first | subst eo30 | (injection eo30 with f1_ f2_ f3_; have f4_ := f1_.symm; have f5_ := f3_.symm; clear f1_ f2_ f3_; subst f4_; subst f5_))
       refine norm_ (a' := ?_) ?_ ?_
       rotate_left
       ·
        simp only [putAll, Act.put, List.setIfInBounds_toArray, List.set_cons_zero, List.set_cons_succ]
        rfl
       refine one_ (i := 12) (N := none) (upT 13 1) rfl rfl (one_of HT_.out (by kernel_rfl)) (by decide) (fun K hK => ?_)
       have hs17 : w16.cell? ⟨gb268, 0, none⟩ = some (.bool false) := (bC_ BK268.out 0).trans rfl
       have hfs17 := bZ_ BK268.out 0
       have hns17_1 := NB269_268.out
       have hms17_1 := NB268_269.out
       have hs18 : w16.cell? ⟨gb268, 1, none⟩ = some (.complex .f64 0 0) := (bC_ BK268.out 1).trans rfl
       have hfs18 := bZ_ BK268.out 1
       have hns18_1 := NB269_268.out
       have hms18_1 := NB268_269.out
       have hs19 : w16.cell? ⟨gb268, 2, none⟩ = some (.int .i64 0) := (bC_ BK268.out 2).trans rfl
       have hfs19 := bZ_ BK268.out 2
       have hns19_1 := NB269_268.out
       have hms19_1 := NB268_269.out
       have hs20 : w16.cell? ⟨gb268, 3, none⟩ = some (.int .i64 0) := (bC_ BK268.out 3).trans rfl
       have hfs20 := bZ_ BK268.out 3
       have hns20_1 := NB269_268.out
       have hms20_1 := NB268_269.out
       have hs21 : w16.cell? ⟨gb268, 4, none⟩ = some (.int .i64 0) := (bC_ BK268.out 4).trans rfl
       have hfs21 := bZ_ BK268.out 4
       have hns21_1 := NB269_268.out
       have hms21_1 := NB268_269.out
       have hs23 : w16.cell? ⟨gb268, 5, none⟩ = some (.slice none 0 0) := (bC_ BK268.out 5).trans rfl
       have hfs23 := bZ_ BK268.out 5
       have hns23_1 := NB269_268.out
       have hms23_1 := NB268_269.out
       have hs24 : w16.cell? ⟨gb268, 6, none⟩ = some (.int .i64 0) := (bC_ BK268.out 6).trans rfl
       have hfs24 := bZ_ BK268.out 6
       have hns24_1 := NB269_268.out
       have hms24_1 := NB268_269.out
       (refine skip_ (w1 := ?_) ?hw_ ?hN_ ?_ ?_); (case hw_ => rfl); (case hN_ => rfl)
       rotate_left
       ·
        go_simp
        rfl
       refine hK.out _ _ ⟨((cell_far (p := ⟨gb268, _, none⟩) (nb_ hw248_0 GW268) _).trans (((cell_far (p := ⟨gb268, _, none⟩) (nb_ hw248_0 GW268) _).trans (((cell_far (p := ⟨gb268, _, none⟩) (nb_ hw248_0 GW268) _).trans (((cell_far (p := ⟨gb268, _, none⟩) (nb_ hw248_0 GW268) _).trans (((cell_far (p := ⟨gb268, _, none⟩) (nb_ hw248_0 GW268) _).trans (((cell_far (p := ⟨gb268, _, none⟩) (nb_ hw248_0 GW268) _).trans (((cell_far (p := ⟨gb268, _, none⟩) (nb_ hw248_0 GW268) _).trans (hHeld.1)))))))))))))), ((cell_far (p := ⟨gb268, _, none⟩) (nb_ hw248_1 GW268) _).trans (((cell_far (p := ⟨gb268, _, none⟩) (nb_ hw248_1 GW268) _).trans (((cell_far (p := ⟨gb268, _, none⟩) (nb_ hw248_1 GW268) _).trans (((cell_far (p := ⟨gb268, _, none⟩) (nb_ hw248_1 GW268) _).trans (((cell_far (p := ⟨gb268, _, none⟩) (nb_ hw248_1 GW268) _).trans (((cell_far (p := ⟨gb268, _, none⟩) (nb_ hw248_1 GW268) _).trans (((cell_far (p := ⟨gb268, _, none⟩) (nb_ hw248_1 GW268) _).trans (hHeld.2.1)))))))))))))), ((cell_far (p := ⟨gb268, _, none⟩) (nb_ hw248_2 GW268) _).trans (((cell_far (p := ⟨gb268, _, none⟩) (nb_ hw248_2 GW268) _).trans (((cell_far (p := ⟨gb268, _, none⟩) (nb_ hw248_2 GW268) _).trans (((cell_far (p := ⟨gb268, _, none⟩) (nb_ hw248_2 GW268) _).trans (((cell_far (p := ⟨gb268, _, none⟩) (nb_ hw248_2 GW268) _).trans (((cell_far (p := ⟨gb268, _, none⟩) (nb_ hw248_2 GW268) _).trans (((cell_far (p := ⟨gb268, _, none⟩) (nb_ hw248_2 GW268) _).trans (hHeld.2.2.1)))))))))))))), ((cell_far (p := ⟨gb268, _, none⟩) (nb_ hw248_3 GW268) _).trans (((cell_far (p := ⟨gb268, _, none⟩) (nb_ hw248_3 GW268) _).trans (((cell_far (p := ⟨gb268, _, none⟩) (nb_ hw248_3 GW268) _).trans (((cell_far (p := ⟨gb268, _, none⟩) (nb_ hw248_3 GW268) _).trans (((cell_far (p := ⟨gb268, _, none⟩) (nb_ hw248_3 GW268) _).trans (((cell_far (p := ⟨gb268, _, none⟩) (nb_ hw248_3 GW268) _).trans (((cell_far (p := ⟨gb268, _, none⟩) (nb_ hw248_3 GW268) _).trans (hHeld.2.2.2.1)))))))))))))), ((cell_far (p := ⟨gb268, _, none⟩) (nb_ hw248_4 GW268) _).trans (((cell_far (p := ⟨gb268, _, none⟩) (nb_ hw248_4 GW268) _).trans (((cell_far (p := ⟨gb268, _, none⟩) (nb_ hw248_4 GW268) _).trans (((cell_far (p := ⟨gb268, _, none⟩) (nb_ hw248_4 GW268) _).trans (((cell_far (p := ⟨gb268, _, none⟩) (nb_ hw248_4 GW268) _).trans (((cell_far (p := ⟨gb268, _, none⟩) (nb_ hw248_4 GW268) _).trans (((cell_far (p := ⟨gb268, _, none⟩) (nb_ hw248_4 GW268) _).trans (hHeld.2.2.2.2.1)))))))))))))), ((cell_far (p := ⟨gb268, _, none⟩) (nb_ hw248_5 GW268) _).trans (((cell_far (p := ⟨gb268, _, none⟩) (nb_ hw248_5 GW268) _).trans (((cell_far (p := ⟨gb268, _, none⟩) (nb_ hw248_5 GW268) _).trans (((cell_far (p := ⟨gb268, _, none⟩) (nb_ hw248_5 GW268) _).trans (((cell_far (p := ⟨gb268, _, none⟩) (nb_ hw248_5 GW268) _).trans (((cell_far (p := ⟨gb268, _, none⟩) (nb_ hw248_5 GW268) _).trans (((cell_far (p := ⟨gb268, _, none⟩) (nb_ hw248_5 GW268) _).trans (hHeld.2.2.2.2.2.1)))))))))))))), ((cell_far (p := ⟨gb268, _, none⟩) (nb_ hw248_6 GW268) _).trans (((cell_far (p := ⟨gb268, _, none⟩) (nb_ hw248_6 GW268) _).trans (((cell_far (p := ⟨gb268, _, none⟩) (nb_ hw248_6 GW268) _).trans (((cell_far (p := ⟨gb268, _, none⟩) (nb_ hw248_6 GW268) _).trans (((cell_far (p := ⟨gb268, _, none⟩) (nb_ hw248_6 GW268) _).trans (((cell_far (p := ⟨gb268, _, none⟩) (nb_ hw248_6 GW268) _).trans (((cell_far (p := ⟨gb268, _, none⟩) (nb_ hw248_6 GW268) _).trans (hHeld.2.2.2.2.2.2.1)))))))))))))), ((cell_far (p := ⟨gb268, _, none⟩) (nb_ hw248_7 GW268) _).trans (((cell_far (p := ⟨gb268, _, none⟩) (nb_ hw248_7 GW268) _).trans (((cell_far (p := ⟨gb268, _, none⟩) (nb_ hw248_7 GW268) _).trans (((cell_far (p := ⟨gb268, _, none⟩) (nb_ hw248_7 GW268) _).trans (((cell_far (p := ⟨gb268, _, none⟩) (nb_ hw248_7 GW268) _).trans (((cell_far (p := ⟨gb268, _, none⟩) (nb_ hw248_7 GW268) _).trans (((cell_far (p := ⟨gb268, _, none⟩) (nb_ hw248_7 GW268) _).trans (hHeld.2.2.2.2.2.2.2.1)))))))))))))), ((cell_far (p := ⟨gb268, _, none⟩) (nb_ hw248_8 GW268) _).trans (((cell_far (p := ⟨gb268, _, none⟩) (nb_ hw248_8 GW268) _).trans (((cell_far (p := ⟨gb268, _, none⟩) (nb_ hw248_8 GW268) _).trans (((cell_far (p := ⟨gb268, _, none⟩) (nb_ hw248_8 GW268) _).trans (((cell_far (p := ⟨gb268, _, none⟩) (nb_ hw248_8 GW268) _).trans (((cell_far (p := ⟨gb268, _, none⟩) (nb_ hw248_8 GW268) _).trans (((cell_far (p := ⟨gb268, _, none⟩) (nb_ hw248_8 GW268) _).trans (hHeld.2.2.2.2.2.2.2.2.1)))))))))))))), ((cell_far (p := ⟨gb268, _, none⟩) (nb_ hw248_9 GW268) _).trans (((cell_far (p := ⟨gb268, _, none⟩) (nb_ hw248_9 GW268) _).trans (((cell_far (p := ⟨gb268, _, none⟩) (nb_ hw248_9 GW268) _).trans (((cell_far (p := ⟨gb268, _, none⟩) (nb_ hw248_9 GW268) _).trans (((cell_far (p := ⟨gb268, _, none⟩) (nb_ hw248_9 GW268) _).trans (((cell_far (p := ⟨gb268, _, none⟩) (nb_ hw248_9 GW268) _).trans (((cell_far (p := ⟨gb268, _, none⟩) (nb_ hw248_9 GW268) _).trans (hHeld.2.2.2.2.2.2.2.2.2.1)))))))))))))), ((cell_far (p := ⟨gb268, _, none⟩) (nb_ hw248_10 GW268) _).trans (((cell_far (p := ⟨gb268, _, none⟩) (nb_ hw248_10 GW268) _).trans (((cell_far (p := ⟨gb268, _, none⟩) (nb_ hw248_10 GW268) _).trans (((cell_far (p := ⟨gb268, _, none⟩) (nb_ hw248_10 GW268) _).trans (((cell_far (p := ⟨gb268, _, none⟩) (nb_ hw248_10 GW268) _).trans (((cell_far (p := ⟨gb268, _, none⟩) (nb_ hw248_10 GW268) _).trans (((cell_far (p := ⟨gb268, _, none⟩) (nb_ hw248_10 GW268) _).trans (hHeld.2.2.2.2.2.2.2.2.2.2.1)))))))))))))), ((cell_far (p := ⟨gb268, _, none⟩) (nb_ hw248_11 GW268) _).trans (((cell_far (p := ⟨gb268, _, none⟩) (nb_ hw248_11 GW268) _).trans (((cell_far (p := ⟨gb268, _, none⟩) (nb_ hw248_11 GW268) _).trans (((cell_far (p := ⟨gb268, _, none⟩) (nb_ hw248_11 GW268) _).trans (((cell_far (p := ⟨gb268, _, none⟩) (nb_ hw248_11 GW268) _).trans (((cell_far (p := ⟨gb268, _, none⟩) (nb_ hw248_11 GW268) _).trans (((cell_far (p := ⟨gb268, _, none⟩) (nb_ hw248_11 GW268) _).trans (hHeld.2.2.2.2.2.2.2.2.2.2.2.1)))))))))))))), ((cell_far (p := ⟨gb268, _, none⟩) (nb_ hw258_0 GW268) _).trans (((cell_far (p := ⟨gb268, _, none⟩) (nb_ hw258_0 GW268) _).trans (((cell_far (p := ⟨gb268, _, none⟩) (nb_ hw258_0 GW268) _).trans (((cell_far (p := ⟨gb268, _, none⟩) (nb_ hw258_0 GW268) _).trans (((cell_far (p := ⟨gb268, _, none⟩) (nb_ hw258_0 GW268) _).trans (((cell_far (p := ⟨gb268, _, none⟩) (nb_ hw258_0 GW268) _).trans (((cell_far (p := ⟨gb268, _, none⟩) (nb_ hw258_0 GW268) _).trans (hHeld.2.2.2.2.2.2.2.2.2.2.2.2.1)))))))))))))), ((cell_far (p := ⟨gb268, _, none⟩) (nb_ hw258_1 GW268) _).trans (((cell_far (p := ⟨gb268, _, none⟩) (nb_ hw258_1 GW268) _).trans (((cell_far (p := ⟨gb268, _, none⟩) (nb_ hw258_1 GW268) _).trans (((cell_far (p := ⟨gb268, _, none⟩) (nb_ hw258_1 GW268) _).trans (((cell_far (p := ⟨gb268, _, none⟩) (nb_ hw258_1 GW268) _).trans (((cell_far (p := ⟨gb268, _, none⟩) (nb_ hw258_1 GW268) _).trans (((cell_far (p := ⟨gb268, _, none⟩) (nb_ hw258_1 GW268) _).trans (hHeld.2.2.2.2.2.2.2.2.2.2.2.2.2.1)))))))))))))), ((cell_far (p := ⟨gb268, _, none⟩) (nb_ hw258_2 GW268) _).trans (((cell_far (p := ⟨gb268, _, none⟩) (nb_ hw258_2 GW268) _).trans (((cell_far (p := ⟨gb268, _, none⟩) (nb_ hw258_2 GW268) _).trans (((cell_far (p := ⟨gb268, _, none⟩) (nb_ hw258_2 GW268) _).trans (((cell_far (p := ⟨gb268, _, none⟩) (nb_ hw258_2 GW268) _).trans (((cell_far (p := ⟨gb268, _, none⟩) (nb_ hw258_2 GW268) _).trans (((cell_far (p := ⟨gb268, _, none⟩) (nb_ hw258_2 GW268) _).trans (hHeld.2.2.2.2.2.2.2.2.2.2.2.2.2.2.1)))))))))))))), ((cell_far (p := ⟨gb268, _, none⟩) (nb_ hw258_3 GW268) _).trans (((cell_far (p := ⟨gb268, _, none⟩) (nb_ hw258_3 GW268) _).trans (((cell_far (p := ⟨gb268, _, none⟩) (nb_ hw258_3 GW268) _).trans (((cell_far (p := ⟨gb268, _, none⟩) (nb_ hw258_3 GW268) _).trans (((cell_far (p := ⟨gb268, _, none⟩) (nb_ hw258_3 GW268) _).trans (((cell_far (p := ⟨gb268, _, none⟩) (nb_ hw258_3 GW268) _).trans (((cell_far (p := ⟨gb268, _, none⟩) (nb_ hw258_3 GW268) _).trans (hHeld.2.2.2.2.2.2.2.2.2.2.2.2.2.2.2.1)))))))))))))), ((cell_far (p := ⟨gb268, _, none⟩) (nb_ hw258_4 GW268) _).trans (((cell_far (p := ⟨gb268, _, none⟩) (nb_ hw258_4 GW268) _).trans (((cell_far (p := ⟨gb268, _, none⟩) (nb_ hw258_4 GW268) _).trans (((cell_far (p := ⟨gb268, _, none⟩) (nb_ hw258_4 GW268) _).trans (((cell_far (p := ⟨gb268, _, none⟩) (nb_ hw258_4 GW268) _).trans (((cell_far (p := ⟨gb268, _, none⟩) (nb_ hw258_4 GW268) _).trans (((cell_far (p := ⟨gb268, _, none⟩) (nb_ hw258_4 GW268) _).trans (hHeld.2.2.2.2.2.2.2.2.2.2.2.2.2.2.2.2.1)))))))))))))), ((cell_far (p := ⟨gb268, _, none⟩) (nb_ hw258_5 GW268) _).trans (((cell_far (p := ⟨gb268, _, none⟩) (nb_ hw258_5 GW268) _).trans (((cell_far (p := ⟨gb268, _, none⟩) (nb_ hw258_5 GW268) _).trans (((cell_far (p := ⟨gb268, _, none⟩) (nb_ hw258_5 GW268) _).trans (((cell_far (p := ⟨gb268, _, none⟩) (nb_ hw258_5 GW268) _).trans (((cell_far (p := ⟨gb268, _, none⟩) (nb_ hw258_5 GW268) _).trans (((cell_far (p := ⟨gb268, _, none⟩) (nb_ hw258_5 GW268) _).trans (hHeld.2.2.2.2.2.2.2.2.2.2.2.2.2.2.2.2.2.1)))))))))))))), ((cell_far (p := ⟨gb268, _, none⟩) (nb_ hw258_6 GW268) _).trans (((cell_far (p := ⟨gb268, _, none⟩) (nb_ hw258_6 GW268) _).trans (((cell_far (p := ⟨gb268, _, none⟩) (nb_ hw258_6 GW268) _).trans (((cell_far (p := ⟨gb268, _, none⟩) (nb_ hw258_6 GW268) _).trans (((cell_far (p := ⟨gb268, _, none⟩) (nb_ hw258_6 GW268) _).trans (((cell_far (p := ⟨gb268, _, none⟩) (nb_ hw258_6 GW268) _).trans (((cell_far (p := ⟨gb268, _, none⟩) (nb_ hw258_6 GW268) _).trans (hHeld.2.2.2.2.2.2.2.2.2.2.2.2.2.2.2.2.2.2.1)))))))))))))), ((cell_far (p := ⟨gb268, _, none⟩) (nb_ hw258_7 GW268) _).trans (((cell_far (p := ⟨gb268, _, none⟩) (nb_ hw258_7 GW268) _).trans (((cell_far (p := ⟨gb268, _, none⟩) (nb_ hw258_7 GW268) _).trans (((cell_far (p := ⟨gb268, _, none⟩) (nb_ hw258_7 GW268) _).trans (((cell_far (p := ⟨gb268, _, none⟩) (nb_ hw258_7 GW268) _).trans (((cell_far (p := ⟨gb268, _, none⟩) (nb_ hw258_7 GW268) _).trans (((cell_far (p := ⟨gb268, _, none⟩) (nb_ hw258_7 GW268) _).trans (hHeld.2.2.2.2.2.2.2.2.2.2.2.2.2.2.2.2.2.2.2.1)))))))))))))), ((cell_far (p := ⟨gb268, _, none⟩) (nb_ hw258_8 GW268) _).trans (((cell_far (p := ⟨gb268, _, none⟩) (nb_ hw258_8 GW268) _).trans (((cell_far (p := ⟨gb268, _, none⟩) (nb_ hw258_8 GW268) _).trans (((cell_far (p := ⟨gb268, _, none⟩) (nb_ hw258_8 GW268) _).trans (((cell_far (p := ⟨gb268, _, none⟩) (nb_ hw258_8 GW268) _).trans (((cell_far (p := ⟨gb268, _, none⟩) (nb_ hw258_8 GW268) _).trans (((cell_far (p := ⟨gb268, _, none⟩) (nb_ hw258_8 GW268) _).trans (hHeld.2.2.2.2.2.2.2.2.2.2.2.2.2.2.2.2.2.2.2.2.1)))))))))))))), ((cell_far (p := ⟨gb268, _, none⟩) (nb_ hw258_9 GW268) _).trans (((cell_far (p := ⟨gb268, _, none⟩) (nb_ hw258_9 GW268) _).trans (((cell_far (p := ⟨gb268, _, none⟩) (nb_ hw258_9 GW268) _).trans (((cell_far (p := ⟨gb268, _, none⟩) (nb_ hw258_9 GW268) _).trans (((cell_far (p := ⟨gb268, _, none⟩) (nb_ hw258_9 GW268) _).trans (((cell_far (p := ⟨gb268, _, none⟩) (nb_ hw258_9 GW268) _).trans (((cell_far (p := ⟨gb268, _, none⟩) (nb_ hw258_9 GW268) _).trans (hHeld.2.2.2.2.2.2.2.2.2.2.2.2.2.2.2.2.2.2.2.2.2.1)))))))))))))), ((cell_far (p := ⟨gb268, _, none⟩) (nb_ hw258_10 GW268) _).trans (((cell_far (p := ⟨gb268, _, none⟩) (nb_ hw258_10 GW268) _).trans (((cell_far (p := ⟨gb268, _, none⟩) (nb_ hw258_10 GW268) _).trans (((cell_far (p := ⟨gb268, _, none⟩) (nb_ hw258_10 GW268) _).trans (((cell_far (p := ⟨gb268, _, none⟩) (nb_ hw258_10 GW268) _).trans (((cell_far (p := ⟨gb268, _, none⟩) (nb_ hw258_10 GW268) _).trans (((cell_far (p := ⟨gb268, _, none⟩) (nb_ hw258_10 GW268) _).trans (hHeld.2.2.2.2.2.2.2.2.2.2.2.2.2.2.2.2.2.2.2.2.2.2.1)))))))))))))), ((cell_far (p := ⟨gb268, _, none⟩) (nb_ hw258_11 GW268) _).trans (((cell_far (p := ⟨gb268, _, none⟩) (nb_ hw258_11 GW268) _).trans (((cell_far (p := ⟨gb268, _, none⟩) (nb_ hw258_11 GW268) _).trans (((cell_far (p := ⟨gb268, _, none⟩) (nb_ hw258_11 GW268) _).trans (((cell_far (p := ⟨gb268, _, none⟩) (nb_ hw258_11 GW268) _).trans (((cell_far (p := ⟨gb268, _, none⟩) (nb_ hw258_11 GW268) _).trans (((cell_far (p := ⟨gb268, _, none⟩) (nb_ hw258_11 GW268) _).trans (hHeld.2.2.2.2.2.2.2.2.2.2.2.2.2.2.2.2.2.2.2.2.2.2.2))))))))))))))⟩ (fun hHeld => ?_)
       clear hK K
       refine one_ (i := 13) (N := none) (upT 14 0) rfl rfl (one_of HT_.out (by kernel_rfl)) (by decide) (fun K hK => ?_)
       have hs25 : w16.cell? ⟨gb269, 0, none⟩ = some (.bool false) := (bC_ BK269.out 0).trans rfl
       have hfs25 := bZ_ BK269.out 0
       have hns25_0 := NB268_269.out
       have hms25_0 := NB269_268.out
       have hs26 : w16.cell? ⟨gb269, 1, none⟩ = some (.complex .f64 0 0) := (bC_ BK269.out 1).trans rfl
       have hfs26 := bZ_ BK269.out 1
       have hns26_0 := NB268_269.out
       have hms26_0 := NB269_268.out
       have hs27 : w16.cell? ⟨gb269, 2, none⟩ = some (.int .i64 0) := (bC_ BK269.out 2).trans rfl
       have hfs27 := bZ_ BK269.out 2
       have hns27_0 := NB268_269.out
       have hms27_0 := NB269_268.out
       have hs28 : w16.cell? ⟨gb269, 3, none⟩ = some (.int .i64 0) := (bC_ BK269.out 3).trans rfl
       have hfs28 := bZ_ BK269.out 3
       have hns28_0 := NB268_269.out
       have hms28_0 := NB269_268.out
       have hs29 : w16.cell? ⟨gb269, 4, none⟩ = some (.int .i64 0) := (bC_ BK269.out 4).trans rfl
       have hfs29 := bZ_ BK269.out 4
       have hns29_0 := NB268_269.out
       have hms29_0 := NB269_268.out
       have hs31 : w16.cell? ⟨gb269, 5, none⟩ = some (.slice none 0 0) := (bC_ BK269.out 5).trans rfl
       have hfs31 := bZ_ BK269.out 5
       have hns31_0 := NB268_269.out
       have hms31_0 := NB269_268.out
       have hs32 : w16.cell? ⟨gb269, 6, none⟩ = some (.int .i64 0) := (bC_ BK269.out 6).trans rfl
       have hfs32 := bZ_ BK269.out 6
       have hns32_0 := NB268_269.out
       have hms32_0 := NB269_268.out
       (refine skip_ (w1 := ?_) ?hw_ ?hN_ ?_ ?_); (case hw_ => rfl); (case hN_ => rfl)
       rotate_left
       ·
        go_simp
        rfl
       refine hK.out _ _ ⟨((cell_far (p := ⟨gb269, _, none⟩) (nb_ hw248_0 GW269) _).trans (((cell_far (p := ⟨gb269, _, none⟩) (nb_ hw248_0 GW269) _).trans (((cell_far (p := ⟨gb269, _, none⟩) (nb_ hw248_0 GW269) _).trans (((cell_far (p := ⟨gb269, _, none⟩) (nb_ hw248_0 GW269) _).trans (((cell_far (p := ⟨gb269, _, none⟩) (nb_ hw248_0 GW269) _).trans (((cell_far (p := ⟨gb269, _, none⟩) (nb_ hw248_0 GW269) _).trans (((cell_far (p := ⟨gb269, _, none⟩) (nb_ hw248_0 GW269) _).trans (hHeld.1)))))))))))))), ((cell_far (p := ⟨gb269, _, none⟩) (nb_ hw248_1 GW269) _).trans (((cell_far (p := ⟨gb269, _, none⟩) (nb_ hw248_1 GW269) _).trans (((cell_far (p := ⟨gb269, _, none⟩) (nb_ hw248_1 GW269) _).trans (((cell_far (p := ⟨gb269, _, none⟩) (nb_ hw248_1 GW269) _).trans (((cell_far (p := ⟨gb269, _, none⟩) (nb_ hw248_1 GW269) _).trans (((cell_far (p := ⟨gb269, _, none⟩) (nb_ hw248_1 GW269) _).trans (((cell_far (p := ⟨gb269, _, none⟩) (nb_ hw248_1 GW269) _).trans (hHeld.2.1)))))))))))))), ((cell_far (p := ⟨gb269, _, none⟩) (nb_ hw248_2 GW269) _).trans (((cell_far (p := ⟨gb269, _, none⟩) (nb_ hw248_2 GW269) _).trans (((cell_far (p := ⟨gb269, _, none⟩) (nb_ hw248_2 GW269) _).trans (((cell_far (p := ⟨gb269, _, none⟩) (nb_ hw248_2 GW269) _).trans (((cell_far (p := ⟨gb269, _, none⟩) (nb_ hw248_2 GW269) _).trans (((cell_far (p := ⟨gb269, _, none⟩) (nb_ hw248_2 GW269) _).trans (((cell_far (p := ⟨gb269, _, none⟩) (nb_ hw248_2 GW269) _).trans (hHeld.2.2.1)))))))))))))), ((cell_far (p := ⟨gb269, _, none⟩) (nb_ hw248_3 GW269) _).trans (((cell_far (p := ⟨gb269, _, none⟩) (nb_ hw248_3 GW269) _).trans (((cell_far (p := ⟨gb269, _, none⟩) (nb_ hw248_3 GW269) _).trans (((cell_far (p := ⟨gb269, _, none⟩) (nb_ hw248_3 GW269) _).trans (((cell_far (p := ⟨gb269, _, none⟩) (nb_ hw248_3 GW269) _).trans (((cell_far (p := ⟨gb269, _, none⟩) (nb_ hw248_3 GW269) _).trans (((cell_far (p := ⟨gb269, _, none⟩) (nb_ hw248_3 GW269) _).trans (hHeld.2.2.2.1)))))))))))))), ((cell_far (p := ⟨gb269, _, none⟩) (nb_ hw248_4 GW269) _).trans (((cell_far (p := ⟨gb269, _, none⟩) (nb_ hw248_4 GW269) _).trans (((cell_far (p := ⟨gb269, _, none⟩) (nb_ hw248_4 GW269) _).trans (((cell_far (p := ⟨gb269, _, none⟩) (nb_ hw248_4 GW269) _).trans (((cell_far (p := ⟨gb269, _, none⟩) (nb_ hw248_4 GW269) _).trans (((cell_far (p := ⟨gb269, _, none⟩) (nb_ hw248_4 GW269) _).trans (((cell_far (p := ⟨gb269, _, none⟩) (nb_ hw248_4 GW269) _).trans (hHeld.2.2.2.2.1)))))))))))))), ((cell_far (p := ⟨gb269, _, none⟩) (nb_ hw248_5 GW269) _).trans (((cell_far (p := ⟨gb269, _, none⟩) (nb_ hw248_5 GW269) _).trans (((cell_far (p := ⟨gb269, _, none⟩) (nb_ hw248_5 GW269) _).trans (((cell_far (p := ⟨gb269, _, none⟩) (nb_ hw248_5 GW269) _).trans (((cell_far (p := ⟨gb269, _, none⟩) (nb_ hw248_5 GW269) _).trans (((cell_far (p := ⟨gb269, _, none⟩) (nb_ hw248_5 GW269) _).trans (((cell_far (p := ⟨gb269, _, none⟩) (nb_ hw248_5 GW269) _).trans (hHeld.2.2.2.2.2.1)))))))))))))), ((cell_far (p := ⟨gb269, _, none⟩) (nb_ hw248_6 GW269) _).trans (((cell_far (p := ⟨gb269, _, none⟩) (nb_ hw248_6 GW269) _).trans (((cell_far (p := ⟨gb269, _, none⟩) (nb_ hw248_6 GW269) _).trans (((cell_far (p := ⟨gb269, _, none⟩) (nb_ hw248_6 GW269) _).trans (((cell_far (p := ⟨gb269, _, none⟩) (nb_ hw248_6 GW269) _).trans (((cell_far (p := ⟨gb269, _, none⟩) (nb_ hw248_6 GW269) _).trans (((cell_far (p := ⟨gb269, _, none⟩) (nb_ hw248_6 GW269) _).trans (hHeld.2.2.2.2.2.2.1)))))))))))))), ((cell_far (p := ⟨gb269, _, none⟩) (nb_ hw248_7 GW269) _).trans (((cell_far (p := ⟨gb269, _, none⟩) (nb_ hw248_7 GW269) _).trans (((cell_far (p := ⟨gb269, _, none⟩) (nb_ hw248_7 GW269) _).trans (((cell_far (p := ⟨gb269, _, none⟩) (nb_ hw248_7 GW269) _).trans (((cell_far (p := ⟨gb269, _, none⟩) (nb_ hw248_7 GW269) _).trans (((cell_far (p := ⟨gb269, _, none⟩) (nb_ hw248_7 GW269) _).trans (((cell_far (p := ⟨gb269, _, none⟩) (nb_ hw248_7 GW269) _).trans (hHeld.2.2.2.2.2.2.2.1)))))))))))))), ((cell_far (p := ⟨gb269, _, none⟩) (nb_ hw248_8 GW269) _).trans (((cell_far (p := ⟨gb269, _, none⟩) (nb_ hw248_8 GW269) _).trans (((cell_far (p := ⟨gb269, _, none⟩) (nb_ hw248_8 GW269) _).trans (((cell_far (p := ⟨gb269, _, none⟩) (nb_ hw248_8 GW269) _).trans (((cell_far (p := ⟨gb269, _, none⟩) (nb_ hw248_8 GW269) _).trans (((cell_far (p := ⟨gb269, _, none⟩) (nb_ hw248_8 GW269) _).trans (((cell_far (p := ⟨gb269, _, none⟩) (nb_ hw248_8 GW269) _).trans (hHeld.2.2.2.2.2.2.2.2.1)))))))))))))), ((cell_far (p := ⟨gb269, _, none⟩) (nb_ hw248_9 GW269) _).trans (((cell_far (p := ⟨gb269, _, none⟩) (nb_ hw248_9 GW269) _).trans (((cell_far (p := ⟨gb269, _, none⟩) (nb_ hw248_9 GW269) _).trans (((cell_far (p := ⟨gb269, _, none⟩) (nb_ hw248_9 GW269) _).trans (((cell_far (p := ⟨gb269, _, none⟩) (nb_ hw248_9 GW269) _).trans (((cell_far (p := ⟨gb269, _, none⟩) (nb_ hw248_9 GW269) _).trans (((cell_far (p := ⟨gb269, _, none⟩) (nb_ hw248_9 GW269) _).trans (hHeld.2.2.2.2.2.2.2.2.2.1)))))))))))))), ((cell_far (p := ⟨gb269, _, none⟩) (nb_ hw248_10 GW269) _).trans (((cell_far (p := ⟨gb269, _, none⟩) (nb_ hw248_10 GW269) _).trans (((cell_far (p := ⟨gb269, _, none⟩) (nb_ hw248_10 GW269) _).trans (((cell_far (p := ⟨gb269, _, none⟩) (nb_ hw248_10 GW269) _).trans (((cell_far (p := ⟨gb269, _, none⟩) (nb_ hw248_10 GW269) _).trans (((cell_far (p := ⟨gb269, _, none⟩) (nb_ hw248_10 GW269) _).trans (((cell_far (p := ⟨gb269, _, none⟩) (nb_ hw248_10 GW269) _).trans (hHeld.2.2.2.2.2.2.2.2.2.2.1)))))))))))))), ((cell_far (p := ⟨gb269, _, none⟩) (nb_ hw248_11 GW269) _).trans (((cell_far (p := ⟨gb269, _, none⟩) (nb_ hw248_11 GW269) _).trans (((cell_far (p := ⟨gb269, _, none⟩) (nb_ hw248_11 GW269) _).trans (((cell_far (p := ⟨gb269, _, none⟩) (nb_ hw248_11 GW269) _).trans (((cell_far (p := ⟨gb269, _, none⟩) (nb_ hw248_11 GW269) _).trans (((cell_far (p := ⟨gb269, _, none⟩) (nb_ hw248_11 GW269) _).trans (((cell_far (p := ⟨gb269, _, none⟩) (nb_ hw248_11 GW269) _).trans (hHeld.2.2.2.2.2.2.2.2.2.2.2.1)))))))))))))), ((cell_far (p := ⟨gb269, _, none⟩) (nb_ hw258_0 GW269) _).trans (((cell_far (p := ⟨gb269, _, none⟩) (nb_ hw258_0 GW269) _).trans (((cell_far (p := ⟨gb269, _, none⟩) (nb_ hw258_0 GW269) _).trans (((cell_far (p := ⟨gb269, _, none⟩) (nb_ hw258_0 GW269) _).trans (((cell_far (p := ⟨gb269, _, none⟩) (nb_ hw258_0 GW269) _).trans (((cell_far (p := ⟨gb269, _, none⟩) (nb_ hw258_0 GW269) _).trans (((cell_far (p := ⟨gb269, _, none⟩) (nb_ hw258_0 GW269) _).trans (hHeld.2.2.2.2.2.2.2.2.2.2.2.2.1)))))))))))))), ((cell_far (p := ⟨gb269, _, none⟩) (nb_ hw258_1 GW269) _).trans (((cell_far (p := ⟨gb269, _, none⟩) (nb_ hw258_1 GW269) _).trans (((cell_far (p := ⟨gb269, _, none⟩) (nb_ hw258_1 GW269) _).trans (((cell_far (p := ⟨gb269, _, none⟩) (nb_ hw258_1 GW269) _).trans (((cell_far (p := ⟨gb269, _, none⟩) (nb_ hw258_1 GW269) _).trans (((cell_far (p := ⟨gb269, _, none⟩) (nb_ hw258_1 GW269) _).trans (((cell_far (p := ⟨gb269, _, none⟩) (nb_ hw258_1 GW269) _).trans (hHeld.2.2.2.2.2.2.2.2.2.2.2.2.2.1)))))))))))))), ((cell_far (p := ⟨gb269, _, none⟩) (nb_ hw258_2 GW269) _).trans (((cell_far (p := ⟨gb269, _, none⟩) (nb_ hw258_2 GW269) _).trans (((cell_far (p := ⟨gb269, _, none⟩) (nb_ hw258_2 GW269) _).trans (((cell_far (p := ⟨gb269, _, none⟩) (nb_ hw258_2 GW269) _).trans (((cell_far (p := ⟨gb269, _, none⟩) (nb_ hw258_2 GW269) _).trans (((cell_far (p := ⟨gb269, _, none⟩) (nb_ hw258_2 GW269) _).trans (((cell_far (p := ⟨gb269, _, none⟩) (nb_ hw258_2 GW269) _).trans (hHeld.2.2.2.2.2.2.2.2.2.2.2.2.2.2.1)))))))))))))), ((cell_far (p := ⟨gb269, _, none⟩) (nb_ hw258_3 GW269) _).trans (((cell_far (p := ⟨gb269, _, none⟩) (nb_ hw258_3 GW269) _).trans (((cell_far (p := ⟨gb269, _, none⟩) (nb_ hw258_3 GW269) _).trans (((cell_far (p := ⟨gb269, _, none⟩) (nb_ hw258_3 GW269) _).trans (((cell_far (p := ⟨gb269, _, none⟩) (nb_ hw258_3 GW269) _).trans (((cell_far (p := ⟨gb269, _, none⟩) (nb_ hw258_3 GW269) _).trans (((cell_far (p := ⟨gb269, _, none⟩) (nb_ hw258_3 GW269) _).trans (hHeld.2.2.2.2.2.2.2.2.2.2.2.2.2.2.2.1)))))))))))))), ((cell_far (p := ⟨gb269, _, none⟩) (nb_ hw258_4 GW269) _).trans (((cell_far (p := ⟨gb269, _, none⟩) (nb_ hw258_4 GW269) _).trans (((cell_far (p := ⟨gb269, _, none⟩) (nb_ hw258_4 GW269) _).trans (((cell_far (p := ⟨gb269, _, none⟩) (nb_ hw258_4 GW269) _).trans (((cell_far (p := ⟨gb269, _, none⟩) (nb_ hw258_4 GW269) _).trans (((cell_far (p := ⟨gb269, _, none⟩) (nb_ hw258_4 GW269) _).trans (((cell_far (p := ⟨gb269, _, none⟩) (nb_ hw258_4 GW269) _).trans (hHeld.2.2.2.2.2.2.2.2.2.2.2.2.2.2.2.2.1)))))))))))))), ((cell_far (p := ⟨gb269, _, none⟩) (nb_ hw258_5 GW269) _).trans (((cell_far (p := ⟨gb269, _, none⟩) (nb_ hw258_5 GW269) _).trans (((cell_far (p := ⟨gb269, _, none⟩) (nb_ hw258_5 GW269) _).trans (((cell_far (p := ⟨gb269, _, none⟩) (nb_ hw258_5 GW269) _).trans (((cell_far (p := ⟨gb269, _, none⟩) (nb_ hw258_5 GW269) _).trans (((cell_far (p := ⟨gb269, _, none⟩) (nb_ hw258_5 GW269) _).trans (((cell_far (p := ⟨gb269, _, none⟩) (nb_ hw258_5 GW269) _).trans (hHeld.2.2.2.2.2.2.2.2.2.2.2.2.2.2.2.2.2.1)))))))))))))), ((cell_far (p := ⟨gb269, _, none⟩) (nb_ hw258_6 GW269) _).trans (((cell_far (p := ⟨gb269, _, none⟩) (nb_ hw258_6 GW269) _).trans (((cell_far (p := ⟨gb269, _, none⟩) (nb_ hw258_6 GW269) _).trans (((cell_far (p := ⟨gb269, _, none⟩) (nb_ hw258_6 GW269) _).trans (((cell_far (p := ⟨gb269, _, none⟩) (nb_ hw258_6 GW269) _).trans (((cell_far (p := ⟨gb269, _, none⟩) (nb_ hw258_6 GW269) _).trans (((cell_far (p := ⟨gb269, _, none⟩) (nb_ hw258_6 GW269) _).trans (hHeld.2.2.2.2.2.2.2.2.2.2.2.2.2.2.2.2.2.2.1)))))))))))))), ((cell_far (p := ⟨gb269, _, none⟩) (nb_ hw258_7 GW269) _).trans (((cell_far (p := ⟨gb269, _, none⟩) (nb_ hw258_7 GW269) _).trans (((cell_far (p := ⟨gb269, _, none⟩) (nb_ hw258_7 GW269) _).trans (((cell_far (p := ⟨gb269, _, none⟩) (nb_ hw258_7 GW269) _).trans (((cell_far (p := ⟨gb269, _, none⟩) (nb_ hw258_7 GW269) _).trans (((cell_far (p := ⟨gb269, _, none⟩) (nb_ hw258_7 GW269) _).trans (((cell_far (p := ⟨gb269, _, none⟩) (nb_ hw258_7 GW269) _).trans (hHeld.2.2.2.2.2.2.2.2.2.2.2.2.2.2.2.2.2.2.2.1)))))))))))))), ((cell_far (p := ⟨gb269, _, none⟩) (nb_ hw258_8 GW269) _).trans (((cell_far (p := ⟨gb269, _, none⟩) (nb_ hw258_8 GW269) _).trans (((cell_far (p := ⟨gb269, _, none⟩) (nb_ hw258_8 GW269) _).trans (((cell_far (p := ⟨gb269, _, none⟩) (nb_ hw258_8 GW269) _).trans (((cell_far (p := ⟨gb269, _, none⟩) (nb_ hw258_8 GW269) _).trans (((cell_far (p := ⟨gb269, _, none⟩) (nb_ hw258_8 GW269) _).trans (((cell_far (p := ⟨gb269, _, none⟩) (nb_ hw258_8 GW269) _).trans (hHeld.2.2.2.2.2.2.2.2.2.2.2.2.2.2.2.2.2.2.2.2.1)))))))))))))), ((cell_far (p := ⟨gb269, _, none⟩) (nb_ hw258_9 GW269) _).trans (((cell_far (p := ⟨gb269, _, none⟩) (nb_ hw258_9 GW269) _).trans (((cell_far (p := ⟨gb269, _, none⟩) (nb_ hw258_9 GW269) _).trans (((cell_far (p := ⟨gb269, _, none⟩) (nb_ hw258_9 GW269) _).trans (((cell_far (p := ⟨gb269, _, none⟩) (nb_ hw258_9 GW269) _).trans (((cell_far (p := ⟨gb269, _, none⟩) (nb_ hw258_9 GW269) _).trans (((cell_far (p := ⟨gb269, _, none⟩) (nb_ hw258_9 GW269) _).trans (hHeld.2.2.2.2.2.2.2.2.2.2.2.2.2.2.2.2.2.2.2.2.2.1)))))))))))))), ((cell_far (p := ⟨gb269, _, none⟩) (nb_ hw258_10 GW269) _).trans (((cell_far (p := ⟨gb269, _, none⟩) (nb_ hw258_10 GW269) _).trans (((cell_far (p := ⟨gb269, _, none⟩) (nb_ hw258_10 GW269) _).trans (((cell_far (p := ⟨gb269, _, none⟩) (nb_ hw258_10 GW269) _).trans (((cell_far (p := ⟨gb269, _, none⟩) (nb_ hw258_10 GW269) _).trans (((cell_far (p := ⟨gb269, _, none⟩) (nb_ hw258_10 GW269) _).trans (((cell_far (p := ⟨gb269, _, none⟩) (nb_ hw258_10 GW269) _).trans (hHeld.2.2.2.2.2.2.2.2.2.2.2.2.2.2.2.2.2.2.2.2.2.2.1)))))))))))))), ((cell_far (p := ⟨gb269, _, none⟩) (nb_ hw258_11 GW269) _).trans (((cell_far (p := ⟨gb269, _, none⟩) (nb_ hw258_11 GW269) _).trans (((cell_far (p := ⟨gb269, _, none⟩) (nb_ hw258_11 GW269) _).trans (((cell_far (p := ⟨gb269, _, none⟩) (nb_ hw258_11 GW269) _).trans (((cell_far (p := ⟨gb269, _, none⟩) (nb_ hw258_11 GW269) _).trans (((cell_far (p := ⟨gb269, _, none⟩) (nb_ hw258_11 GW269) _).trans (((cell_far (p := ⟨gb269, _, none⟩) (nb_ hw258_11 GW269) _).trans (hHeld.2.2.2.2.2.2.2.2.2.2.2.2.2.2.2.2.2.2.2.2.2.2.2))))))))))))))⟩ (fun hHeld => ?_)
       clear hK K
       refine done_ (done_of HT_.out (by kernel_rfl)) ?_
       go_upto_region 7 with (fail)
       go_cut [70] (fun v70 wc => ∃ (kq : Nat) (x70_9 : Bool), v70 = .bool x70_9 ∧ Aside0 (pylonlaw12_MeterAll.j1 kq l0 (l0.length : Int) x10_1 x70_9 = some r) ∧ Aside0 (kq ≤ k1) ∧ Aside0 (Kd.R Kd.c128 31 wc w.heap.size (fun k_ => some k_ ≠ ((.slice Ao30 t264.length co30) : Value).ownBlock) (.slice Ao22 t254.length co22) t254) ∧ Aside0 (Kd.R Kd.c128 31 wc w.heap.size (fun k_ => some k_ ≠ ((.slice Ao22 t254.length co22) : Value).ownBlock) (.slice Ao30 t264.length co30) t264) ∧ Aside0 (wc.heap[gb268]? = some (.cells #[.bool t249, .complex .f64 t250.re t250.im, .int .i64 t251, .int .i64 t252, .int .i64 t253, (.slice Ao22 t254.length co22), .int .i64 t257] 70 (0, 0))) ∧ Aside0 (wc.heap[gb269]? = some (.cells #[.bool t259, .complex .f64 t260.re t260.im, .int .i64 t261, .int .i64 t262, .int .i64 t263, (.slice Ao30 t264.length co30), .int .i64 t267] 70 (0, 0))) ∧ Aside0 (Below w.heap.size w wc))
       case first =>
        have H := HC10.out
        clear HC10
        by_cases c33 : (!(t249 == t259)) = true
        ·
         rw [if_pos c33] at H
         have c33b0 : (!(t249 == t259)) = true := c33
         clear c33
         (first | rw [c33b0] | (simp only [i64_w, i32_w]; rw [c33b0]) | skip)
         have H' := Aside0.mk H
         clear H
         have hnb34 := NB268_269.out
         have hnc34 := NB269_268.out
         have hcz35_0 : w16.cell? ⟨gb268, 0, none⟩ = some (.bool false) := (bC_ BK268.out 0).trans rfl
         have hcz35_1 : w16.cell? ⟨gb268, 1, none⟩ = some (.complex .f64 0 0) := (bC_ BK268.out 1).trans rfl
         have hcz35_2 : w16.cell? ⟨gb268, 2, none⟩ = some (.int .i64 0) := (bC_ BK268.out 2).trans rfl
         have hcz35_3 : w16.cell? ⟨gb268, 3, none⟩ = some (.int .i64 0) := (bC_ BK268.out 3).trans rfl
         have hcz35_4 : w16.cell? ⟨gb268, 4, none⟩ = some (.int .i64 0) := (bC_ BK268.out 4).trans rfl
         have hcz35_5 : w16.cell? ⟨gb268, 5, none⟩ = some (.slice none 0 0) := (bC_ BK268.out 5).trans rfl
         have hcz35_6 : w16.cell? ⟨gb268, 6, none⟩ = some (.int .i64 0) := (bC_ BK268.out 6).trans rfl
         have hfz35_0 := bZ_ BK268.out 0
         have hfz35_1 := bZ_ BK268.out 1
         have hfz35_2 := bZ_ BK268.out 2
         have hfz35_3 := bZ_ BK268.out 3
         have hfz35_4 := bZ_ BK268.out 4
         have hfz35_5 := bZ_ BK268.out 5
         have hfz35_6 := bZ_ BK268.out 6
         have hcz36_0 : w16.cell? ⟨gb269, 0, none⟩ = some (.bool false) := (bC_ BK269.out 0).trans rfl
         have hcz36_1 : w16.cell? ⟨gb269, 1, none⟩ = some (.complex .f64 0 0) := (bC_ BK269.out 1).trans rfl
         have hcz36_2 : w16.cell? ⟨gb269, 2, none⟩ = some (.int .i64 0) := (bC_ BK269.out 2).trans rfl
         have hcz36_3 : w16.cell? ⟨gb269, 3, none⟩ = some (.int .i64 0) := (bC_ BK269.out 3).trans rfl
         have hcz36_4 : w16.cell? ⟨gb269, 4, none⟩ = some (.int .i64 0) := (bC_ BK269.out 4).trans rfl
         have hcz36_5 : w16.cell? ⟨gb269, 5, none⟩ = some (.slice none 0 0) := (bC_ BK269.out 5).trans rfl
         have hcz36_6 : w16.cell? ⟨gb269, 6, none⟩ = some (.int .i64 0) := (bC_ BK269.out 6).trans rfl
         have hfz36_0 := bZ_ BK269.out 0
         have hfz36_1 := bZ_ BK269.out 1
         have hfz36_2 := bZ_ BK269.out 2
         have hfz36_3 := bZ_ BK269.out 3
         have hfz36_4 := bZ_ BK269.out 4
         have hfz36_5 := bZ_ BK269.out 5
         have hfz36_6 := bZ_ BK269.out 6
         go_wp2
         go_meet
         case rel => exact ⟨_, (true), (by first | rfl | (simp; done) | (simp [*]; done)), H', ⟨by have := HK1.out; first | omega | exact Nat.le_refl _⟩, ⟨by (with_reducible repeat (first | apply Kd.R_alloc | apply Kd.R_drewN | apply Kd.R_drew)); exact Kd.R_mono (Kd.R_far (p := ⟨gb269, 6, none⟩) (Kd.R_far (p := ⟨gb269, 5, none⟩) (Kd.R_far (p := ⟨gb269, 4, none⟩) (Kd.R_far (p := ⟨gb269, 3, none⟩) (Kd.R_far (p := ⟨gb269, 2, none⟩) (Kd.R_far (p := ⟨gb269, 1, none⟩) (Kd.R_far (p := ⟨gb269, 0, none⟩) (Kd.R_far (p := ⟨gb268, 6, none⟩) (Kd.R_far (p := ⟨gb268, 5, none⟩) (Kd.R_far (p := ⟨gb268, 4, none⟩) (Kd.R_far (p := ⟨gb268, 3, none⟩) (Kd.R_far (p := ⟨gb268, 2, none⟩) (Kd.R_far (p := ⟨gb268, 1, none⟩) (Kd.R_far (p := ⟨gb268, 0, none⟩) (Kd.R_types (Kd.R_types HO256.out BK268.out (by decide)) BK269.out (by decide)) (fun _ hk => hk.1.2) (.bool t249)) (fun _ hk => hk.1.2) (.complex .f64 t250.re t250.im)) (fun _ hk => hk.1.2) (.int .i64 t251)) (fun _ hk => hk.1.2) (.int .i64 t252)) (fun _ hk => hk.1.2) (.int .i64 t253)) (fun _ hk => hk.1.2) (.slice Ao22 t254.length co22)) (fun _ hk => hk.1.2) (.int .i64 t257)) (fun _ hk => hk.2) (.bool t259)) (fun _ hk => hk.2) (.complex .f64 t260.re t260.im)) (fun _ hk => hk.2) (.int .i64 t261)) (fun _ hk => hk.2) (.int .i64 t262)) (fun _ hk => hk.2) (.int .i64 t263)) (fun _ hk => hk.2) (.slice Ao30 t264.length co30)) (fun _ hk => hk.2) (.int .i64 t267)) (fun _ hk => hk.1.1)⟩, ⟨by (with_reducible repeat (first | apply Kd.R_alloc | apply Kd.R_drewN | apply Kd.R_drew)); exact Kd.R_mono (Kd.R_far (p := ⟨gb269, 6, none⟩) (Kd.R_far (p := ⟨gb269, 5, none⟩) (Kd.R_far (p := ⟨gb269, 4, none⟩) (Kd.R_far (p := ⟨gb269, 3, none⟩) (Kd.R_far (p := ⟨gb269, 2, none⟩) (Kd.R_far (p := ⟨gb269, 1, none⟩) (Kd.R_far (p := ⟨gb269, 0, none⟩) (Kd.R_far (p := ⟨gb268, 6, none⟩) (Kd.R_far (p := ⟨gb268, 5, none⟩) (Kd.R_far (p := ⟨gb268, 4, none⟩) (Kd.R_far (p := ⟨gb268, 3, none⟩) (Kd.R_far (p := ⟨gb268, 2, none⟩) (Kd.R_far (p := ⟨gb268, 1, none⟩) (Kd.R_far (p := ⟨gb268, 0, none⟩) (Kd.R_types (Kd.R_types HO266.out BK268.out (by decide)) BK269.out (by decide)) (fun _ hk => hk.1.2) (.bool t249)) (fun _ hk => hk.1.2) (.complex .f64 t250.re t250.im)) (fun _ hk => hk.1.2) (.int .i64 t251)) (fun _ hk => hk.1.2) (.int .i64 t252)) (fun _ hk => hk.1.2) (.int .i64 t253)) (fun _ hk => hk.1.2) (.slice Ao22 t254.length co22)) (fun _ hk => hk.1.2) (.int .i64 t257)) (fun _ hk => hk.2) (.bool t259)) (fun _ hk => hk.2) (.complex .f64 t260.re t260.im)) (fun _ hk => hk.2) (.int .i64 t261)) (fun _ hk => hk.2) (.int .i64 t262)) (fun _ hk => hk.2) (.int .i64 t263)) (fun _ hk => hk.2) (.slice Ao30 t264.length co30)) (fun _ hk => hk.2) (.int .i64 t267)) (fun _ hk => hk.1.1)⟩, ⟨by (iterate 7 ((with_reducible repeat (first | refine bN_ ?_ _ | refine bD_ ?_ | refine bA_ ?_ _)); refine bF_ ?_ NB268_269.out _)); (with_reducible repeat (first | refine bN_ ?_ _ | refine bD_ ?_ | refine bA_ ?_ _)); refine bP_ (cs := #[.bool t249, .complex .f64 t250.re t250.im, .int .i64 t251, .int .i64 t252, .int .i64 t253, .slice Ao22 t254.length co22, .int .i64 0]) ?_ 6 _ rfl; (with_reducible repeat (first | refine bN_ ?_ _ | refine bD_ ?_ | refine bA_ ?_ _)); refine bP_ (cs := #[.bool t249, .complex .f64 t250.re t250.im, .int .i64 t251, .int .i64 t252, .int .i64 t253, .slice none 0 0, .int .i64 0]) ?_ 5 _ rfl; (with_reducible repeat (first | refine bN_ ?_ _ | refine bD_ ?_ | refine bA_ ?_ _)); refine bP_ (cs := #[.bool t249, .complex .f64 t250.re t250.im, .int .i64 t251, .int .i64 t252, .int .i64 0, .slice none 0 0, .int .i64 0]) ?_ 4 _ rfl; (with_reducible repeat (first | refine bN_ ?_ _ | refine bD_ ?_ | refine bA_ ?_ _)); refine bP_ (cs := #[.bool t249, .complex .f64 t250.re t250.im, .int .i64 t251, .int .i64 0, .int .i64 0, .slice none 0 0, .int .i64 0]) ?_ 3 _ rfl; (with_reducible repeat (first | refine bN_ ?_ _ | refine bD_ ?_ | refine bA_ ?_ _)); refine bP_ (cs := #[.bool t249, .complex .f64 t250.re t250.im, .int .i64 0, .int .i64 0, .int .i64 0, .slice none 0 0, .int .i64 0]) ?_ 2 _ rfl; (with_reducible repeat (first | refine bN_ ?_ _ | refine bD_ ?_ | refine bA_ ?_ _)); refine bP_ (cs := #[.bool t249, .complex .f64 0 0, .int .i64 0, .int .i64 0, .int .i64 0, .slice none 0 0, .int .i64 0]) ?_ 1 _ rfl; (with_reducible repeat (first | refine bN_ ?_ _ | refine bD_ ?_ | refine bA_ ?_ _)); refine bP_ (cs := #[.bool false, .complex .f64 0 0, .int .i64 0, .int .i64 0, .int .i64 0, .slice none 0 0, .int .i64 0]) ?_ 0 _ rfl; (with_reducible repeat (first | refine bN_ ?_ _ | refine bD_ ?_ | refine bA_ ?_ _)); exact BK268.out⟩, ⟨by (with_reducible repeat (first | refine bN_ ?_ _ | refine bD_ ?_ | refine bA_ ?_ _)); refine bP_ (cs := #[.bool t259, .complex .f64 t260.re t260.im, .int .i64 t261, .int .i64 t262, .int .i64 t263, .slice Ao30 t264.length co30, .int .i64 0]) ?_ 6 _ rfl; (with_reducible repeat (first | refine bN_ ?_ _ | refine bD_ ?_ | refine bA_ ?_ _)); refine bP_ (cs := #[.bool t259, .complex .f64 t260.re t260.im, .int .i64 t261, .int .i64 t262, .int .i64 t263, .slice none 0 0, .int .i64 0]) ?_ 5 _ rfl; (with_reducible repeat (first | refine bN_ ?_ _ | refine bD_ ?_ | refine bA_ ?_ _)); refine bP_ (cs := #[.bool t259, .complex .f64 t260.re t260.im, .int .i64 t261, .int .i64 t262, .int .i64 0, .slice none 0 0, .int .i64 0]) ?_ 4 _ rfl; (with_reducible repeat (first | refine bN_ ?_ _ | refine bD_ ?_ | refine bA_ ?_ _)); refine bP_ (cs := #[.bool t259, .complex .f64 t260.re t260.im, .int .i64 t261, .int .i64 0, .int .i64 0, .slice none 0 0, .int .i64 0]) ?_ 3 _ rfl; (with_reducible repeat (first | refine bN_ ?_ _ | refine bD_ ?_ | refine bA_ ?_ _)); refine bP_ (cs := #[.bool t259, .complex .f64 t260.re t260.im, .int .i64 0, .int .i64 0, .int .i64 0, .slice none 0 0, .int .i64 0]) ?_ 2 _ rfl; (with_reducible repeat (first | refine bN_ ?_ _ | refine bD_ ?_ | refine bA_ ?_ _)); refine bP_ (cs := #[.bool t259, .complex .f64 0 0, .int .i64 0, .int .i64 0, .int .i64 0, .slice none 0 0, .int .i64 0]) ?_ 1 _ rfl; (with_reducible repeat (first | refine bN_ ?_ _ | refine bD_ ?_ | refine bA_ ?_ _)); refine bP_ (cs := #[.bool false, .complex .f64 0 0, .int .i64 0, .int .i64 0, .int .i64 0, .slice none 0 0, .int .i64 0]) ?_ 0 _ rfl; (iterate 7 ((with_reducible repeat (first | refine bN_ ?_ _ | refine bD_ ?_ | refine bA_ ?_ _)); refine bF_ ?_ NB269_268.out _)); (with_reducible repeat (first | refine bN_ ?_ _ | refine bD_ ?_ | refine bA_ ?_ _)); exact BK269.out⟩, ⟨by repeat (first | (with_reducible first | exact HB.out | apply lA_ | apply lN_ | apply l1_ | refine lS_ ?_ GE268.out | refine lS_ ?_ GE269.out) | exact HB.out)⟩⟩
        ·
         rw [if_neg c33] at H
         have c33b0 : (!(t249 == t259)) = false := Bool.eq_false_iff.mpr c33
         clear c33
         (first | rw [c33b0] | (simp only [i64_w, i32_w]; rw [c33b0]) | skip)
         by_cases c37 : ceq t250.re t250.im t260.re t260.im = true
         ·
          rw [if_pos c37] at H
          have c37b0 : ceq t250.re t250.im t260.re t260.im = true := c37
          clear c37
          by_cases c38 : t251 = t261
          ·
           rw [if_pos c38] at H
           have c38b0 : (t251 == t261) = true := beq_iff_eq.mpr c38
           have c38b1 : (t251 != t261) = false := bne_eq_false_iff_eq.mpr c38
           clear c38
           by_cases c39 : t252 = t262
           ·
            rw [if_pos c39] at H
            have c39b0 : (t252 == t262) = true := beq_iff_eq.mpr c39
            have c39b1 : (t252 != t262) = false := bne_eq_false_iff_eq.mpr c39
            clear c39
            by_cases c40 : t253 = t263
            ·
             rw [if_pos c40] at H
             have c40b0 : (t253 == t263) = true := beq_iff_eq.mpr c40
             have c40b1 : (t253 != t263) = false := bne_eq_false_iff_eq.mpr c40
             clear c40
             by_cases c41 : t257 = t267
             ·
              rw [if_pos c41] at H
              have c41b0 : (t257 == t267) = true := beq_iff_eq.mpr c41
              have c41b1 : (t257 != t267) = false := bne_eq_false_iff_eq.mpr c41
              clear c41
              replace H := Option.bind_eq_some_iff.mp H
              obtain ⟨t270, A420, H⟩ := H
              replace H : (pylonlaw12_MeterAll.j1 k1 l0 (l0.length : Int) x10_1 (!t270)) = some r := H
              have A42 := Aside0.mk A420
              clear A420
              have H' := Aside0.mk H
              clear H
              have hnb43 := NB268_269.out
              have hnc43 := NB269_268.out
              have hcz44_0 : w16.cell? ⟨gb268, 0, none⟩ = some (.bool false) := (bC_ BK268.out 0).trans rfl
              have hcz44_1 : w16.cell? ⟨gb268, 1, none⟩ = some (.complex .f64 0 0) := (bC_ BK268.out 1).trans rfl
              have hcz44_2 : w16.cell? ⟨gb268, 2, none⟩ = some (.int .i64 0) := (bC_ BK268.out 2).trans rfl
              have hcz44_3 : w16.cell? ⟨gb268, 3, none⟩ = some (.int .i64 0) := (bC_ BK268.out 3).trans rfl
              have hcz44_4 : w16.cell? ⟨gb268, 4, none⟩ = some (.int .i64 0) := (bC_ BK268.out 4).trans rfl
              have hcz44_5 : w16.cell? ⟨gb268, 5, none⟩ = some (.slice none 0 0) := (bC_ BK268.out 5).trans rfl
              have hcz44_6 : w16.cell? ⟨gb268, 6, none⟩ = some (.int .i64 0) := (bC_ BK268.out 6).trans rfl
              have hfz44_0 := bZ_ BK268.out 0
              have hfz44_1 := bZ_ BK268.out 1
              have hfz44_2 := bZ_ BK268.out 2
              have hfz44_3 := bZ_ BK268.out 3
              have hfz44_4 := bZ_ BK268.out 4
              have hfz44_5 := bZ_ BK268.out 5
              have hfz44_6 := bZ_ BK268.out 6
              have hcz45_0 : w16.cell? ⟨gb269, 0, none⟩ = some (.bool false) := (bC_ BK269.out 0).trans rfl
              have hcz45_1 : w16.cell? ⟨gb269, 1, none⟩ = some (.complex .f64 0 0) := (bC_ BK269.out 1).trans rfl
              have hcz45_2 : w16.cell? ⟨gb269, 2, none⟩ = some (.int .i64 0) := (bC_ BK269.out 2).trans rfl
              have hcz45_3 : w16.cell? ⟨gb269, 3, none⟩ = some (.int .i64 0) := (bC_ BK269.out 3).trans rfl
              have hcz45_4 : w16.cell? ⟨gb269, 4, none⟩ = some (.int .i64 0) := (bC_ BK269.out 4).trans rfl
              have hcz45_5 : w16.cell? ⟨gb269, 5, none⟩ = some (.slice none 0 0) := (bC_ BK269.out 5).trans rfl
              have hcz45_6 : w16.cell? ⟨gb269, 6, none⟩ = some (.int .i64 0) := (bC_ BK269.out 6).trans rfl
              have hfz45_0 := bZ_ BK269.out 0
              have hfz45_1 := bZ_ BK269.out 1
              have hfz45_2 := bZ_ BK269.out 2
              have hfz45_3 := bZ_ BK269.out 3
              have hfz45_4 := bZ_ BK269.out 4
              have hfz45_5 := bZ_ BK269.out 5
              have hfz45_6 := bZ_ BK269.out 6
              go_wp2_with (first | (go_at_call 22; (with_reducible refine (pylonref12_SameSeries.calls k1 _ _ t254 _ _ t264 t270 _ ?side1 ?side2 ?side3 ?side4 A42.out).mono ?_); (case side1 => refine (Kd.R_reads' (e := 31) (base := w.heap.size) (ok := fun k_ => some k_ ≠ (.slice Ao30 t264.length co30 : Value).ownBlock) (n := t254.length) (c := co22) ?_).2.2; exact (by (with_reducible repeat (first | apply Kd.R_alloc | apply Kd.R_drewN | apply Kd.R_drew)); exact (Kd.R_mono (Kd.R_mono (Kd.R_far (p := ⟨gb269, 6, none⟩) (Kd.R_far (p := ⟨gb269, 5, none⟩) (Kd.R_far (p := ⟨gb269, 4, none⟩) (Kd.R_far (p := ⟨gb269, 3, none⟩) (Kd.R_far (p := ⟨gb269, 2, none⟩) (Kd.R_far (p := ⟨gb269, 1, none⟩) (Kd.R_far (p := ⟨gb269, 0, none⟩) (Kd.R_far (p := ⟨gb268, 6, none⟩) (Kd.R_far (p := ⟨gb268, 5, none⟩) (Kd.R_far (p := ⟨gb268, 4, none⟩) (Kd.R_far (p := ⟨gb268, 3, none⟩) (Kd.R_far (p := ⟨gb268, 2, none⟩) (Kd.R_far (p := ⟨gb268, 1, none⟩) (Kd.R_far (p := ⟨gb268, 0, none⟩) (Kd.R_types (Kd.R_types HO256.out BK268.out (by decide)) BK269.out (by decide)) (fun _ hk => hk.1.2) (.bool t249)) (fun _ hk => hk.1.2) (.complex .f64 t250.re t250.im)) (fun _ hk => hk.1.2) (.int .i64 t251)) (fun _ hk => hk.1.2) (.int .i64 t252)) (fun _ hk => hk.1.2) (.int .i64 t253)) (fun _ hk => hk.1.2) (.slice Ao22 t254.length co22)) (fun _ hk => hk.1.2) (.int .i64 t257)) (fun _ hk => hk.2) (.bool t259)) (fun _ hk => hk.2) (.complex .f64 t260.re t260.im)) (fun _ hk => hk.2) (.int .i64 t261)) (fun _ hk => hk.2) (.int .i64 t262)) (fun _ hk => hk.2) (.int .i64 t263)) (fun _ hk => hk.2) (.slice Ao30 t264.length co30)) (fun _ hk => hk.2) (.int .i64 t267)) (fun _ h_ => h_.1)) (fun _ h_ => h_.1)))); (case side2 => exact (Kd.R_reads' HO256.out).2.1); (case side3 => refine (Kd.R_reads' (e := 31) (base := w.heap.size) (ok := fun k_ => some k_ ≠ (.slice Ao22 t254.length co22 : Value).ownBlock) (n := t264.length) (c := co30) ?_).2.2; exact (by (with_reducible repeat (first | apply Kd.R_alloc | apply Kd.R_drewN | apply Kd.R_drew)); exact (Kd.R_mono (Kd.R_mono (Kd.R_far (p := ⟨gb269, 6, none⟩) (Kd.R_far (p := ⟨gb269, 5, none⟩) (Kd.R_far (p := ⟨gb269, 4, none⟩) (Kd.R_far (p := ⟨gb269, 3, none⟩) (Kd.R_far (p := ⟨gb269, 2, none⟩) (Kd.R_far (p := ⟨gb269, 1, none⟩) (Kd.R_far (p := ⟨gb269, 0, none⟩) (Kd.R_far (p := ⟨gb268, 6, none⟩) (Kd.R_far (p := ⟨gb268, 5, none⟩) (Kd.R_far (p := ⟨gb268, 4, none⟩) (Kd.R_far (p := ⟨gb268, 3, none⟩) (Kd.R_far (p := ⟨gb268, 2, none⟩) (Kd.R_far (p := ⟨gb268, 1, none⟩) (Kd.R_far (p := ⟨gb268, 0, none⟩) (Kd.R_types (Kd.R_types HO266.out BK268.out (by decide)) BK269.out (by decide)) (fun _ hk => hk.1.2) (.bool t249)) (fun _ hk => hk.1.2) (.complex .f64 t250.re t250.im)) (fun _ hk => hk.1.2) (.int .i64 t251)) (fun _ hk => hk.1.2) (.int .i64 t252)) (fun _ hk => hk.1.2) (.int .i64 t253)) (fun _ hk => hk.1.2) (.slice Ao22 t254.length co22)) (fun _ hk => hk.1.2) (.int .i64 t257)) (fun _ hk => hk.2) (.bool t259)) (fun _ hk => hk.2) (.complex .f64 t260.re t260.im)) (fun _ hk => hk.2) (.int .i64 t261)) (fun _ hk => hk.2) (.int .i64 t262)) (fun _ hk => hk.2) (.int .i64 t263)) (fun _ hk => hk.2) (.slice Ao30 t264.length co30)) (fun _ hk => hk.2) (.int .i64 t267)) (fun _ h_ => h_.1)) (fun _ h_ => h_.1)))); (case side4 => exact (Kd.R_reads' HO266.out).2.1); rintro e w' ⟨rfl, ⟨nd, rfl⟩⟩))
              go_meet
              case rel => exact ⟨_, (!t270), (by first | rfl | (simp; done) | (simp [*]; done)), H', ⟨by have := HK1.out; first | omega | exact Nat.le_refl _⟩, ⟨by (with_reducible repeat (first | apply Kd.R_alloc | apply Kd.R_drewN | apply Kd.R_drew)); exact Kd.R_mono (Kd.R_far (p := ⟨gb269, 6, none⟩) (Kd.R_far (p := ⟨gb269, 5, none⟩) (Kd.R_far (p := ⟨gb269, 4, none⟩) (Kd.R_far (p := ⟨gb269, 3, none⟩) (Kd.R_far (p := ⟨gb269, 2, none⟩) (Kd.R_far (p := ⟨gb269, 1, none⟩) (Kd.R_far (p := ⟨gb269, 0, none⟩) (Kd.R_far (p := ⟨gb268, 6, none⟩) (Kd.R_far (p := ⟨gb268, 5, none⟩) (Kd.R_far (p := ⟨gb268, 4, none⟩) (Kd.R_far (p := ⟨gb268, 3, none⟩) (Kd.R_far (p := ⟨gb268, 2, none⟩) (Kd.R_far (p := ⟨gb268, 1, none⟩) (Kd.R_far (p := ⟨gb268, 0, none⟩) (Kd.R_types (Kd.R_types HO256.out BK268.out (by decide)) BK269.out (by decide)) (fun _ hk => hk.1.2) (.bool t249)) (fun _ hk => hk.1.2) (.complex .f64 t250.re t250.im)) (fun _ hk => hk.1.2) (.int .i64 t251)) (fun _ hk => hk.1.2) (.int .i64 t252)) (fun _ hk => hk.1.2) (.int .i64 t253)) (fun _ hk => hk.1.2) (.slice Ao22 t254.length co22)) (fun _ hk => hk.1.2) (.int .i64 t257)) (fun _ hk => hk.2) (.bool t259)) (fun _ hk => hk.2) (.complex .f64 t260.re t260.im)) (fun _ hk => hk.2) (.int .i64 t261)) (fun _ hk => hk.2) (.int .i64 t262)) (fun _ hk => hk.2) (.int .i64 t263)) (fun _ hk => hk.2) (.slice Ao30 t264.length co30)) (fun _ hk => hk.2) (.int .i64 t267)) (fun _ hk => hk.1.1)⟩, ⟨by (with_reducible repeat (first | apply Kd.R_alloc | apply Kd.R_drewN | apply Kd.R_drew)); exact Kd.R_mono (Kd.R_far (p := ⟨gb269, 6, none⟩) (Kd.R_far (p := ⟨gb269, 5, none⟩) (Kd.R_far (p := ⟨gb269, 4, none⟩) (Kd.R_far (p := ⟨gb269, 3, none⟩) (Kd.R_far (p := ⟨gb269, 2, none⟩) (Kd.R_far (p := ⟨gb269, 1, none⟩) (Kd.R_far (p := ⟨gb269, 0, none⟩) (Kd.R_far (p := ⟨gb268, 6, none⟩) (Kd.R_far (p := ⟨gb268, 5, none⟩) (Kd.R_far (p := ⟨gb268, 4, none⟩) (Kd.R_far (p := ⟨gb268, 3, none⟩) (Kd.R_far (p := ⟨gb268, 2, none⟩) (Kd.R_far (p := ⟨gb268, 1, none⟩) (Kd.R_far (p := ⟨gb268, 0, none⟩) (Kd.R_types (Kd.R_types HO266.out BK268.out (by decide)) BK269.out (by decide)) (fun _ hk => hk.1.2) (.bool t249)) (fun _ hk => hk.1.2) (.complex .f64 t250.re t250.im)) (fun _ hk => hk.1.2) (.int .i64 t251)) (fun _ hk => hk.1.2) (.int .i64 t252)) (fun _ hk => hk.1.2) (.int .i64 t253)) (fun _ hk => hk.1.2) (.slice Ao22 t254.length co22)) (fun _ hk => hk.1.2) (.int .i64 t257)) (fun _ hk => hk.2) (.bool t259)) (fun _ hk => hk.2) (.complex .f64 t260.re t260.im)) (fun _ hk => hk.2) (.int .i64 t261)) (fun _ hk => hk.2) (.int .i64 t262)) (fun _ hk => hk.2) (.int .i64 t263)) (fun _ hk => hk.2) (.slice Ao30 t264.length co30)) (fun _ hk => hk.2) (.int .i64 t267)) (fun _ hk => hk.1.1)⟩, ⟨by (iterate 7 ((with_reducible repeat (first | refine bN_ ?_ _ | refine bD_ ?_ | refine bA_ ?_ _)); refine bF_ ?_ NB268_269.out _)); (with_reducible repeat (first | refine bN_ ?_ _ | refine bD_ ?_ | refine bA_ ?_ _)); refine bP_ (cs := #[.bool t249, .complex .f64 t250.re t250.im, .int .i64 t251, .int .i64 t252, .int .i64 t253, .slice Ao22 t254.length co22, .int .i64 0]) ?_ 6 _ rfl; (with_reducible repeat (first | refine bN_ ?_ _ | refine bD_ ?_ | refine bA_ ?_ _)); refine bP_ (cs := #[.bool t249, .complex .f64 t250.re t250.im, .int .i64 t251, .int .i64 t252, .int .i64 t253, .slice none 0 0, .int .i64 0]) ?_ 5 _ rfl; (with_reducible repeat (first | refine bN_ ?_ _ | refine bD_ ?_ | refine bA_ ?_ _)); refine bP_ (cs := #[.bool t249, .complex .f64 t250.re t250.im, .int .i64 t251, .int .i64 t252, .int .i64 0, .slice none 0 0, .int .i64 0]) ?_ 4 _ rfl; (with_reducible repeat (first | refine bN_ ?_ _ | refine bD_ ?_ | refine bA_ ?_ _)); refine bP_ (cs := #[.bool t249, .complex .f64 t250.re t250.im, .int .i64 t251, .int .i64 0, .int .i64 0, .slice none 0 0, .int .i64 0]) ?_ 3 _ rfl; (with_reducible repeat (first | refine bN_ ?_ _ | refine bD_ ?_ | refine bA_ ?_ _)); refine bP_ (cs := #[.bool t249, .complex .f64 t250.re t250.im, .int .i64 0, .int .i64 0, .int .i64 0, .slice none 0 0, .int .i64 0]) ?_ 2 _ rfl; (with_reducible repeat (first | refine bN_ ?_ _ | refine bD_ ?_ | refine bA_ ?_ _)); refine bP_ (cs := #[.bool t249, .complex .f64 0 0, .int .i64 0, .int .i64 0, .int .i64 0, .slice none 0 0, .int .i64 0]) ?_ 1 _ rfl; (with_reducible repeat (first | refine bN_ ?_ _ | refine bD_ ?_ | refine bA_ ?_ _)); refine bP_ (cs := #[.bool false, .complex .f64 0 0, .int .i64 0, .int .i64 0, .int .i64 0, .slice none 0 0, .int .i64 0]) ?_ 0 _ rfl; (with_reducible repeat (first | refine bN_ ?_ _ | refine bD_ ?_ | refine bA_ ?_ _)); exact BK268.out⟩, ⟨by (with_reducible repeat (first | refine bN_ ?_ _ | refine bD_ ?_ | refine bA_ ?_ _)); refine bP_ (cs := #[.bool t259, .complex .f64 t260.re t260.im, .int .i64 t261, .int .i64 t262, .int .i64 t263, .slice Ao30 t264.length co30, .int .i64 0]) ?_ 6 _ rfl; (with_reducible repeat (first | refine bN_ ?_ _ | refine bD_ ?_ | refine bA_ ?_ _)); refine bP_ (cs := #[.bool t259, .complex .f64 t260.re t260.im, .int .i64 t261, .int .i64 t262, .int .i64 t263, .slice none 0 0, .int .i64 0]) ?_ 5 _ rfl; (with_reducible repeat (first | refine bN_ ?_ _ | refine bD_ ?_ | refine bA_ ?_ _)); refine bP_ (cs := #[.bool t259, .complex .f64 t260.re t260.im, .int .i64 t261, .int .i64 t262, .int .i64 0, .slice none 0 0, .int .i64 0]) ?_ 4 _ rfl; (with_reducible repeat (first | refine bN_ ?_ _ | refine bD_ ?_ | refine bA_ ?_ _)); refine bP_ (cs := #[.bool t259, .complex .f64 t260.re t260.im, .int .i64 t261, .int .i64 0, .int .i64 0, .slice none 0 0, .int .i64 0]) ?_ 3 _ rfl; (with_reducible repeat (first | refine bN_ ?_ _ | refine bD_ ?_ | refine bA_ ?_ _)); refine bP_ (cs := #[.bool t259, .complex .f64 t260.re t260.im, .int .i64 0, .int .i64 0, .int .i64 0, .slice none 0 0, .int .i64 0]) ?_ 2 _ rfl; (with_reducible repeat (first | refine bN_ ?_ _ | refine bD_ ?_ | refine bA_ ?_ _)); refine bP_ (cs := #[.bool t259, .complex .f64 0 0, .int .i64 0, .int .i64 0, .int .i64 0, .slice none 0 0, .int .i64 0]) ?_ 1 _ rfl; (with_reducible repeat (first | refine bN_ ?_ _ | refine bD_ ?_ | refine bA_ ?_ _)); refine bP_ (cs := #[.bool false, .complex .f64 0 0, .int .i64 0, .int .i64 0, .int .i64 0, .slice none 0 0, .int .i64 0]) ?_ 0 _ rfl; (iterate 7 ((with_reducible repeat (first | refine bN_ ?_ _ | refine bD_ ?_ | refine bA_ ?_ _)); refine bF_ ?_ NB269_268.out _)); (with_reducible repeat (first | refine bN_ ?_ _ | refine bD_ ?_ | refine bA_ ?_ _)); exact BK269.out⟩, ⟨by repeat (first | (with_reducible first | exact HB.out | apply lA_ | apply lN_ | apply l1_ | refine lS_ ?_ GE268.out | refine lS_ ?_ GE269.out) | exact HB.out)⟩⟩
             ·
              rw [if_neg c41] at H
              have c41b0 : (t257 == t267) = false := beq_eq_false_iff_ne.mpr c41
              have c41b1 : (t257 != t267) = true := bne_iff_ne.mpr c41
              have H' := Aside0.mk H
              clear H
              have hnb46 := NB268_269.out
              have hnc46 := NB269_268.out
              have hcz47_0 : w16.cell? ⟨gb268, 0, none⟩ = some (.bool false) := (bC_ BK268.out 0).trans rfl
              have hcz47_1 : w16.cell? ⟨gb268, 1, none⟩ = some (.complex .f64 0 0) := (bC_ BK268.out 1).trans rfl
              have hcz47_2 : w16.cell? ⟨gb268, 2, none⟩ = some (.int .i64 0) := (bC_ BK268.out 2).trans rfl
              have hcz47_3 : w16.cell? ⟨gb268, 3, none⟩ = some (.int .i64 0) := (bC_ BK268.out 3).trans rfl
              have hcz47_4 : w16.cell? ⟨gb268, 4, none⟩ = some (.int .i64 0) := (bC_ BK268.out 4).trans rfl
              have hcz47_5 : w16.cell? ⟨gb268, 5, none⟩ = some (.slice none 0 0) := (bC_ BK268.out 5).trans rfl
              have hcz47_6 : w16.cell? ⟨gb268, 6, none⟩ = some (.int .i64 0) := (bC_ BK268.out 6).trans rfl
              have hfz47_0 := bZ_ BK268.out 0
              have hfz47_1 := bZ_ BK268.out 1
              have hfz47_2 := bZ_ BK268.out 2
              have hfz47_3 := bZ_ BK268.out 3
              have hfz47_4 := bZ_ BK268.out 4
              have hfz47_5 := bZ_ BK268.out 5
              have hfz47_6 := bZ_ BK268.out 6
              have hcz48_0 : w16.cell? ⟨gb269, 0, none⟩ = some (.bool false) := (bC_ BK269.out 0).trans rfl
              have hcz48_1 : w16.cell? ⟨gb269, 1, none⟩ = some (.complex .f64 0 0) := (bC_ BK269.out 1).trans rfl
              have hcz48_2 : w16.cell? ⟨gb269, 2, none⟩ = some (.int .i64 0) := (bC_ BK269.out 2).trans rfl
              have hcz48_3 : w16.cell? ⟨gb269, 3, none⟩ = some (.int .i64 0) := (bC_ BK269.out 3).trans rfl
              have hcz48_4 : w16.cell? ⟨gb269, 4, none⟩ = some (.int .i64 0) := (bC_ BK269.out 4).trans rfl
              have hcz48_5 : w16.cell? ⟨gb269, 5, none⟩ = some (.slice none 0 0) := (bC_ BK269.out 5).trans rfl
              have hcz48_6 : w16.cell? ⟨gb269, 6, none⟩ = some (.int .i64 0) := (bC_ BK269.out 6).trans rfl
              have hfz48_0 := bZ_ BK269.out 0
              have hfz48_1 := bZ_ BK269.out 1
              have hfz48_2 := bZ_ BK269.out 2
              have hfz48_3 := bZ_ BK269.out 3
              have hfz48_4 := bZ_ BK269.out 4
              have hfz48_5 := bZ_ BK269.out 5
              have hfz48_6 := bZ_ BK269.out 6
              go_wp2
              go_meet
              case rel => exact ⟨_, (true), (by first | rfl | (simp; done) | (simp [*]; done)), H', ⟨by have := HK1.out; first | omega | exact Nat.le_refl _⟩, ⟨by (with_reducible repeat (first | apply Kd.R_alloc | apply Kd.R_drewN | apply Kd.R_drew)); exact Kd.R_mono (Kd.R_far (p := ⟨gb269, 6, none⟩) (Kd.R_far (p := ⟨gb269, 5, none⟩) (Kd.R_far (p := ⟨gb269, 4, none⟩) (Kd.R_far (p := ⟨gb269, 3, none⟩) (Kd.R_far (p := ⟨gb269, 2, none⟩) (Kd.R_far (p := ⟨gb269, 1, none⟩) (Kd.R_far (p := ⟨gb269, 0, none⟩) (Kd.R_far (p := ⟨gb268, 6, none⟩) (Kd.R_far (p := ⟨gb268, 5, none⟩) (Kd.R_far (p := ⟨gb268, 4, none⟩) (Kd.R_far (p := ⟨gb268, 3, none⟩) (Kd.R_far (p := ⟨gb268, 2, none⟩) (Kd.R_far (p := ⟨gb268, 1, none⟩) (Kd.R_far (p := ⟨gb268, 0, none⟩) (Kd.R_types (Kd.R_types HO256.out BK268.out (by decide)) BK269.out (by decide)) (fun _ hk => hk.1.2) (.bool t249)) (fun _ hk => hk.1.2) (.complex .f64 t250.re t250.im)) (fun _ hk => hk.1.2) (.int .i64 t251)) (fun _ hk => hk.1.2) (.int .i64 t252)) (fun _ hk => hk.1.2) (.int .i64 t253)) (fun _ hk => hk.1.2) (.slice Ao22 t254.length co22)) (fun _ hk => hk.1.2) (.int .i64 t257)) (fun _ hk => hk.2) (.bool t259)) (fun _ hk => hk.2) (.complex .f64 t260.re t260.im)) (fun _ hk => hk.2) (.int .i64 t261)) (fun _ hk => hk.2) (.int .i64 t262)) (fun _ hk => hk.2) (.int .i64 t263)) (fun _ hk => hk.2) (.slice Ao30 t264.length co30)) (fun _ hk => hk.2) (.int .i64 t267)) (fun _ hk => hk.1.1)⟩, ⟨by (with_reducible repeat (first | apply Kd.R_alloc | apply Kd.R_drewN | apply Kd.R_drew)); exact Kd.R_mono (Kd.R_far (p := ⟨gb269, 6, none⟩) (Kd.R_far (p := ⟨gb269, 5, none⟩) (Kd.R_far (p := ⟨gb269, 4, none⟩) (Kd.R_far (p := ⟨gb269, 3, none⟩) (Kd.R_far (p := ⟨gb269, 2, none⟩) (Kd.R_far (p := ⟨gb269, 1, none⟩) (Kd.R_far (p := ⟨gb269, 0, none⟩) (Kd.R_far (p := ⟨gb268, 6, none⟩) (Kd.R_far (p := ⟨gb268, 5, none⟩) (Kd.R_far (p := ⟨gb268, 4, none⟩) (Kd.R_far (p := ⟨gb268, 3, none⟩) (Kd.R_far (p := ⟨gb268, 2, none⟩) (Kd.R_far (p := ⟨gb268, 1, none⟩) (Kd.R_far (p := ⟨gb268, 0, none⟩) (Kd.R_types (Kd.R_types HO266.out BK268.out (by decide)) BK269.out (by decide)) (fun _ hk => hk.1.2) (.bool t249)) (fun _ hk => hk.1.2) (.complex .f64 t250.re t250.im)) (fun _ hk => hk.1.2) (.int .i64 t251)) (fun _ hk => hk.1.2) (.int .i64 t252)) (fun _ hk => hk.1.2) (.int .i64 t253)) (fun _ hk => hk.1.2) (.slice Ao22 t254.length co22)) (fun _ hk => hk.1.2) (.int .i64 t257)) (fun _ hk => hk.2) (.bool t259)) (fun _ hk => hk.2) (.complex .f64 t260.re t260.im)) (fun _ hk => hk.2) (.int .i64 t261)) (fun _ hk => hk.2) (.int .i64 t262)) (fun _ hk => hk.2) (.int .i64 t263)) (fun _ hk => hk.2) (.slice Ao30 t264.length co30)) (fun _ hk => hk.2) (.int .i64 t267)) (fun _ hk => hk.1.1)⟩, ⟨by (iterate 7 ((with_reducible repeat (first | refine bN_ ?_ _ | refine bD_ ?_ | refine bA_ ?_ _)); refine bF_ ?_ NB268_269.out _)); (with_reducible repeat (first | refine bN_ ?_ _ | refine bD_ ?_ | refine bA_ ?_ _)); refine bP_ (cs := #[.bool t249, .complex .f64 t250.re t250.im, .int .i64 t251, .int .i64 t252, .int .i64 t253, .slice Ao22 t254.length co22, .int .i64 0]) ?_ 6 _ rfl; (with_reducible repeat (first | refine bN_ ?_ _ | refine bD_ ?_ | refine bA_ ?_ _)); refine bP_ (cs := #[.bool t249, .complex .f64 t250.re t250.im, .int .i64 t251, .int .i64 t252, .int .i64 t253, .slice none 0 0, .int .i64 0]) ?_ 5 _ rfl; (with_reducible repeat (first | refine bN_ ?_ _ | refine bD_ ?_ | refine bA_ ?_ _)); refine bP_ (cs := #[.bool t249, .complex .f64 t250.re t250.im, .int .i64 t251, .int .i64 t252, .int .i64 0, .slice none 0 0, .int .i64 0]) ?_ 4 _ rfl; (with_reducible repeat (first | refine bN_ ?_ _ | refine bD_ ?_ | refine bA_ ?_ _)); refine bP_ (cs := #[.bool t249, .complex .f64 t250.re t250.im, .int .i64 t251, .int .i64 0, .int .i64 0, .slice none 0 0, .int .i64 0]) ?_ 3 _ rfl; (with_reducible repeat (first | refine bN_ ?_ _ | refine bD_ ?_ | refine bA_ ?_ _)); refine bP_ (cs := #[.bool t249, .complex .f64 t250.re t250.im, .int .i64 0, .int .i64 0, .int .i64 0, .slice none 0 0, .int .i64 0]) ?_ 2 _ rfl; (with_reducible repeat (first | refine bN_ ?_ _ | refine bD_ ?_ | refine bA_ ?_ _)); refine bP_ (cs := #[.bool t249, .complex .f64 0 0, .int .i64 0, .int .i64 0, .int .i64 0, .slice none 0 0, .int .i64 0]) ?_ 1 _ rfl; (with_reducible repeat (first | refine bN_ ?_ _ | refine bD_ ?_ | refine bA_ ?_ _)); refine bP_ (cs := #[.bool false, .complex .f64 0 0, .int .i64 0, .int .i64 0, .int .i64 0, .slice none 0 0, .int .i64 0]) ?_ 0 _ rfl; (with_reducible repeat (first | refine bN_ ?_ _ | refine bD_ ?_ | refine bA_ ?_ _)); exact BK268.out⟩, ⟨by (with_reducible repeat (first | refine bN_ ?_ _ | refine bD_ ?_ | refine bA_ ?_ _)); refine bP_ (cs := #[.bool t259, .complex .f64 t260.re t260.im, .int .i64 t261, .int .i64 t262, .int .i64 t263, .slice Ao30 t264.length co30, .int .i64 0]) ?_ 6 _ rfl; (with_reducible repeat (first | refine bN_ ?_ _ | refine bD_ ?_ | refine bA_ ?_ _)); refine bP_ (cs := #[.bool t259, .complex .f64 t260.re t260.im, .int .i64 t261, .int .i64 t262, .int .i64 t263, .slice none 0 0, .int .i64 0]) ?_ 5 _ rfl; (with_reducible repeat (first | refine bN_ ?_ _ | refine bD_ ?_ | refine bA_ ?_ _)); refine bP_ (cs := #[.bool t259, .complex .f64 t260.re t260.im, .int .i64 t261, .int .i64 t262, .int .i64 0, .slice none 0 0, .int .i64 0]) ?_ 4 _ rfl; (with_reducible repeat (first | refine bN_ ?_ _ | refine bD_ ?_ | refine bA_ ?_ _)); refine bP_ (cs := #[.bool t259, .complex .f64 t260.re t260.im, .int .i64 t261, .int .i64 0, .int .i64 0, .slice none 0 0, .int .i64 0]) ?_ 3 _ rfl; (with_reducible repeat (first | refine bN_ ?_ _ | refine bD_ ?_ | refine bA_ ?_ _)); refine bP_ (cs := #[.bool t259, .complex .f64 t260.re t260.im, .int .i64 0, .int .i64 0, .int .i64 0, .slice none 0 0, .int .i64 0]) ?_ 2 _ rfl; (with_reducible repeat (first | refine bN_ ?_ _ | refine bD_ ?_ | refine bA_ ?_ _)); refine bP_ (cs := #[.bool t259, .complex .f64 0 0, .int .i64 0, .int .i64 0, .int .i64 0, .slice none 0 0, .int .i64 0]) ?_ 1 _ rfl; (with_reducible repeat (first | refine bN_ ?_ _ | refine bD_ ?_ | refine bA_ ?_ _)); refine bP_ (cs := #[.bool false, .complex .f64 0 0, .int .i64 0, .int .i64 0, .int .i64 0, .slice none 0 0, .int .i64 0]) ?_ 0 _ rfl; (iterate 7 ((with_reducible repeat (first | refine bN_ ?_ _ | refine bD_ ?_ | refine bA_ ?_ _)); refine bF_ ?_ NB269_268.out _)); (with_reducible repeat (first | refine bN_ ?_ _ | refine bD_ ?_ | refine bA_ ?_ _)); exact BK269.out⟩, ⟨by repeat (first | (with_reducible first | exact HB.out | apply lA_ | apply lN_ | apply l1_ | refine lS_ ?_ GE268.out | refine lS_ ?_ GE269.out) | exact HB.out)⟩⟩
            ·
             rw [if_neg c40] at H
             have c40b0 : (t253 == t263) = false := beq_eq_false_iff_ne.mpr c40
             have c40b1 : (t253 != t263) = true := bne_iff_ne.mpr c40
             have H' := Aside0.mk H
             clear H
             have hnb49 := NB268_269.out
             have hnc49 := NB269_268.out
             have hcz50_0 : w16.cell? ⟨gb268, 0, none⟩ = some (.bool false) := (bC_ BK268.out 0).trans rfl
             have hcz50_1 : w16.cell? ⟨gb268, 1, none⟩ = some (.complex .f64 0 0) := (bC_ BK268.out 1).trans rfl
             have hcz50_2 : w16.cell? ⟨gb268, 2, none⟩ = some (.int .i64 0) := (bC_ BK268.out 2).trans rfl
             have hcz50_3 : w16.cell? ⟨gb268, 3, none⟩ = some (.int .i64 0) := (bC_ BK268.out 3).trans rfl
             have hcz50_4 : w16.cell? ⟨gb268, 4, none⟩ = some (.int .i64 0) := (bC_ BK268.out 4).trans rfl
             have hcz50_5 : w16.cell? ⟨gb268, 5, none⟩ = some (.slice none 0 0) := (bC_ BK268.out 5).trans rfl
             have hcz50_6 : w16.cell? ⟨gb268, 6, none⟩ = some (.int .i64 0) := (bC_ BK268.out 6).trans rfl
             have hfz50_0 := bZ_ BK268.out 0
             have hfz50_1 := bZ_ BK268.out 1
             have hfz50_2 := bZ_ BK268.out 2
             have hfz50_3 := bZ_ BK268.out 3
             have hfz50_4 := bZ_ BK268.out 4
             have hfz50_5 := bZ_ BK268.out 5
             have hfz50_6 := bZ_ BK268.out 6
             have hcz51_0 : w16.cell? ⟨gb269, 0, none⟩ = some (.bool false) := (bC_ BK269.out 0).trans rfl
             have hcz51_1 : w16.cell? ⟨gb269, 1, none⟩ = some (.complex .f64 0 0) := (bC_ BK269.out 1).trans rfl
             have hcz51_2 : w16.cell? ⟨gb269, 2, none⟩ = some (.int .i64 0) := (bC_ BK269.out 2).trans rfl
             have hcz51_3 : w16.cell? ⟨gb269, 3, none⟩ = some (.int .i64 0) := (bC_ BK269.out 3).trans rfl
             have hcz51_4 : w16.cell? ⟨gb269, 4, none⟩ = some (.int .i64 0) := (bC_ BK269.out 4).trans rfl
             have hcz51_5 : w16.cell? ⟨gb269, 5, none⟩ = some (.slice none 0 0) := (bC_ BK269.out 5).trans rfl
             have hcz51_6 : w16.cell? ⟨gb269, 6, none⟩ = some (.int .i64 0) := (bC_ BK269.out 6).trans rfl
             have hfz51_0 := bZ_ BK269.out 0
             have hfz51_1 := bZ_ BK269.out 1
             have hfz51_2 := bZ_ BK269.out 2
             have hfz51_3 := bZ_ BK269.out 3
             have hfz51_4 := bZ_ BK269.out 4
             have hfz51_5 := bZ_ BK269.out 5
             have hfz51_6 := bZ_ BK269.out 6
             go_wp2
             go_meet
             case rel => exact ⟨_, (true), (by first | rfl | (simp; done) | (simp [*]; done)), H', ⟨by have := HK1.out; first | omega | exact Nat.le_refl _⟩, ⟨by (with_reducible repeat (first | apply Kd.R_alloc | apply Kd.R_drewN | apply Kd.R_drew)); exact Kd.R_mono (Kd.R_far (p := ⟨gb269, 6, none⟩) (Kd.R_far (p := ⟨gb269, 5, none⟩) (Kd.R_far (p := ⟨gb269, 4, none⟩) (Kd.R_far (p := ⟨gb269, 3, none⟩) (Kd.R_far (p := ⟨gb269, 2, none⟩) (Kd.R_far (p := ⟨gb269, 1, none⟩) (Kd.R_far (p := ⟨gb269, 0, none⟩) (Kd.R_far (p := ⟨gb268, 6, none⟩) (Kd.R_far (p := ⟨gb268, 5, none⟩) (Kd.R_far (p := ⟨gb268, 4, none⟩) (Kd.R_far (p := ⟨gb268, 3, none⟩) (Kd.R_far (p := ⟨gb268, 2, none⟩) (Kd.R_far (p := ⟨gb268, 1, none⟩) (Kd.R_far (p := ⟨gb268, 0, none⟩) (Kd.R_types (Kd.R_types HO256.out BK268.out (by decide)) BK269.out (by decide)) (fun _ hk => hk.1.2) (.bool t249)) (fun _ hk => hk.1.2) (.complex .f64 t250.re t250.im)) (fun _ hk => hk.1.2) (.int .i64 t251)) (fun _ hk => hk.1.2) (.int .i64 t252)) (fun _ hk => hk.1.2) (.int .i64 t253)) (fun _ hk => hk.1.2) (.slice Ao22 t254.length co22)) (fun _ hk => hk.1.2) (.int .i64 t257)) (fun _ hk => hk.2) (.bool t259)) (fun _ hk => hk.2) (.complex .f64 t260.re t260.im)) (fun _ hk => hk.2) (.int .i64 t261)) (fun _ hk => hk.2) (.int .i64 t262)) (fun _ hk => hk.2) (.int .i64 t263)) (fun _ hk => hk.2) (.slice Ao30 t264.length co30)) (fun _ hk => hk.2) (.int .i64 t267)) (fun _ hk => hk.1.1)⟩, ⟨by (with_reducible repeat (first | apply Kd.R_alloc | apply Kd.R_drewN | apply Kd.R_drew)); exact Kd.R_mono (Kd.R_far (p := ⟨gb269, 6, none⟩) (Kd.R_far (p := ⟨gb269, 5, none⟩) (Kd.R_far (p := ⟨gb269, 4, none⟩) (Kd.R_far (p := ⟨gb269, 3, none⟩) (Kd.R_far (p := ⟨gb269, 2, none⟩) (Kd.R_far (p := ⟨gb269, 1, none⟩) (Kd.R_far (p := ⟨gb269, 0, none⟩) (Kd.R_far (p := ⟨gb268, 6, none⟩) (Kd.R_far (p := ⟨gb268, 5, none⟩) (Kd.R_far (p := ⟨gb268, 4, none⟩) (Kd.R_far (p := ⟨gb268, 3, none⟩) (Kd.R_far (p := ⟨gb268, 2, none⟩) (Kd.R_far (p := ⟨gb268, 1, none⟩) (Kd.R_far (p := ⟨gb268, 0, none⟩) (Kd.R_types (Kd.R_types HO266.out BK268.out (by decide)) BK269.out (by decide)) (fun _ hk => hk.1.2) (.bool t249)) (fun _ hk => hk.1.2) (.complex .f64 t250.re t250.im)) (fun _ hk => hk.1.2) (.int .i64 t251)) (fun _ hk => hk.1.2) (.int .i64 t252)) (fun _ hk => hk.1.2) (.int .i64 t253)) (fun _ hk => hk.1.2) (.slice Ao22 t254.length co22)) (fun _ hk => hk.1.2) (.int .i64 t257)) (fun _ hk => hk.2) (.bool t259)) (fun _ hk => hk.2) (.complex .f64 t260.re t260.im)) (fun _ hk => hk.2) (.int .i64 t261)) (fun _ hk => hk.2) (.int .i64 t262)) (fun _ hk => hk.2) (.int .i64 t263)) (fun _ hk => hk.2) (.slice Ao30 t264.length co30)) (fun _ hk => hk.2) (.int .i64 t267)) (fun _ hk => hk.1.1)⟩, ⟨by (iterate 7 ((with_reducible repeat (first | refine bN_ ?_ _ | refine bD_ ?_ | refine bA_ ?_ _)); refine bF_ ?_ NB268_269.out _)); (with_reducible repeat (first | refine bN_ ?_ _ | refine bD_ ?_ | refine bA_ ?_ _)); refine bP_ (cs := #[.bool t249, .complex .f64 t250.re t250.im, .int .i64 t251, .int .i64 t252, .int .i64 t253, .slice Ao22 t254.length co22, .int .i64 0]) ?_ 6 _ rfl; (with_reducible repeat (first | refine bN_ ?_ _ | refine bD_ ?_ | refine bA_ ?_ _)); refine bP_ (cs := #[.bool t249, .complex .f64 t250.re t250.im, .int .i64 t251, .int .i64 t252, .int .i64 t253, .slice none 0 0, .int .i64 0]) ?_ 5 _ rfl; (with_reducible repeat (first | refine bN_ ?_ _ | refine bD_ ?_ | refine bA_ ?_ _)); refine bP_ (cs := #[.bool t249, .complex .f64 t250.re t250.im, .int .i64 t251, .int .i64 t252, .int .i64 0, .slice none 0 0, .int .i64 0]) ?_ 4 _ rfl; (with_reducible repeat (first | refine bN_ ?_ _ | refine bD_ ?_ | refine bA_ ?_ _)); refine bP_ (cs := #[.bool t249, .complex .f64 t250.re t250.im, .int .i64 t251, .int .i64 0, .int .i64 0, .slice none 0 0, .int .i64 0]) ?_ 3 _ rfl; (with_reducible repeat (first | refine bN_ ?_ _ | refine bD_ ?_ | refine bA_ ?_ _)); refine bP_ (cs := #[.bool t249, .complex .f64 t250.re t250.im, .int .i64 0, .int .i64 0, .int .i64 0, .slice none 0 0, .int .i64 0]) ?_ 2 _ rfl; (with_reducible repeat (first | refine bN_ ?_ _ | refine bD_ ?_ | refine bA_ ?_ _)); refine bP_ (cs := #[.bool t249, .complex .f64 0 0, .int .i64 0, .int .i64 0, .int .i64 0, .slice none 0 0, .int .i64 0]) ?_ 1 _ rfl; (with_reducible repeat (first | refine bN_ ?_ _ | refine bD_ ?_ | refine bA_ ?_ _)); refine bP_ (cs := #[.bool false, .complex .f64 0 0, .int .i64 0, .int .i64 0, .int .i64 0, .slice none 0 0, .int .i64 0]) ?_ 0 _ rfl; (with_reducible repeat (first | refine bN_ ?_ _ | refine bD_ ?_ | refine bA_ ?_ _)); exact BK268.out⟩, ⟨by (with_reducible repeat (first | refine bN_ ?_ _ | refine bD_ ?_ | refine bA_ ?_ _)); refine bP_ (cs := #[.bool t259, .complex .f64 t260.re t260.im, .int .i64 t261, .int .i64 t262, .int .i64 t263, .slice Ao30 t264.length co30, .int .i64 0]) ?_ 6 _ rfl; (with_reducible repeat (first | refine bN_ ?_ _ | refine bD_ ?_ | refine bA_ ?_ _)); refine bP_ (cs := #[.bool t259, .complex .f64 t260.re t260.im, .int .i64 t261, .int .i64 t262, .int .i64 t263, .slice none 0 0, .int .i64 0]) ?_ 5 _ rfl; (with_reducible repeat (first | refine bN_ ?_ _ | refine bD_ ?_ | refine bA_ ?_ _)); refine bP_ (cs := #[.bool t259, .complex .f64 t260.re t260.im, .int .i64 t261, .int .i64 t262, .int .i64 0, .slice none 0 0, .int .i64 0]) ?_ 4 _ rfl; (with_reducible repeat (first | refine bN_ ?_ _ | refine bD_ ?_ | refine bA_ ?_ _)); refine bP_ (cs := #[.bool t259, .complex .f64 t260.re t260.im, .int .i64 t261, .int .i64 0, .int .i64 0, .slice none 0 0, .int .i64 0]) ?_ 3 _ rfl; (with_reducible repeat (first | refine bN_ ?_ _ | refine bD_ ?_ | refine bA_ ?_ _)); refine bP_ (cs := #[.bool t259, .complex .f64 t260.re t260.im, .int .i64 0, .int .i64 0, .int .i64 0, .slice none 0 0, .int .i64 0]) ?_ 2 _ rfl; (with_reducible repeat (first | refine bN_ ?_ _ | refine bD_ ?_ | refine bA_ ?_ _)); refine bP_ (cs := #[.bool t259, .complex .f64 0 0, .int .i64 0, .int .i64 0, .int .i64 0, .slice none 0 0, .int .i64 0]) ?_ 1 _ rfl; (with_reducible repeat (first | refine bN_ ?_ _ | refine bD_ ?_ | refine bA_ ?_ _)); refine bP_ (cs := #[.bool false, .complex .f64 0 0, .int .i64 0, .int .i64 0, .int .i64 0, .slice none 0 0, .int .i64 0]) ?_ 0 _ rfl; (iterate 7 ((with_reducible repeat (first | refine bN_ ?_ _ | refine bD_ ?_ | refine bA_ ?_ _)); refine bF_ ?_ NB269_268.out _)); (with_reducible repeat (first | refine bN_ ?_ _ | refine bD_ ?_ | refine bA_ ?_ _)); exact BK269.out⟩, ⟨by repeat (first | (with_reducible first | exact HB.out | apply lA_ | apply lN_ | apply l1_ | refine lS_ ?_ GE268.out | refine lS_ ?_ GE269.out) | exact HB.out)⟩⟩
           ·
            rw [if_neg c39] at H
            have c39b0 : (t252 == t262) = false := beq_eq_false_iff_ne.mpr c39
            have c39b1 : (t252 != t262) = true := bne_iff_ne.mpr c39
            have H' := Aside0.mk H
            clear H
            have hnb52 := NB268_269.out
            have hnc52 := NB269_268.out
            have hcz53_0 : w16.cell? ⟨gb268, 0, none⟩ = some (.bool false) := (bC_ BK268.out 0).trans rfl
            have hcz53_1 : w16.cell? ⟨gb268, 1, none⟩ = some (.complex .f64 0 0) := (bC_ BK268.out 1).trans rfl
            have hcz53_2 : w16.cell? ⟨gb268, 2, none⟩ = some (.int .i64 0) := (bC_ BK268.out 2).trans rfl
            have hcz53_3 : w16.cell? ⟨gb268, 3, none⟩ = some (.int .i64 0) := (bC_ BK268.out 3).trans rfl
            have hcz53_4 : w16.cell? ⟨gb268, 4, none⟩ = some (.int .i64 0) := (bC_ BK268.out 4).trans rfl
            have hcz53_5 : w16.cell? ⟨gb268, 5, none⟩ = some (.slice none 0 0) := (bC_ BK268.out 5).trans rfl
            have hcz53_6 : w16.cell? ⟨gb268, 6, none⟩ = some (.int .i64 0) := (bC_ BK268.out 6).trans rfl
            have hfz53_0 := bZ_ BK268.out 0
            have hfz53_1 := bZ_ BK268.out 1
            have hfz53_2 := bZ_ BK268.out 2
            have hfz53_3 := bZ_ BK268.out 3
            have hfz53_4 := bZ_ BK268.out 4
            have hfz53_5 := bZ_ BK268.out 5
            have hfz53_6 := bZ_ BK268.out 6
            have hcz54_0 : w16.cell? ⟨gb269, 0, none⟩ = some (.bool false) := (bC_ BK269.out 0).trans rfl
            have hcz54_1 : w16.cell? ⟨gb269, 1, none⟩ = some (.complex .f64 0 0) := (bC_ BK269.out 1).trans rfl
            have hcz54_2 : w16.cell? ⟨gb269, 2, none⟩ = some (.int .i64 0) := (bC_ BK269.out 2).trans rfl
            have hcz54_3 : w16.cell? ⟨gb269, 3, none⟩ = some (.int .i64 0) := (bC_ BK269.out 3).trans rfl
            have hcz54_4 : w16.cell? ⟨gb269, 4, none⟩ = some (.int .i64 0) := (bC_ BK269.out 4).trans rfl
            have hcz54_5 : w16.cell? ⟨gb269, 5, none⟩ = some (.slice none 0 0) := (bC_ BK269.out 5).trans rfl
            have hcz54_6 : w16.cell? ⟨gb269, 6, none⟩ = some (.int .i64 0) := (bC_ BK269.out 6).trans rfl
            have hfz54_0 := bZ_ BK269.out 0
            have hfz54_1 := bZ_ BK269.out 1
            have hfz54_2 := bZ_ BK269.out 2
            have hfz54_3 := bZ_ BK269.out 3
            have hfz54_4 := bZ_ BK269.out 4
            have hfz54_5 := bZ_ BK269.out 5
            have hfz54_6 := bZ_ BK269.out 6
            go_wp2
            go_meet
            case rel => exact ⟨_, (true), (by first | rfl | (simp; done) | (simp [*]; done)), H', ⟨by have := HK1.out; first | omega | exact Nat.le_refl _⟩, ⟨by (with_reducible repeat (first | apply Kd.R_alloc | apply Kd.R_drewN | apply Kd.R_drew)); exact Kd.R_mono (Kd.R_far (p := ⟨gb269, 6, none⟩) (Kd.R_far (p := ⟨gb269, 5, none⟩) (Kd.R_far (p := ⟨gb269, 4, none⟩) (Kd.R_far (p := ⟨gb269, 3, none⟩) (Kd.R_far (p := ⟨gb269, 2, none⟩) (Kd.R_far (p := ⟨gb269, 1, none⟩) (Kd.R_far (p := ⟨gb269, 0, none⟩) (Kd.R_far (p := ⟨gb268, 6, none⟩) (Kd.R_far (p := ⟨gb268, 5, none⟩) (Kd.R_far (p := ⟨gb268, 4, none⟩) (Kd.R_far (p := ⟨gb268, 3, none⟩) (Kd.R_far (p := ⟨gb268, 2, none⟩) (Kd.R_far (p := ⟨gb268, 1, none⟩) (Kd.R_far (p := ⟨gb268, 0, none⟩) (Kd.R_types (Kd.R_types HO256.out BK268.out (by decide)) BK269.out (by decide)) (fun _ hk => hk.1.2) (.bool t249)) (fun _ hk => hk.1.2) (.complex .f64 t250.re t250.im)) (fun _ hk => hk.1.2) (.int .i64 t251)) (fun _ hk => hk.1.2) (.int .i64 t252)) (fun _ hk => hk.1.2) (.int .i64 t253)) (fun _ hk => hk.1.2) (.slice Ao22 t254.length co22)) (fun _ hk => hk.1.2) (.int .i64 t257)) (fun _ hk => hk.2) (.bool t259)) (fun _ hk => hk.2) (.complex .f64 t260.re t260.im)) (fun _ hk => hk.2) (.int .i64 t261)) (fun _ hk => hk.2) (.int .i64 t262)) (fun _ hk => hk.2) (.int .i64 t263)) (fun _ hk => hk.2) (.slice Ao30 t264.length co30)) (fun _ hk => hk.2) (.int .i64 t267)) (fun _ hk => hk.1.1)⟩, ⟨by (with_reducible repeat (first | apply Kd.R_alloc | apply Kd.R_drewN | apply Kd.R_drew)); exact Kd.R_mono (Kd.R_far (p := ⟨gb269, 6, none⟩) (Kd.R_far (p := ⟨gb269, 5, none⟩) (Kd.R_far (p := ⟨gb269, 4, none⟩) (Kd.R_far (p := ⟨gb269, 3, none⟩) (Kd.R_far (p := ⟨gb269, 2, none⟩) (Kd.R_far (p := ⟨gb269, 1, none⟩) (Kd.R_far (p := ⟨gb269, 0, none⟩) (Kd.R_far (p := ⟨gb268, 6, none⟩) (Kd.R_far (p := ⟨gb268, 5, none⟩) (Kd.R_far (p := ⟨gb268, 4, none⟩) (Kd.R_far (p := ⟨gb268, 3, none⟩) (Kd.R_far (p := ⟨gb268, 2, none⟩) (Kd.R_far (p := ⟨gb268, 1, none⟩) (Kd.R_far (p := ⟨gb268, 0, none⟩) (Kd.R_types (Kd.R_types HO266.out BK268.out (by decide)) BK269.out (by decide)) (fun _ hk => hk.1.2) (.bool t249)) (fun _ hk => hk.1.2) (.complex .f64 t250.re t250.im)) (fun _ hk => hk.1.2) (.int .i64 t251)) (fun _ hk => hk.1.2) (.int .i64 t252)) (fun _ hk => hk.1.2) (.int .i64 t253)) (fun _ hk => hk.1.2) (.slice Ao22 t254.length co22)) (fun _ hk => hk.1.2) (.int .i64 t257)) (fun _ hk => hk.2) (.bool t259)) (fun _ hk => hk.2) (.complex .f64 t260.re t260.im)) (fun _ hk => hk.2) (.int .i64 t261)) (fun _ hk => hk.2) (.int .i64 t262)) (fun _ hk => hk.2) (.int .i64 t263)) (fun _ hk => hk.2) (.slice Ao30 t264.length co30)) (fun _ hk => hk.2) (.int .i64 t267)) (fun _ hk => hk.1.1)⟩, ⟨by (iterate 7 ((with_reducible repeat (first | refine bN_ ?_ _ | refine bD_ ?_ | refine bA_ ?_ _)); refine bF_ ?_ NB268_269.out _)); (with_reducible repeat (first | refine bN_ ?_ _ | refine bD_ ?_ | refine bA_ ?_ _)); refine bP_ (cs := #[.bool t249, .complex .f64 t250.re t250.im, .int .i64 t251, .int .i64 t252, .int .i64 t253, .slice Ao22 t254.length co22, .int .i64 0]) ?_ 6 _ rfl; (with_reducible repeat (first | refine bN_ ?_ _ | refine bD_ ?_ | refine bA_ ?_ _)); refine bP_ (cs := #[.bool t249, .complex .f64 t250.re t250.im, .int .i64 t251, .int .i64 t252, .int .i64 t253, .slice none 0 0, .int .i64 0]) ?_ 5 _ rfl; (with_reducible repeat (first | refine bN_ ?_ _ | refine bD_ ?_ | refine bA_ ?_ _)); refine bP_ (cs := #[.bool t249, .complex .f64 t250.re t250.im, .int .i64 t251, .int .i64 t252, .int .i64 0, .slice none 0 0, .int .i64 0]) ?_ 4 _ rfl; (with_reducible repeat (first | refine bN_ ?_ _ | refine bD_ ?_ | refine bA_ ?_ _)); refine bP_ (cs := #[.bool t249, .complex .f64 t250.re t250.im, .int .i64 t251, .int .i64 0, .int .i64 0, .slice none 0 0, .int .i64 0]) ?_ 3 _ rfl; (with_reducible repeat (first | refine bN_ ?_ _ | refine bD_ ?_ | refine bA_ ?_ _)); refine bP_ (cs := #[.bool t249, .complex .f64 t250.re t250.im, .int .i64 0, .int .i64 0, .int .i64 0, .slice none 0 0, .int .i64 0]) ?_ 2 _ rfl; (with_reducible repeat (first | refine bN_ ?_ _ | refine bD_ ?_ | refine bA_ ?_ _)); refine bP_ (cs := #[.bool t249, .complex .f64 0 0, .int .i64 0, .int .i64 0, .int .i64 0, .slice none 0 0, .int .i64 0]) ?_ 1 _ rfl; (with_reducible repeat (first | refine bN_ ?_ _ | refine bD_ ?_ | refine bA_ ?_ _)); refine bP_ (cs := #[.bool false, .complex .f64 0 0, .int .i64 0, .int .i64 0, .int .i64 0, .slice none 0 0, .int .i64 0]) ?_ 0 _ rfl; (with_reducible repeat (first | refine bN_ ?_ _ | refine bD_ ?_ | refine bA_ ?_ _)); exact BK268.out⟩, ⟨by (with_reducible repeat (first | refine bN_ ?_ _ | refine bD_ ?_ | refine bA_ ?_ _)); refine bP_ (cs := #[.bool t259, .complex .f64 t260.re t260.im, .int .i64 t261, .int .i64 t262, .int .i64 t263, .slice Ao30 t264.length co30, .int .i64 0]) ?_ 6 _ rfl; (with_reducible repeat (first | refine bN_ ?_ _ | refine bD_ ?_ | refine bA_ ?_ _)); refine bP_ (cs := #[.bool t259, .complex .f64 t260.re t260.im, .int .i64 t261, .int .i64 t262, .int .i64 t263, .slice none 0 0, .int .i64 0]) ?_ 5 _ rfl; (with_reducible repeat (first | refine bN_ ?_ _ | refine bD_ ?_ | refine bA_ ?_ _)); refine bP_ (cs := #[.bool t259, .complex .f64 t260.re t260.im, .int .i64 t261, .int .i64 t262, .int .i64 0, .slice none 0 0, .int .i64 0]) ?_ 4 _ rfl; (with_reducible repeat (first | refine bN_ ?_ _ | refine bD_ ?_ | refine bA_ ?_ _)); refine bP_ (cs := #[.bool t259, .complex .f64 t260.re t260.im, .int .i64 t261, .int .i64 0, .int .i64 0, .slice none 0 0, .int .i64 0]) ?_ 3 _ rfl; (with_reducible repeat (first | refine bN_ ?_ _ | refine bD_ ?_ | refine bA_ ?_ _)); refine bP_ (cs := #[.bool t259, .complex .f64 t260.re t260.im, .int .i64 0, .int .i64 0, .int .i64 0, .slice none 0 0, .int .i64 0]) ?_ 2 _ rfl; (with_reducible repeat (first | refine bN_ ?_ _ | refine bD_ ?_ | refine bA_ ?_ _)); refine bP_ (cs := #[.bool t259, .complex .f64 0 0, .int .i64 0, .int .i64 0, .int .i64 0, .slice none 0 0, .int .i64 0]) ?_ 1 _ rfl; (with_reducible repeat (first | refine bN_ ?_ _ | refine bD_ ?_ | refine bA_ ?_ _)); refine bP_ (cs := #[.bool false, .complex .f64 0 0, .int .i64 0, .int .i64 0, .int .i64 0, .slice none 0 0, .int .i64 0]) ?_ 0 _ rfl; (iterate 7 ((with_reducible repeat (first | refine bN_ ?_ _ | refine bD_ ?_ | refine bA_ ?_ _)); refine bF_ ?_ NB269_268.out _)); (with_reducible repeat (first | refine bN_ ?_ _ | refine bD_ ?_ | refine bA_ ?_ _)); exact BK269.out⟩, ⟨by repeat (first | (with_reducible first | exact HB.out | apply lA_ | apply lN_ | apply l1_ | refine lS_ ?_ GE268.out | refine lS_ ?_ GE269.out) | exact HB.out)⟩⟩
          ·
           rw [if_neg c38] at H
           have c38b0 : (t251 == t261) = false := beq_eq_false_iff_ne.mpr c38
           have c38b1 : (t251 != t261) = true := bne_iff_ne.mpr c38
           have H' := Aside0.mk H
           clear H
           have hnb55 := NB268_269.out
           have hnc55 := NB269_268.out
           have hcz56_0 : w16.cell? ⟨gb268, 0, none⟩ = some (.bool false) := (bC_ BK268.out 0).trans rfl
           have hcz56_1 : w16.cell? ⟨gb268, 1, none⟩ = some (.complex .f64 0 0) := (bC_ BK268.out 1).trans rfl
           have hcz56_2 : w16.cell? ⟨gb268, 2, none⟩ = some (.int .i64 0) := (bC_ BK268.out 2).trans rfl
           have hcz56_3 : w16.cell? ⟨gb268, 3, none⟩ = some (.int .i64 0) := (bC_ BK268.out 3).trans rfl
           have hcz56_4 : w16.cell? ⟨gb268, 4, none⟩ = some (.int .i64 0) := (bC_ BK268.out 4).trans rfl
           have hcz56_5 : w16.cell? ⟨gb268, 5, none⟩ = some (.slice none 0 0) := (bC_ BK268.out 5).trans rfl
           have hcz56_6 : w16.cell? ⟨gb268, 6, none⟩ = some (.int .i64 0) := (bC_ BK268.out 6).trans rfl
           have hfz56_0 := bZ_ BK268.out 0
           have hfz56_1 := bZ_ BK268.out 1
           have hfz56_2 := bZ_ BK268.out 2
           have hfz56_3 := bZ_ BK268.out 3
           have hfz56_4 := bZ_ BK268.out 4
           have hfz56_5 := bZ_ BK268.out 5
           have hfz56_6 := bZ_ BK268.out 6
           have hcz57_0 : w16.cell? ⟨gb269, 0, none⟩ = some (.bool false) := (bC_ BK269.out 0).trans rfl
           have hcz57_1 : w16.cell? ⟨gb269, 1, none⟩ = some (.complex .f64 0 0) := (bC_ BK269.out 1).trans rfl
           have hcz57_2 : w16.cell? ⟨gb269, 2, none⟩ = some (.int .i64 0) := (bC_ BK269.out 2).trans rfl
           have hcz57_3 : w16.cell? ⟨gb269, 3, none⟩ = some (.int .i64 0) := (bC_ BK269.out 3).trans rfl
           have hcz57_4 : w16.cell? ⟨gb269, 4, none⟩ = some (.int .i64 0) := (bC_ BK269.out 4).trans rfl
           have hcz57_5 : w16.cell? ⟨gb269, 5, none⟩ = some (.slice none 0 0) := (bC_ BK269.out 5).trans rfl
           have hcz57_6 : w16.cell? ⟨gb269, 6, none⟩ = some (.int .i64 0) := (bC_ BK269.out 6).trans rfl
           have hfz57_0 := bZ_ BK269.out 0
           have hfz57_1 := bZ_ BK269.out 1
           have hfz57_2 := bZ_ BK269.out 2
           have hfz57_3 := bZ_ BK269.out 3
           have hfz57_4 := bZ_ BK269.out 4
           have hfz57_5 := bZ_ BK269.out 5
           have hfz57_6 := bZ_ BK269.out 6
           go_wp2
           go_meet
           case rel => exact ⟨_, (true), (by first | rfl | (simp; done) | (simp [*]; done)), H', ⟨by have := HK1.out; first | omega | exact Nat.le_refl _⟩, ⟨by (with_reducible repeat (first | apply Kd.R_alloc | apply Kd.R_drewN | apply Kd.R_drew)); exact Kd.R_mono (Kd.R_far (p := ⟨gb269, 6, none⟩) (Kd.R_far (p := ⟨gb269, 5, none⟩) (Kd.R_far (p := ⟨gb269, 4, none⟩) (Kd.R_far (p := ⟨gb269, 3, none⟩) (Kd.R_far (p := ⟨gb269, 2, none⟩) (Kd.R_far (p := ⟨gb269, 1, none⟩) (Kd.R_far (p := ⟨gb269, 0, none⟩) (Kd.R_far (p := ⟨gb268, 6, none⟩) (Kd.R_far (p := ⟨gb268, 5, none⟩) (Kd.R_far (p := ⟨gb268, 4, none⟩) (Kd.R_far (p := ⟨gb268, 3, none⟩) (Kd.R_far (p := ⟨gb268, 2, none⟩) (Kd.R_far (p := ⟨gb268, 1, none⟩) (Kd.R_far (p := ⟨gb268, 0, none⟩) (Kd.R_types (Kd.R_types HO256.out BK268.out (by decide)) BK269.out (by decide)) (fun _ hk => hk.1.2) (.bool t249)) (fun _ hk => hk.1.2) (.complex .f64 t250.re t250.im)) (fun _ hk => hk.1.2) (.int .i64 t251)) (fun _ hk => hk.1.2) (.int .i64 t252)) (fun _ hk => hk.1.2) (.int .i64 t253)) (fun _ hk => hk.1.2) (.slice Ao22 t254.length co22)) (fun _ hk => hk.1.2) (.int .i64 t257)) (fun _ hk => hk.2) (.bool t259)) (fun _ hk => hk.2) (.complex .f64 t260.re t260.im)) (fun _ hk => hk.2) (.int .i64 t261)) (fun _ hk => hk.2) (.int .i64 t262)) (fun _ hk => hk.2) (.int .i64 t263)) (fun _ hk => hk.2) (.slice Ao30 t264.length co30)) (fun _ hk => hk.2) (.int .i64 t267)) (fun _ hk => hk.1.1)⟩, ⟨by (with_reducible repeat (first | apply Kd.R_alloc | apply Kd.R_drewN | apply Kd.R_drew)); exact Kd.R_mono (Kd.R_far (p := ⟨gb269, 6, none⟩) (Kd.R_far (p := ⟨gb269, 5, none⟩) (Kd.R_far (p := ⟨gb269, 4, none⟩) (Kd.R_far (p := ⟨gb269, 3, none⟩) (Kd.R_far (p := ⟨gb269, 2, none⟩) (Kd.R_far (p := ⟨gb269, 1, none⟩) (Kd.R_far (p := ⟨gb269, 0, none⟩) (Kd.R_far (p := ⟨gb268, 6, none⟩) (Kd.R_far (p := ⟨gb268, 5, none⟩) (Kd.R_far (p := ⟨gb268, 4, none⟩) (Kd.R_far (p := ⟨gb268, 3, none⟩) (Kd.R_far (p := ⟨gb268, 2, none⟩) (Kd.R_far (p := ⟨gb268, 1, none⟩) (Kd.R_far (p := ⟨gb268, 0, none⟩) (Kd.R_types (Kd.R_types HO266.out BK268.out (by decide)) BK269.out (by decide)) (fun _ hk => hk.1.2) (.bool t249)) (fun _ hk => hk.1.2) (.complex .f64 t250.re t250.im)) (fun _ hk => hk.1.2) (.int .i64 t251)) (fun _ hk => hk.1.2) (.int .i64 t252)) (fun _ hk => hk.1.2) (.int .i64 t253)) (fun _ hk => hk.1.2) (.slice Ao22 t254.length co22)) (fun _ hk => hk.1.2) (.int .i64 t257)) (fun _ hk => hk.2) (.bool t259)) (fun _ hk => hk.2) (.complex .f64 t260.re t260.im)) (fun _ hk => hk.2) (.int .i64 t261)) (fun _ hk => hk.2) (.int .i64 t262)) (fun _ hk => hk.2) (.int .i64 t263)) (fun _ hk => hk.2) (.slice Ao30 t264.length co30)) (fun _ hk => hk.2) (.int .i64 t267)) (fun _ hk => hk.1.1)⟩, ⟨by (iterate 7 ((with_reducible repeat (first | refine bN_ ?_ _ | refine bD_ ?_ | refine bA_ ?_ _)); refine bF_ ?_ NB268_269.out _)); (with_reducible repeat (first | refine bN_ ?_ _ | refine bD_ ?_ | refine bA_ ?_ _)); refine bP_ (cs := #[.bool t249, .complex .f64 t250.re t250.im, .int .i64 t251, .int .i64 t252, .int .i64 t253, .slice Ao22 t254.length co22, .int .i64 0]) ?_ 6 _ rfl; (with_reducible repeat (first | refine bN_ ?_ _ | refine bD_ ?_ | refine bA_ ?_ _)); refine bP_ (cs := #[.bool t249, .complex .f64 t250.re t250.im, .int .i64 t251, .int .i64 t252, .int .i64 t253, .slice none 0 0, .int .i64 0]) ?_ 5 _ rfl; (with_reducible repeat (first | refine bN_ ?_ _ | refine bD_ ?_ | refine bA_ ?_ _)); refine bP_ (cs := #[.bool t249, .complex .f64 t250.re t250.im, .int .i64 t251, .int .i64 t252, .int .i64 0, .slice none 0 0, .int .i64 0]) ?_ 4 _ rfl; (with_reducible repeat (first | refine bN_ ?_ _ | refine bD_ ?_ | refine bA_ ?_ _)); refine bP_ (cs := #[.bool t249, .complex .f64 t250.re t250.im, .int .i64 t251, .int .i64 0, .int .i64 0, .slice none 0 0, .int .i64 0]) ?_ 3 _ rfl; (with_reducible repeat (first | refine bN_ ?_ _ | refine bD_ ?_ | refine bA_ ?_ _)); refine bP_ (cs := #[.bool t249, .complex .f64 t250.re t250.im, .int .i64 0, .int .i64 0, .int .i64 0, .slice none 0 0, .int .i64 0]) ?_ 2 _ rfl; (with_reducible repeat (first | refine bN_ ?_ _ | refine bD_ ?_ | refine bA_ ?_ _)); refine bP_ (cs := #[.bool t249, .complex .f64 0 0, .int .i64 0, .int .i64 0, .int .i64 0, .slice none 0 0, .int .i64 0]) ?_ 1 _ rfl; (with_reducible repeat (first | refine bN_ ?_ _ | refine bD_ ?_ | refine bA_ ?_ _)); refine bP_ (cs := #[.bool false, .complex .f64 0 0, .int .i64 0, .int .i64 0, .int .i64 0, .slice none 0 0, .int .i64 0]) ?_ 0 _ rfl; (with_reducible repeat (first | refine bN_ ?_ _ | refine bD_ ?_ | refine bA_ ?_ _)); exact BK268.out⟩, ⟨by (with_reducible repeat (first | refine bN_ ?_ _ | refine bD_ ?_ | refine bA_ ?_ _)); refine bP_ (cs := #[.bool t259, .complex .f64 t260.re t260.im, .int .i64 t261, .int .i64 t262, .int .i64 t263, .slice Ao30 t264.length co30, .int .i64 0]) ?_ 6 _ rfl; (with_reducible repeat (first | refine bN_ ?_ _ | refine bD_ ?_ | refine bA_ ?_ _)); refine bP_ (cs := #[.bool t259, .complex .f64 t260.re t260.im, .int .i64 t261, .int .i64 t262, .int .i64 t263, .slice none 0 0, .int .i64 0]) ?_ 5 _ rfl; (with_reducible repeat (first | refine bN_ ?_ _ | refine bD_ ?_ | refine bA_ ?_ _)); refine bP_ (cs := #[.bool t259, .complex .f64 t260.re t260.im, .int .i64 t261, .int .i64 t262, .int .i64 0, .slice none 0 0, .int .i64 0]) ?_ 4 _ rfl; (with_reducible repeat (first | refine bN_ ?_ _ | refine bD_ ?_ | refine bA_ ?_ _)); refine bP_ (cs := #[.bool t259, .complex .f64 t260.re t260.im, .int .i64 t261, .int .i64 0, .int .i64 0, .slice none 0 0, .int .i64 0]) ?_ 3 _ rfl; (with_reducible repeat (first | refine bN_ ?_ _ | refine bD_ ?_ | refine bA_ ?_ _)); refine bP_ (cs := #[.bool t259, .complex .f64 t260.re t260.im, .int .i64 0, .int .i64 0, .int .i64 0, .slice none 0 0, .int .i64 0]) ?_ 2 _ rfl; (with_reducible repeat (first | refine bN_ ?_ _ | refine bD_ ?_ | refine bA_ ?_ _)); refine bP_ (cs := #[.bool t259, .complex .f64 0 0, .int .i64 0, .int .i64 0, .int .i64 0, .slice none 0 0, .int .i64 0]) ?_ 1 _ rfl; (with_reducible repeat (first | refine bN_ ?_ _ | refine bD_ ?_ | refine bA_ ?_ _)); refine bP_ (cs := #[.bool false, .complex .f64 0 0, .int .i64 0, .int .i64 0, .int .i64 0, .slice none 0 0, .int .i64 0]) ?_ 0 _ rfl; (iterate 7 ((with_reducible repeat (first | refine bN_ ?_ _ | refine bD_ ?_ | refine bA_ ?_ _)); refine bF_ ?_ NB269_268.out _)); (with_reducible repeat (first | refine bN_ ?_ _ | refine bD_ ?_ | refine bA_ ?_ _)); exact BK269.out⟩, ⟨by repeat (first | (with_reducible first | exact HB.out | apply lA_ | apply lN_ | apply l1_ | refine lS_ ?_ GE268.out | refine lS_ ?_ GE269.out) | exact HB.out)⟩⟩
         ·
          rw [if_neg c37] at H
          have c37b0 : ceq t250.re t250.im t260.re t260.im = false := Bool.eq_false_iff.mpr c37
          clear c37
          have H' := Aside0.mk H
          clear H
          have hnb58 := NB268_269.out
          have hnc58 := NB269_268.out
          have hcz59_0 : w16.cell? ⟨gb268, 0, none⟩ = some (.bool false) := (bC_ BK268.out 0).trans rfl
          have hcz59_1 : w16.cell? ⟨gb268, 1, none⟩ = some (.complex .f64 0 0) := (bC_ BK268.out 1).trans rfl
          have hcz59_2 : w16.cell? ⟨gb268, 2, none⟩ = some (.int .i64 0) := (bC_ BK268.out 2).trans rfl
          have hcz59_3 : w16.cell? ⟨gb268, 3, none⟩ = some (.int .i64 0) := (bC_ BK268.out 3).trans rfl
          have hcz59_4 : w16.cell? ⟨gb268, 4, none⟩ = some (.int .i64 0) := (bC_ BK268.out 4).trans rfl
          have hcz59_5 : w16.cell? ⟨gb268, 5, none⟩ = some (.slice none 0 0) := (bC_ BK268.out 5).trans rfl
          have hcz59_6 : w16.cell? ⟨gb268, 6, none⟩ = some (.int .i64 0) := (bC_ BK268.out 6).trans rfl
          have hfz59_0 := bZ_ BK268.out 0
          have hfz59_1 := bZ_ BK268.out 1
          have hfz59_2 := bZ_ BK268.out 2
          have hfz59_3 := bZ_ BK268.out 3
          have hfz59_4 := bZ_ BK268.out 4
          have hfz59_5 := bZ_ BK268.out 5
          have hfz59_6 := bZ_ BK268.out 6
          have hcz60_0 : w16.cell? ⟨gb269, 0, none⟩ = some (.bool false) := (bC_ BK269.out 0).trans rfl
          have hcz60_1 : w16.cell? ⟨gb269, 1, none⟩ = some (.complex .f64 0 0) := (bC_ BK269.out 1).trans rfl
          have hcz60_2 : w16.cell? ⟨gb269, 2, none⟩ = some (.int .i64 0) := (bC_ BK269.out 2).trans rfl
          have hcz60_3 : w16.cell? ⟨gb269, 3, none⟩ = some (.int .i64 0) := (bC_ BK269.out 3).trans rfl
          have hcz60_4 : w16.cell? ⟨gb269, 4, none⟩ = some (.int .i64 0) := (bC_ BK269.out 4).trans rfl
          have hcz60_5 : w16.cell? ⟨gb269, 5, none⟩ = some (.slice none 0 0) := (bC_ BK269.out 5).trans rfl
          have hcz60_6 : w16.cell? ⟨gb269, 6, none⟩ = some (.int .i64 0) := (bC_ BK269.out 6).trans rfl
          have hfz60_0 := bZ_ BK269.out 0
          have hfz60_1 := bZ_ BK269.out 1
          have hfz60_2 := bZ_ BK269.out 2
          have hfz60_3 := bZ_ BK269.out 3
          have hfz60_4 := bZ_ BK269.out 4
          have hfz60_5 := bZ_ BK269.out 5
          have hfz60_6 := bZ_ BK269.out 6
          go_wp2
          go_meet
          case rel => exact ⟨_, (true), (by first | rfl | (simp; done) | (simp [*]; done)), H', ⟨by have := HK1.out; first | omega | exact Nat.le_refl _⟩, ⟨by (with_reducible repeat (first | apply Kd.R_alloc | apply Kd.R_drewN | apply Kd.R_drew)); exact Kd.R_mono (Kd.R_far (p := ⟨gb269, 6, none⟩) (Kd.R_far (p := ⟨gb269, 5, none⟩) (Kd.R_far (p := ⟨gb269, 4, none⟩) (Kd.R_far (p := ⟨gb269, 3, none⟩) (Kd.R_far (p := ⟨gb269, 2, none⟩) (Kd.R_far (p := ⟨gb269, 1, none⟩) (Kd.R_far (p := ⟨gb269, 0, none⟩) (Kd.R_far (p := ⟨gb268, 6, none⟩) (Kd.R_far (p := ⟨gb268, 5, none⟩) (Kd.R_far (p := ⟨gb268, 4, none⟩) (Kd.R_far (p := ⟨gb268, 3, none⟩) (Kd.R_far (p := ⟨gb268, 2, none⟩) (Kd.R_far (p := ⟨gb268, 1, none⟩) (Kd.R_far (p := ⟨gb268, 0, none⟩) (Kd.R_types (Kd.R_types HO256.out BK268.out (by decide)) BK269.out (by decide)) (fun _ hk => hk.1.2) (.bool t249)) (fun _ hk => hk.1.2) (.complex .f64 t250.re t250.im)) (fun _ hk => hk.1.2) (.int .i64 t251)) (fun _ hk => hk.1.2) (.int .i64 t252)) (fun _ hk => hk.1.2) (.int .i64 t253)) (fun _ hk => hk.1.2) (.slice Ao22 t254.length co22)) (fun _ hk => hk.1.2) (.int .i64 t257)) (fun _ hk => hk.2) (.bool t259)) (fun _ hk => hk.2) (.complex .f64 t260.re t260.im)) (fun _ hk => hk.2) (.int .i64 t261)) (fun _ hk => hk.2) (.int .i64 t262)) (fun _ hk => hk.2) (.int .i64 t263)) (fun _ hk => hk.2) (.slice Ao30 t264.length co30)) (fun _ hk => hk.2) (.int .i64 t267)) (fun _ hk => hk.1.1)⟩, ⟨by (with_reducible repeat (first | apply Kd.R_alloc | apply Kd.R_drewN | apply Kd.R_drew)); exact Kd.R_mono (Kd.R_far (p := ⟨gb269, 6, none⟩) (Kd.R_far (p := ⟨gb269, 5, none⟩) (Kd.R_far (p := ⟨gb269, 4, none⟩) (Kd.R_far (p := ⟨gb269, 3, none⟩) (Kd.R_far (p := ⟨gb269, 2, none⟩) (Kd.R_far (p := ⟨gb269, 1, none⟩) (Kd.R_far (p := ⟨gb269, 0, none⟩) (Kd.R_far (p := ⟨gb268, 6, none⟩) (Kd.R_far (p := ⟨gb268, 5, none⟩) (Kd.R_far (p := ⟨gb268, 4, none⟩) (Kd.R_far (p := ⟨gb268, 3, none⟩) (Kd.R_far (p := ⟨gb268, 2, none⟩) (Kd.R_far (p := ⟨gb268, 1, none⟩) (Kd.R_far (p := ⟨gb268, 0, none⟩) (Kd.R_types (Kd.R_types HO266.out BK268.out (by decide)) BK269.out (by decide)) (fun _ hk => hk.1.2) (.bool t249)) (fun _ hk => hk.1.2) (.complex .f64 t250.re t250.im)) (fun _ hk => hk.1.2) (.int .i64 t251)) (fun _ hk => hk.1.2) (.int .i64 t252)) (fun _ hk => hk.1.2) (.int .i64 t253)) (fun _ hk => hk.1.2) (.slice Ao22 t254.length co22)) (fun _ hk => hk.1.2) (.int .i64 t257)) (fun _ hk => hk.2) (.bool t259)) (fun _ hk => hk.2) (.complex .f64 t260.re t260.im)) (fun _ hk => hk.2) (.int .i64 t261)) (fun _ hk => hk.2) (.int .i64 t262)) (fun _ hk => hk.2) (.int .i64 t263)) (fun _ hk => hk.2) (.slice Ao30 t264.length co30)) (fun _ hk => hk.2) (.int .i64 t267)) (fun _ hk => hk.1.1)⟩, ⟨by (iterate 7 ((with_reducible repeat (first | refine bN_ ?_ _ | refine bD_ ?_ | refine bA_ ?_ _)); refine bF_ ?_ NB268_269.out _)); (with_reducible repeat (first | refine bN_ ?_ _ | refine bD_ ?_ | refine bA_ ?_ _)); refine bP_ (cs := #[.bool t249, .complex .f64 t250.re t250.im, .int .i64 t251, .int .i64 t252, .int .i64 t253, .slice Ao22 t254.length co22, .int .i64 0]) ?_ 6 _ rfl; (with_reducible repeat (first | refine bN_ ?_ _ | refine bD_ ?_ | refine bA_ ?_ _)); refine bP_ (cs := #[.bool t249, .complex .f64 t250.re t250.im, .int .i64 t251, .int .i64 t252, .int .i64 t253, .slice none 0 0, .int .i64 0]) ?_ 5 _ rfl; (with_reducible repeat (first | refine bN_ ?_ _ | refine bD_ ?_ | refine bA_ ?_ _)); refine bP_ (cs := #[.bool t249, .complex .f64 t250.re t250.im, .int .i64 t251, .int .i64 t252, .int .i64 0, .slice none 0 0, .int .i64 0]) ?_ 4 _ rfl; (with_reducible repeat (first | refine bN_ ?_ _ | refine bD_ ?_ | refine bA_ ?_ _)); refine bP_ (cs := #[.bool t249, .complex .f64 t250.re t250.im, .int .i64 t251, .int .i64 0, .int .i64 0, .slice none 0 0, .int .i64 0]) ?_ 3 _ rfl; (with_reducible repeat (first | refine bN_ ?_ _ | refine bD_ ?_ | refine bA_ ?_ _)); refine bP_ (cs := #[.bool t249, .complex .f64 t250.re t250.im, .int .i64 0, .int .i64 0, .int .i64 0, .slice none 0 0, .int .i64 0]) ?_ 2 _ rfl; (with_reducible repeat (first | refine bN_ ?_ _ | refine bD_ ?_ | refine bA_ ?_ _)); refine bP_ (cs := #[.bool t249, .complex .f64 0 0, .int .i64 0, .int .i64 0, .int .i64 0, .slice none 0 0, .int .i64 0]) ?_ 1 _ rfl; (with_reducible repeat (first | refine bN_ ?_ _ | refine bD_ ?_ | refine bA_ ?_ _)); refine bP_ (cs := #[.bool false, .complex .f64 0 0, .int .i64 0, .int .i64 0, .int .i64 0, .slice none 0 0, .int .i64 0]) ?_ 0 _ rfl; (with_reducible repeat (first | refine bN_ ?_ _ | refine bD_ ?_ | refine bA_ ?_ _)); exact BK268.out⟩, ⟨by (with_reducible repeat (first | refine bN_ ?_ _ | refine bD_ ?_ | refine bA_ ?_ _)); refine bP_ (cs := #[.bool t259, .complex .f64 t260.re t260.im, .int .i64 t261, .int .i64 t262, .int .i64 t263, .slice Ao30 t264.length co30, .int .i64 0]) ?_ 6 _ rfl; (with_reducible repeat (first | refine bN_ ?_ _ | refine bD_ ?_ | refine bA_ ?_ _)); refine bP_ (cs := #[.bool t259, .complex .f64 t260.re t260.im, .int .i64 t261, .int .i64 t262, .int .i64 t263, .slice none 0 0, .int .i64 0]) ?_ 5 _ rfl; (with_reducible repeat (first | refine bN_ ?_ _ | refine bD_ ?_ | refine bA_ ?_ _)); refine bP_ (cs := #[.bool t259, .complex .f64 t260.re t260.im, .int .i64 t261, .int .i64 t262, .int .i64 0, .slice none 0 0, .int .i64 0]) ?_ 4 _ rfl; (with_reducible repeat (first | refine bN_ ?_ _ | refine bD_ ?_ | refine bA_ ?_ _)); refine bP_ (cs := #[.bool t259, .complex .f64 t260.re t260.im, .int .i64 t261, .int .i64 0, .int .i64 0, .slice none 0 0, .int .i64 0]) ?_ 3 _ rfl; (with_reducible repeat (first | refine bN_ ?_ _ | refine bD_ ?_ | refine bA_ ?_ _)); refine bP_ (cs := #[.bool t259, .complex .f64 t260.re t260.im, .int .i64 0, .int .i64 0, .int .i64 0, .slice none 0 0, .int .i64 0]) ?_ 2 _ rfl; (with_reducible repeat (first | refine bN_ ?_ _ | refine bD_ ?_ | refine bA_ ?_ _)); refine bP_ (cs := #[.bool t259, .complex .f64 0 0, .int .i64 0, .int .i64 0, .int .i64 0, .slice none 0 0, .int .i64 0]) ?_ 1 _ rfl; (with_reducible repeat (first | refine bN_ ?_ _ | refine bD_ ?_ | refine bA_ ?_ _)); refine bP_ (cs := #[.bool false, .complex .f64 0 0, .int .i64 0, .int .i64 0, .int .i64 0, .slice none 0 0, .int .i64 0]) ?_ 0 _ rfl; (iterate 7 ((with_reducible repeat (first | refine bN_ ?_ _ | refine bD_ ?_ | refine bA_ ?_ _)); refine bF_ ?_ NB269_268.out _)); (with_reducible repeat (first | refine bN_ ?_ _ | refine bD_ ?_ | refine bA_ ?_ _)); exact BK269.out⟩, ⟨by repeat (first | (with_reducible first | exact HB.out | apply lA_ | apply lN_ | apply l1_ | refine lS_ ?_ GE268.out | refine lS_ ?_ GE269.out) | exact HB.out)⟩⟩
       case rest =>
        clear HC10
        (try clear c1); (try clear c2); (try clear p2); (try clear c3); (try clear c4); (try clear c5); (try clear c12); (try clear c24); (try clear c33); (try clear c33b0); (try clear c34); (try clear c37); (try clear c37b0); (try clear c38); (try clear c38b0); (try clear c38b1); (try clear c39); (try clear c39b0); (try clear c39b1); (try clear c40); (try clear c40b0); (try clear c40b1); (try clear c41); (try clear c41b0); (try clear c41b1); (try clear c43); (try clear c46); (try clear c49); (try clear c52); (try clear c55); (try clear c58); (try clear hcz35_0); (try clear hcz35_1); (try clear hcz35_2); (try clear hcz35_3); (try clear hcz35_4); (try clear hcz35_5); (try clear hcz35_6); (try clear hcz36_0); (try clear hcz36_1); (try clear hcz36_2); (try clear hcz36_3); (try clear hcz36_4); (try clear hcz36_5); (try clear hcz36_6); (try clear hcz44_0); (try clear hcz44_1); (try clear hcz44_2); (try clear hcz44_3); (try clear hcz44_4); (try clear hcz44_5); (try clear hcz44_6); (try clear hcz45_0); (try clear hcz45_1); (try clear hcz45_2); (try clear hcz45_3); (try clear hcz45_4); (try clear hcz45_5); (try clear hcz45_6); (try clear hcz47_0); (try clear hcz47_1); (try clear hcz47_2); (try clear hcz47_3); (try clear hcz47_4); (try clear hcz47_5); (try clear hcz47_6); (try clear hcz48_0); (try clear hcz48_1); (try clear hcz48_2); (try clear hcz48_3); (try clear hcz48_4); (try clear hcz48_5); (try clear hcz48_6); (try clear hcz50_0); (try clear hcz50_1); (try clear hcz50_2); (try clear hcz50_3); (try clear hcz50_4); (try clear hcz50_5); (try clear hcz50_6); (try clear hcz51_0); (try clear hcz51_1); (try clear hcz51_2); (try clear hcz51_3); (try clear hcz51_4); (try clear hcz51_5); (try clear hcz51_6); (try clear hcz53_0); (try clear hcz53_1); (try clear hcz53_2); (try clear hcz53_3); (try clear hcz53_4); (try clear hcz53_5); (try clear hcz53_6); (try clear hcz54_0); (try clear hcz54_1); (try clear hcz54_2); (try clear hcz54_3); (try clear hcz54_4); (try clear hcz54_5); (try clear hcz54_6); (try clear hcz56_0); (try clear hcz56_1); (try clear hcz56_2); (try clear hcz56_3); (try clear hcz56_4); (try clear hcz56_5); (try clear hcz56_6); (try clear hcz57_0); (try clear hcz57_1); (try clear hcz57_2); (try clear hcz57_3); (try clear hcz57_4); (try clear hcz57_5); (try clear hcz57_6); (try clear hcz59_0); (try clear hcz59_1); (try clear hcz59_2); (try clear hcz59_3); (try clear hcz59_4); (try clear hcz59_5); (try clear hcz59_6); (try clear hcz60_0); (try clear hcz60_1); (try clear hcz60_2); (try clear hcz60_3); (try clear hcz60_4); (try clear hcz60_5); (try clear hcz60_6); (try clear hfz35_0); (try clear hfz35_1); (try clear hfz35_2); (try clear hfz35_3); (try clear hfz35_4); (try clear hfz35_5); (try clear hfz35_6); (try clear hfz36_0); (try clear hfz36_1); (try clear hfz36_2); (try clear hfz36_3); (try clear hfz36_4); (try clear hfz36_5); (try clear hfz36_6); (try clear hfz44_0); (try clear hfz44_1); (try clear hfz44_2); (try clear hfz44_3); (try clear hfz44_4); (try clear hfz44_5); (try clear hfz44_6); (try clear hfz45_0); (try clear hfz45_1); (try clear hfz45_2); (try clear hfz45_3); (try clear hfz45_4); (try clear hfz45_5); (try clear hfz45_6); (try clear hfz47_0); (try clear hfz47_1); (try clear hfz47_2); (try clear hfz47_3); (try clear hfz47_4); (try clear hfz47_5); (try clear hfz47_6); (try clear hfz48_0); (try clear hfz48_1); (try clear hfz48_2); (try clear hfz48_3); (try clear hfz48_4); (try clear hfz48_5); (try clear hfz48_6); (try clear hfz50_0); (try clear hfz50_1); (try clear hfz50_2); (try clear hfz50_3); (try clear hfz50_4); (try clear hfz50_5); (try clear hfz50_6); (try clear hfz51_0); (try clear hfz51_1); (try clear hfz51_2); (try clear hfz51_3); (try clear hfz51_4); (try clear hfz51_5); (try clear hfz51_6); (try clear hfz53_0); (try clear hfz53_1); (try clear hfz53_2); (try clear hfz53_3); (try clear hfz53_4); (try clear hfz53_5); (try clear hfz53_6); (try clear hfz54_0); (try clear hfz54_1); (try clear hfz54_2); (try clear hfz54_3); (try clear hfz54_4); (try clear hfz54_5); (try clear hfz54_6); (try clear hfz56_0); (try clear hfz56_1); (try clear hfz56_2); (try clear hfz56_3); (try clear hfz56_4); (try clear hfz56_5); (try clear hfz56_6); (try clear hfz57_0); (try clear hfz57_1); (try clear hfz57_2); (try clear hfz57_3); (try clear hfz57_4); (try clear hfz57_5); (try clear hfz57_6); (try clear hfz59_0); (try clear hfz59_1); (try clear hfz59_2); (try clear hfz59_3); (try clear hfz59_4); (try clear hfz59_5); (try clear hfz59_6); (try clear hfz60_0); (try clear hfz60_1); (try clear hfz60_2); (try clear hfz60_3); (try clear hfz60_4); (try clear hfz60_5); (try clear hfz60_6)
        obtain ⟨kq, x70_9, rfl, HA, HJ9, HO_269005, HO_270005, BK268, BK269, HB⟩ := hcut
        cases kq with
        | zero => exact absurd HA.out (by simp [pylonlaw12_MeterAll.j1])
        | succ kj9 =>
         have H := HA.out
         clear HA
         simp only [pylonlaw12_MeterAll.j1] at H
         by_cases c61 : x70_9 = true
         ·
          subst c61
          have H1 : (some false) = some r := by rw [if_pos rfl] at H; exact H
          clear H
          have H := H1
          clear H1
          obtain rfl := Option.some.inj H
          go_wp2
          go_ret
          exact ⟨by first | rfl | (simp [errW_none, errW_some] <;> rfl) | (simp [*, errW_none, errW_some] <;> rfl), by repeat (first | (with_reducible first | exact HB.out | apply lA_ | apply lN_ | apply l1_ | refine lS_ ?_ GE268.out | refine lS_ ?_ GE269.out) | exact HB.out)⟩
         ·
          replace c61 := Bool.eq_false_iff.mpr c61
          subst c61
          have H1 : (pylonlaw12_MeterAll.l0 kj9 l0 (l0.length : Int) (wrap64 (x10_1 + 1))) = some r := by rw [if_neg (show ¬ (false = true) by decide)] at H; exact H
          clear H
          have H := H1
          clear H1
          have H' := Aside0.mk H
          clear H
          go_wp2
          go_roundg kj9
          case measure => have := HK1.out; have := HJ9.out; omega
          case rel => exact ⟨(wrap64 (x10_1 + 1)), (by first | rfl | (simp; done) | (simp [*]; done)), H', ⟨by have := HK1.out; have := HJ9.out; omega⟩, ⟨by repeat (first | (with_reducible first | exact HB.out | apply lA_ | apply lN_ | apply l1_ | refine lS_ ?_ GE268.out | refine lS_ ?_ GE269.out) | exact HB.out)⟩⟩
      ·
       rw [if_neg c7] at H
       exact absurd H (by simp)
     ·
      rw [if_neg c6] at H
      exact absurd H (by simp)
    ·
     rw [if_neg c5] at H
     have c5b0 : decide (x10_1 < (l0.length : Int)) = false := decide_eq_false c5
     clear c5
     obtain rfl := Option.some.inj H
     go_wp2
     go_ret
     exact ⟨by first | rfl | (simp [errW_none, errW_some] <;> rfl) | (simp [*, errW_none, errW_some] <;> rfl), by repeat (first | (with_reducible first | exact HB.out | apply lA_ | apply lN_ | apply l1_) | exact HB.out)⟩
 ·
  replace c3 := Bool.eq_false_iff.mpr c3
  subst c3
  have H1 : (some false) = some r := by rw [if_neg (show ¬ (false = true) by decide)] at H; exact H
  clear H
  have H := H1
  clear H1
  obtain rfl := Option.some.inj H
  go_enter Try.func10, Try.ntmps10
  go_wp2_with (first | ((with_reducible refine gate_callee (f := 20) rfl ?_); refine goesL_ (some 6) rfl rfl Try.func20 (by kernel_rfl) rfl #[] rfl (by (try simp only [List.map_toArray, List.map_cons, List.map_nil]); first | done | rfl | (simp only [List.length_drop, List.length_take]; rfl)) ?_; (with_reducible refine (pylonlaw12_awake.calls k  false _ A2.out).mono ?_); rintro e w62 ⟨rfl, hb⟩; refine ⟨_, rfl, ?_⟩; have n0_ := Aside0.mk (below_step (by repeat (first | (with_reducible first | exact HB.out | apply lA_ | apply lN_ | apply l1_) | exact HB.out)) hb); clear HB; have HB := n0_; clear n0_; (try clear hb); (try clear hb2); (try clear hk); (try clear hi)))
  go_ret
  exact ⟨by first | rfl | (simp [errW_none, errW_some] <;> rfl) | (simp [*, errW_none, errW_some] <;> rfl), by repeat (first | (with_reducible first | exact HB.out | apply lA_ | apply lN_ | apply l1_) | exact HB.out)⟩
/-- THE ONE PURE STATEMENT of pylonlaw12_MeterAll. -/
def pylonlaw12_MeterAll.Pure : Prop := ∀ (l0 : List (S73)), (l0.length * 128 ≤ 140737488351232 ∧ ∀ y_ ∈ l0, okS73 y_) → ∃ k, pylonlaw12_MeterAll.f k l0 = some true

end Go.Proofs.Ytapimggcnneabaa.PMA
