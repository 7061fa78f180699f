-- Written by a program of this session for this claim (wip/print2.sh). Lean checks it.
import Derived.Test.YtofedlghaopciaaGreatDoorPAx0
import Derived.Test.YtofedlghaopciaaGreatDoorPAx11
namespace Go.Proofs.YtofedlghaopciaaGreatDoor.PA
open Go.Proofs.YtofedlghaopciaaGreatDoorW.PrintWords
attribute [local go_sem high] fx_eql fx_neq fx_lss fx_leq fx_gtr fx_geq fx_add fx_sub fx_mul fx_neg fx_toint cxx_add cxx_sub cxx_mul cxx_eql cxx_neq cxx_pick st_float st_complex
open Go.RowKit Go.Proofs.YtofedlghaopciaaGreatDoorW.PrintWords Go.Proofs.YtofedlghaopciaaGreatDoorW.PrintLast Go.Proofs.YtofedlghaopciaaGreatDoorW.PrintMore
attribute [local go_sem] max2_int min2_int max_two min_two max_three min_three max_four min_four   -- for this text's walks alone
set_option linter.unusedVariables false
set_option linter.unusedSimpArgs false

/-! ### pylonref02_Turn: function 28 -/
def pylonref02_Turn.f (a0 : Cx) (a1 : Int) : Option (Cx × Int) := (pylonref02_Fits.f a0).bind fun bt339 => (if bt339.2.2 = true then ((pylonref02_power.f a1).bind fun bt343 => ((pylonref02_times.f bt339.1 bt339.2.1 bt343.1 bt343.2).bind fun bt345 => ((pylonref02_Made.f bt345.1 bt345.2).bind fun t347 => (some (t347, 0))))) else (some (cx 0 0, 5)))
set_option maxHeartbeats 8000000 in
set_option maxRecDepth 100000 in
theorem pylonref02_Turn.calls (a0 : Cx) (a1 : Int) (r1 : Cx) (r2 : Int) (w : World) (h : pylonref02_Turn.f a0 a1 = some (r1, r2)) :
  Calls Tryz.prog 28 #[.complex .f64 a0.re a0.im, .int .i64 a1] w fun e w' => e = .returned (.tuple #[.complex .f64 r1.re r1.im, .int .i64 r2]) ∧ Below w.heap.size w w' := by
 have hu59 := Tryz.underlying59
 have HB := Aside0.mk (Below.refl w.heap.size w)
 have H : ((pylonref02_Fits.f a0).bind fun bt339 => (if bt339.2.2 = true then ((pylonref02_power.f a1).bind fun bt343 => ((pylonref02_times.f bt339.1 bt339.2.1 bt343.1 bt343.2).bind fun bt345 => ((pylonref02_Made.f bt345.1 bt345.2).bind fun t347 => (some (t347, 0))))) else (some (cx 0 0, 5)))) = some (r1, r2) := h
 clear h
 replace H := Option.bind_eq_some_iff.mp H
 obtain ⟨⟨t339, t340, t341⟩, A30, H⟩ := H
 replace H : (if t341 = true then ((pylonref02_power.f a1).bind fun bt343 => ((pylonref02_times.f t339 t340 bt343.1 bt343.2).bind fun bt345 => ((pylonref02_Made.f bt345.1 bt345.2).bind fun t347 => (some (t347, 0))))) else (some (cx 0 0, 5))) = some (r1, r2) := H
 have A3 := Aside0.mk A30
 clear A30
 by_cases c4 : t341 = true
 ·
  subst c4
  have H1 : ((pylonref02_power.f a1).bind fun bt343 => ((pylonref02_times.f t339 t340 bt343.1 bt343.2).bind fun bt345 => ((pylonref02_Made.f bt345.1 bt345.2).bind fun t347 => (some (t347, 0))))) = some (r1, r2) := by rw [if_pos rfl] at H; exact H
  clear H
  have H := H1
  clear H1
  replace H := Option.bind_eq_some_iff.mp H
  obtain ⟨⟨t343, t344⟩, A50, H⟩ := H
  replace H : ((pylonref02_times.f t339 t340 t343 t344).bind fun bt345 => ((pylonref02_Made.f bt345.1 bt345.2).bind fun t347 => (some (t347, 0)))) = some (r1, r2) := H
  have A5 := Aside0.mk A50
  clear A50
  replace H := Option.bind_eq_some_iff.mp H
  obtain ⟨⟨t345, t346⟩, A60, H⟩ := H
  replace H : ((pylonref02_Made.f t345 t346).bind fun t347 => (some (t347, 0))) = some (r1, r2) := H
  have A6 := Aside0.mk A60
  clear A60
  replace H := Option.bind_eq_some_iff.mp H
  obtain ⟨t347, A70, H⟩ := H
  replace H : (some (t347, 0)) = some (r1, r2) := H
  have A7 := Aside0.mk A70
  clear A70
  simp only [Option.some.injEq, Prod.mk.injEq] at H
  obtain ⟨rfl, rfl⟩ := H
  go_enter Tryz.func28, Tryz.ntmps28
  try go_wp2_with (first | ((with_reducible refine gate_callee (f := 23) rfl ?_); refine gL_ (some 10) Tryz.func23 #[.complex .f64 a0.re a0.im] ?_; (with_reducible refine (pylonref02_Fits.calls a0 t339 t340 true _ A3.out).mono ?_); rintro e w8 ⟨rfl, hb⟩; refine ⟨_, rfl, ?_⟩; replace HB := Aside0.mk (bst_ hb); (try clear hb); (try clear hb2); (try clear hk); (try clear hi)) | ((with_reducible refine gate_dst (N := 6) rfl ?_); refine box_event ?hg (N := 6) ?hd (cs := #[.int .i64 0, .int .i64 0]) (t := 59) ?hr ?_; (case hd => rfl); (case hg => rfl); (case hr => first | (go_simp; done) | (go_simp; rfl)); intro gb342 hg w9 hbox hb; have BK342 := Aside0.mk (hbox); have GW342 := Aside0.mk ((ge_ hg : w.heap.size ≤ gb342)); have GE342 := Aside0.mk ((ge_ hg : w.heap.size ≤ gb342)); replace HB := Aside0.mk (bst_ hb); clear hb hbox hg; have hcz10_0 : w9.cell? ⟨gb342, 0, none⟩ = some (.int .i64 0) := (blk_cell BK342.out 0).trans rfl; have hcz10_1 : w9.cell? ⟨gb342, 1, none⟩ = some (.int .i64 0) := (blk_cell BK342.out 1).trans rfl; have hfz10_0 := blk_frozen BK342.out 0; have hfz10_1 := blk_frozen BK342.out 1))
  have n0_ : Aside0 (((w9.setCell ⟨gb342, 0, none⟩ (.int .i64 t339)).setCell ⟨gb342, 1, none⟩ (.int .i64 t340)).heap[gb342]? = some (.cells #[.int .i64 t339, .int .i64 t340] 59 (0, 0))) := ⟨by (with_reducible repeat (first | refine blk_drewN ?_ _ | refine blk_drew ?_ | refine blk_alloc ?_ _)); refine blk_put (cs := #[.int .i64 t339, .int .i64 0]) ?_ 1 _ rfl; (with_reducible repeat (first | refine blk_drewN ?_ _ | refine blk_drew ?_ | refine blk_alloc ?_ _)); refine blk_put (cs := #[.int .i64 0, .int .i64 0]) ?_ 0 _ rfl; (with_reducible repeat (first | refine blk_drewN ?_ _ | refine blk_drew ?_ | refine blk_alloc ?_ _)); exact BK342.out⟩
  have n1_ : Aside0 (Below w.heap.size w ((w9.setCell ⟨gb342, 0, none⟩ (.int .i64 t339)).setCell ⟨gb342, 1, none⟩ (.int .i64 t340))) := ⟨bl_⟩
  (try clear BK342)
  (try clear HB)
  generalize ((w9.setCell ⟨gb342, 0, none⟩ (.int .i64 t339)).setCell ⟨gb342, 1, none⟩ (.int .i64 t340)) = w11 at n0_ n1_ ⊢
  have BK342 := n0_
  have HB := n1_
  clear n0_ n1_
  replace BK342 := Aside0.mk (blk_drew BK342.out)
  replace HB := Aside0.mk (below_drew1 HB.out)
  refine start_ (n := 7) (S := fun w' => w'.cell? ⟨gb342, 0, none⟩ = some (.int .i64 t339) ∧ w'.cell? ⟨gb342, 1, none⟩ = some (.int .i64 t340)) (ds := []) #[false, false, false, false, false, false, false] (by kernel_rfl) rfl rfl ⟨(blk_cell BK342.out 0).trans rfl, (blk_cell BK342.out 1).trans rfl⟩ (fun hHeld => ?_)
  generalize w11.drew = w12 at BK342 HB hHeld ⊢
  refine pure_ (i := 1) (N := some 16) (v := ?_) (a' := ?_) #[false, true, false, false, false, false, false] rfl rfl (by kernel_rfl) (fun _ _ _ h => h) (Or.inl ⟨by rfl, ?_⟩) ?_ ?_
  rotate_left
  ·
   intro w'
   go_simp
   with_reducible rfl
  rotate_left
  ·
   simp only [Act.put, List.setIfInBounds_toArray, List.set_cons_zero, List.set_cons_succ, i64_w, i32_w]
   rfl
  refine take_ (i := 0) (N := some 15) (v := ?_) (a' := ?_) #[true, true, false, false, false, false, false] rfl rfl (by kernel_rfl) (fun _ _ _ h => h) (Or.inl ⟨by rfl, ?_⟩) hHeld ?_ ?_
  rotate_left
  ·
   rintro w' ⟨s0, s1⟩
   go_simp
   with_reducible rfl
  rotate_left
  ·
   simp only [Act.put, List.setIfInBounds_toArray, List.set_cons_zero, List.set_cons_succ, i64_w, i32_w]
   rfl
  refine one_ (i := 2) (N := some 17) #[true, true, true, false, false, false, false] rfl rfl (by kernel_rfl) (by decide) (fun K hK => ?_)
  refine goes_ Tryz.func51 (by kernel_rfl) rfl #[.int .i64 a1] (by rfl) rfl rfl (by (try simp only [List.map_toArray, List.map_cons, List.map_nil]); first | done | rfl | (simp only [List.length_drop, List.length_take]; rfl)) ?_
  with_reducible refine (pylonref02_power.calls a1 t343 t344 _ A5.out).mono ?_
  rintro e w13 ⟨rfl, hb⟩
  refine ⟨_, rfl, ?_⟩
  replace BK342 := Aside0.mk (blk_below (g := gb342) (o := .cells #[.int .i64 t339, .int .i64 t340] 59 (0, 0)) (by (with_reducible repeat (first | refine blk_drewN ?_ _ | refine blk_drew ?_ | refine blk_alloc ?_ _)); exact BK342.out) hb)
  replace HB := Aside0.mk (bst_ hb)
  (try clear hb)
  (try clear hb2)
  (try clear hk)
  (try clear hi)
  refine hK.out _ _ ⟨(blk_cell BK342.out 0).trans rfl, (blk_cell BK342.out 1).trans rfl⟩ (fun hHeld => ?_)
  clear hK K
  refine norm_ (a' := ?_) ?_ ?_
  rotate_left
  ·
   show Act.put _ (some 17) _ = _
   simp only [Act.put, List.setIfInBounds_toArray, List.set_cons_zero, List.set_cons_succ, i64_w, i32_w]
   rfl
  refine one_ (i := 3) (N := some 18) #[true, true, true, true, false, false, false] rfl rfl (by kernel_rfl) (by decide) (fun K hK => ?_)
  refine goes_ Tryz.func49 (by kernel_rfl) rfl #[.agg #[.int .i64 t339, .int .i64 t340], .agg #[.int .i64 t343, .int .i64 t344]] (by rfl) rfl rfl (by (try simp only [List.map_toArray, List.map_cons, List.map_nil]); first | done | rfl | (simp only [List.length_drop, List.length_take]; rfl)) ?_
  with_reducible refine (pylonref02_times.calls t339 t340 t343 t344 t345 t346 _ A6.out).mono ?_
  rintro e w14 ⟨rfl, hb⟩
  refine ⟨_, rfl, ?_⟩
  replace BK342 := Aside0.mk (blk_below (g := gb342) (o := .cells #[.int .i64 t339, .int .i64 t340] 59 (0, 0)) (by (with_reducible repeat (first | refine blk_drewN ?_ _ | refine blk_drew ?_ | refine blk_alloc ?_ _)); exact BK342.out) hb)
  replace HB := Aside0.mk (bst_ hb)
  (try clear hb)
  (try clear hb2)
  (try clear hk)
  (try clear hi)
  refine hK.out _ _ ⟨(blk_cell BK342.out 0).trans rfl, (blk_cell BK342.out 1).trans rfl⟩ (fun hHeld => ?_)
  clear hK K
  refine norm_ (a' := ?_) ?_ ?_
  rotate_left
  ·
   show Act.put _ (some 18) _ = _
   simp only [Act.put, List.setIfInBounds_toArray, List.set_cons_zero, List.set_cons_succ, i64_w, i32_w]
   rfl
  refine one_ (i := 4) (N := some 19) #[true, true, true, true, true, false, false] rfl rfl (by kernel_rfl) (by decide) (fun K hK => ?_)
  refine goes_ Tryz.func47 (by kernel_rfl) rfl #[.agg #[.int .i64 t345, .int .i64 t346]] (by rfl) rfl rfl (by (try simp only [List.map_toArray, List.map_cons, List.map_nil]); first | done | rfl | (simp only [List.length_drop, List.length_take]; rfl)) ?_
  with_reducible refine (pylonref02_Made.calls t345 t346 t347 _ A7.out).mono ?_
  rintro e w15 ⟨rfl, hb⟩
  refine ⟨_, rfl, ?_⟩
  replace BK342 := Aside0.mk (blk_below (g := gb342) (o := .cells #[.int .i64 t339, .int .i64 t340] 59 (0, 0)) (by (with_reducible repeat (first | refine blk_drewN ?_ _ | refine blk_drew ?_ | refine blk_alloc ?_ _)); exact BK342.out) hb)
  replace HB := Aside0.mk (bst_ hb)
  (try clear hb)
  (try clear hb2)
  (try clear hk)
  (try clear hi)
  refine hK.out _ _ ⟨(blk_cell BK342.out 0).trans rfl, (blk_cell BK342.out 1).trans rfl⟩ (fun hHeld => ?_)
  clear hK K
  refine norm_ (a' := ?_) ?_ ?_
  rotate_left
  ·
   show Act.put _ (some 19) _ = _
   simp only [Act.put, List.setIfInBounds_toArray, List.set_cons_zero, List.set_cons_succ, i64_w, i32_w]
   rfl
  refine pure_ (i := 5) (N := some 4) (v := ?_) (a' := ?_) #[true, true, true, true, true, true, false] rfl rfl (by kernel_rfl) (fun _ _ _ h => h) (Or.inl ⟨by rfl, ?_⟩) ?_ ?_
  rotate_left
  ·
   intro w'
   go_simp
   with_reducible rfl
  rotate_left
  ·
   simp only [Act.put, List.setIfInBounds_toArray, List.set_cons_zero, List.set_cons_succ, i64_w, i32_w]
   rfl
  refine pure_ (i := 6) (N := some 5) (v := ?_) (a' := ?_) #[true, true, true, true, true, true, true] rfl rfl (by kernel_rfl) (fun _ _ _ h => h) (Or.inl ⟨by rfl, ?_⟩) ?_ ?_
  rotate_left
  ·
   intro w'
   go_simp
   with_reducible rfl
  rotate_left
  ·
   simp only [Act.put, List.setIfInBounds_toArray, List.set_cons_zero, List.set_cons_succ, i64_w, i32_w]
   rfl
  refine done_ (by kernel_rfl) ?_
  try go_wp2
  go_ret2
  exact fin_
 ·
  replace c4 := Bool.eq_false_iff.mpr c4
  subst c4
  have H1 : (some (cx 0 0, 5)) = some (r1, r2) := by rw [if_neg (show ¬ (false = true) by decide)] at H; exact H
  clear H
  have H := H1
  clear H1
  simp only [Option.some.injEq, Prod.mk.injEq] at H
  obtain ⟨rfl, rfl⟩ := H
  go_enter Tryz.func28, Tryz.ntmps28
  go_wp2_with (first | ((with_reducible refine gate_callee (f := 23) rfl ?_); refine gL_ (some 10) Tryz.func23 #[.complex .f64 a0.re a0.im] ?_; (with_reducible refine (pylonref02_Fits.calls a0 t339 t340 false _ A3.out).mono ?_); rintro e w16 ⟨rfl, hb⟩; refine ⟨_, rfl, ?_⟩; replace HB := Aside0.mk (bst_ hb); (try clear hb); (try clear hb2); (try clear hk); (try clear hi)) | ((with_reducible refine gate_dst (N := 6) rfl ?_); refine box_event ?hg (N := 6) ?hd (cs := #[.int .i64 0, .int .i64 0]) (t := 59) ?hr ?_; (case hd => rfl); (case hg => rfl); (case hr => first | (go_simp; done) | (go_simp; rfl)); intro gb342 hg w17 hbox hb; have BK342 := Aside0.mk (hbox); have GW342 := Aside0.mk ((ge_ hg : w.heap.size ≤ gb342)); have GE342 := Aside0.mk ((ge_ hg : w.heap.size ≤ gb342)); replace HB := Aside0.mk (bst_ hb); clear hb hbox hg; have hcz18_0 : w17.cell? ⟨gb342, 0, none⟩ = some (.int .i64 0) := (blk_cell BK342.out 0).trans rfl; have hcz18_1 : w17.cell? ⟨gb342, 1, none⟩ = some (.int .i64 0) := (blk_cell BK342.out 1).trans rfl; have hfz18_0 := blk_frozen BK342.out 0; have hfz18_1 := blk_frozen BK342.out 1))
  go_ret2
  exact fin_

/-! ### pylonref02_Quadrant: function 29 -/
mutual
def pylonref02_Quadrant.j0 : Nat → Nat → Nat → Bool → Option (Int)
 | 0, _, _, _ => none
 | k + 1, x3, x4, x9 => if x9 = true then (some 0) else (if fge x3 0 = true then (pylonref02_Quadrant.j1 k x3 x4 (fge x4 0)) else (pylonref02_Quadrant.j1 k x3 x4 false))
def pylonref02_Quadrant.j1 : Nat → Nat → Nat → Bool → Option (Int)
 | 0, _, _, _ => none
 | k + 1, x3, x4, x26 => if x26 = true then (some 1) else (if flt x3 0 = true then (pylonref02_Quadrant.j2 k x3 (fge x4 0)) else (pylonref02_Quadrant.j2 k x3 false))
def pylonref02_Quadrant.j2 : Nat → Nat → Bool → Option (Int)
 | 0, _, _ => none
 | k + 1, x3, x33 => if x33 = true then (some 2) else (if flt x3 0 = true then (some 3) else (some 4))
end
def pylonref02_Quadrant.f (k : Nat) (a0 : Cx) : Option (Int) := if feq a0.re a0.re = true then (if feq a0.im a0.im = true then (if feq a0.re 0 = true then (pylonref02_Quadrant.j0 k a0.re a0.im (feq a0.im 0)) else (pylonref02_Quadrant.j0 k a0.re a0.im false)) else (pylonref02_Quadrant.j0 k a0.re a0.im true)) else (pylonref02_Quadrant.j0 k a0.re a0.im true)
theorem pylonref02_Quadrant.mono_l : ∀ k, (∀ y0 y1 y2, LeO (pylonref02_Quadrant.j0 k y0 y1 y2) (pylonref02_Quadrant.j0 (k + 1) y0 y1 y2)) ∧ (∀ y0 y1 y2, LeO (pylonref02_Quadrant.j1 k y0 y1 y2) (pylonref02_Quadrant.j1 (k + 1) y0 y1 y2)) ∧ (∀ y0 y1, LeO (pylonref02_Quadrant.j2 k y0 y1) (pylonref02_Quadrant.j2 (k + 1) y0 y1))
 | 0 => ⟨fun _ _ _ r h => by simp [pylonref02_Quadrant.j0] at h, fun _ _ _ r h => by simp [pylonref02_Quadrant.j1] at h, fun _ _ r h => by simp [pylonref02_Quadrant.j2] at h⟩
 | k + 1 => by
  obtain ⟨ih0, ih1, ih2⟩ := pylonref02_Quadrant.mono_l k
  refine ⟨?_, ?_, ?_⟩
  ·
   intro y0 y1 y2
   unfold pylonref02_Quadrant.j0
   repeat' first
   | (with_reducible exact ih0 _ _ _)
   | (with_reducible exact ih1 _ _ _)
   | (with_reducible exact ih2 _ _)
   | (with_reducible exact LeO.refl _)
   | (with_reducible exact LeO.none _)
   | (with_reducible refine LeO.ite ?_ ?_)
   | (with_reducible refine LeO.bind ?_ (fun _ => ?_))
   | exact ih0 _ _ _
   | exact ih1 _ _ _
   | exact ih2 _ _
   | exact LeO.none _
   | refine LeO.ite ?_ ?_
   | refine LeO.bind ?_ (fun _ => ?_)
  ·
   intro y0 y1 y2
   unfold pylonref02_Quadrant.j1
   repeat' first
   | (with_reducible exact ih0 _ _ _)
   | (with_reducible exact ih1 _ _ _)
   | (with_reducible exact ih2 _ _)
   | (with_reducible exact LeO.refl _)
   | (with_reducible exact LeO.none _)
   | (with_reducible refine LeO.ite ?_ ?_)
   | (with_reducible refine LeO.bind ?_ (fun _ => ?_))
   | exact ih0 _ _ _
   | exact ih1 _ _ _
   | exact ih2 _ _
   | exact LeO.none _
   | refine LeO.ite ?_ ?_
   | refine LeO.bind ?_ (fun _ => ?_)
  ·
   intro y0 y1
   unfold pylonref02_Quadrant.j2
   repeat' first
   | (with_reducible exact ih0 _ _ _)
   | (with_reducible exact ih1 _ _ _)
   | (with_reducible exact ih2 _ _)
   | (with_reducible exact LeO.refl _)
   | (with_reducible exact LeO.none _)
   | (with_reducible refine LeO.ite ?_ ?_)
   | (with_reducible refine LeO.bind ?_ (fun _ => ?_))
   | exact ih0 _ _ _
   | exact ih1 _ _ _
   | exact ih2 _ _
   | exact LeO.none _
   | refine LeO.ite ?_ ?_
   | refine LeO.bind ?_ (fun _ => ?_)
theorem pylonref02_Quadrant.mono : ∀ a0 k, LeO (pylonref02_Quadrant.f k a0) (pylonref02_Quadrant.f (k + 1) a0) := by
 intro a0 k
 obtain ⟨ih0, ih1, ih2⟩ := pylonref02_Quadrant.mono_l k
 unfold pylonref02_Quadrant.f
 repeat' first
   | (with_reducible exact ih0 _ _ _)
   | (with_reducible exact ih1 _ _ _)
   | (with_reducible exact ih2 _ _)
   | (with_reducible exact LeO.refl _)
   | (with_reducible exact LeO.none _)
   | (with_reducible refine LeO.ite ?_ ?_)
   | (with_reducible refine LeO.bind ?_ (fun _ => ?_))
   | exact ih0 _ _ _
   | exact ih1 _ _ _
   | exact ih2 _ _
   | exact LeO.none _
   | refine LeO.ite ?_ ?_
   | refine LeO.bind ?_ (fun _ => ?_)
set_option maxHeartbeats 8000000 in
set_option maxRecDepth 100000 in
theorem pylonref02_Quadrant.calls (k : Nat) (a0 : Cx) (r : Int) (w : World) (h : pylonref02_Quadrant.f k a0 = some r) :
  Calls Tryz.prog 29 #[.complex .f64 a0.re a0.im] w fun e w' => e = .returned (.int .i64 r) ∧ Below w.heap.size w w' := by
 have HB := Aside0.mk (Below.refl w.heap.size w)
 have H : (if feq a0.re a0.re = true then (if feq a0.im a0.im = true then (if feq a0.re 0 = true then (pylonref02_Quadrant.j0 k a0.re a0.im (feq a0.im 0)) else (pylonref02_Quadrant.j0 k a0.re a0.im false)) else (pylonref02_Quadrant.j0 k a0.re a0.im true)) else (pylonref02_Quadrant.j0 k a0.re a0.im true)) = some r := h
 clear h
 have HC2 := Aside0.mk H
 clear H
 go_enter Tryz.func29, Tryz.ntmps29
 go_upto_region 2 with (fail)
 go_cut [9] (fun v9 wc => ∃ (kq : Nat) (x9_1 : Bool), v9 = .bool x9_1 ∧ Aside0 (pylonref02_Quadrant.j0 kq a0.re a0.im x9_1 = some r) ∧ Aside0 (kq ≤ k) ∧ Aside0 (Below w.heap.size w wc))
 case first =>
  have H := HC2.out
  clear HC2
  by_cases c3 : feq a0.re a0.re = true
  ·
   rw [if_pos c3] at H
   have c3b0 : feq a0.re a0.re = true := c3
   clear c3
   (first | rw [c3b0] | (simp only [i64_w, i32_w]; rw [c3b0]) | skip)
   by_cases c4 : feq a0.im a0.im = true
   ·
    rw [if_pos c4] at H
    have c4b0 : feq a0.im a0.im = true := c4
    clear c4
    by_cases c5 : feq a0.re 0 = true
    ·
     rw [if_pos c5] at H
     have c5b0 : feq a0.re 0 = true := c5
     clear c5
     have H' := Aside0.mk H
     clear H
     go_wp2
     go_meet
     case rel => exact ⟨_, (feq a0.im 0), (by first | rfl | (simp; done) | (simp [*]; done)), H', ⟨by first | omega | exact Nat.le_refl _⟩, ⟨bl_⟩⟩
    ·
     rw [if_neg c5] at H
     have c5b0 : feq a0.re 0 = false := Bool.eq_false_iff.mpr c5
     clear c5
     have H' := Aside0.mk H
     clear H
     go_wp2
     go_meet
     case rel => exact ⟨_, (false), (by first | rfl | (simp; done) | (simp [*]; done)), H', ⟨by first | omega | exact Nat.le_refl _⟩, ⟨bl_⟩⟩
   ·
    rw [if_neg c4] at H
    have c4b0 : feq a0.im a0.im = false := Bool.eq_false_iff.mpr c4
    clear c4
    have H' := Aside0.mk H
    clear H
    go_wp2
    go_meet
    case rel => exact ⟨_, (true), (by first | rfl | (simp; done) | (simp [*]; done)), H', ⟨by first | omega | exact Nat.le_refl _⟩, ⟨bl_⟩⟩
  ·
   rw [if_neg c3] at H
   have c3b0 : feq a0.re a0.re = false := Bool.eq_false_iff.mpr c3
   clear c3
   (first | rw [c3b0] | (simp only [i64_w, i32_w]; rw [c3b0]) | skip)
   have H' := Aside0.mk H
   clear H
   go_wp2
   go_meet
   case rel => exact ⟨_, (true), (by first | rfl | (simp; done) | (simp [*]; done)), H', ⟨by first | omega | exact Nat.le_refl _⟩, ⟨bl_⟩⟩
 case rest =>
  clear HC2
  try clear c2
  try clear p2
  try clear c3
  try clear c3b0
  try clear c4
  try clear c4b0
  try clear c5
  try clear c5b0
  obtain ⟨kq, x9_1, rfl, HA, HJ1, HB⟩ := hcut
  cases kq with
  | zero => exact absurd HA.out (by simp [pylonref02_Quadrant.j0])
  | succ kj1 =>
   have H := HA.out
   clear HA
   simp only [pylonref02_Quadrant.j0] at H
   by_cases c6 : x9_1 = true
   ·
    subst c6
    have H1 : (some 0) = some r := by rw [if_pos rfl] at H; exact H
    clear H
    have H := H1
    clear H1
    obtain rfl := Option.some.inj H
    go_wp2
    go_ret
    exact fin_
   ·
    replace c6 := Bool.eq_false_iff.mpr c6
    subst c6
    have H1 : (if fge a0.re 0 = true then (pylonref02_Quadrant.j1 kj1 a0.re a0.im (fge a0.im 0)) else (pylonref02_Quadrant.j1 kj1 a0.re a0.im false)) = some r := by rw [if_neg (show ¬ (false = true) by decide)] at H; exact H
    clear H
    have H := H1
    clear H1
    have HC7 := Aside0.mk H
    clear H
    go_upto_region 4 with (fail)
    go_cut [26] (fun v26 wc => ∃ (kq : Nat) (x26_6 : Bool), v26 = .bool x26_6 ∧ Aside0 (pylonref02_Quadrant.j1 kq a0.re a0.im x26_6 = some r) ∧ Aside0 (kq ≤ kj1) ∧ Aside0 (Below w.heap.size w wc))
    case first =>
     have H := HC7.out
     clear HC7
     by_cases c8 : fge a0.re 0 = true
     ·
      rw [if_pos c8] at H
      have c8b0 : fge a0.re 0 = true := c8
      clear c8
      (first | rw [c8b0] | (simp only [i64_w, i32_w]; rw [c8b0]) | skip)
      have H' := Aside0.mk H
      clear H
      go_wp2
      go_meet
      case rel => exact ⟨_, (fge a0.im 0), (by first | rfl | (simp; done) | (simp [*]; done)), H', ⟨by have := HJ1.out; first | omega | exact Nat.le_refl _⟩, ⟨bl_⟩⟩
     ·
      rw [if_neg c8] at H
      have c8b0 : fge a0.re 0 = false := Bool.eq_false_iff.mpr c8
      clear c8
      (first | rw [c8b0] | (simp only [i64_w, i32_w]; rw [c8b0]) | skip)
      have H' := Aside0.mk H
      clear H
      go_wp2
      go_meet
      case rel => exact ⟨_, (false), (by first | rfl | (simp; done) | (simp [*]; done)), H', ⟨by have := HJ1.out; first | omega | exact Nat.le_refl _⟩, ⟨bl_⟩⟩
    case rest =>
     clear HC7
     try clear c2
     try clear p2
     try clear c3
     try clear c3b0
     try clear c4
     try clear c4b0
     try clear c5
     try clear c5b0
     try clear c6
     try clear c8
     try clear c8b0
     try clear p2
     obtain ⟨kq, x26_6, rfl, HA, HJ6, HB⟩ := hcut
     cases kq with
     | zero => exact absurd HA.out (by simp [pylonref02_Quadrant.j1])
     | succ kj6 =>
      have H := HA.out
      clear HA
      simp only [pylonref02_Quadrant.j1] at H
      by_cases c9 : x26_6 = true
      ·
       subst c9
       have H1 : (some 1) = some r := by rw [if_pos rfl] at H; exact H
       clear H
       have H := H1
       clear H1
       obtain rfl := Option.some.inj H
       go_wp2
       go_ret
       exact fin_
      ·
       replace c9 := Bool.eq_false_iff.mpr c9
       subst c9
       have H1 : (if flt a0.re 0 = true then (pylonref02_Quadrant.j2 kj6 a0.re (fge a0.im 0)) else (pylonref02_Quadrant.j2 kj6 a0.re false)) = some r := by rw [if_neg (show ¬ (false = true) by decide)] at H; exact H
       clear H
       have H := H1
       clear H1
       have HC10 := Aside0.mk H
       clear H
       go_upto_region 6 with (fail)
       go_cut [33] (fun v33 wc => ∃ (kq : Nat) (x33_9 : Bool), v33 = .bool x33_9 ∧ Aside0 (pylonref02_Quadrant.j2 kq a0.re x33_9 = some r) ∧ Aside0 (kq ≤ kj6) ∧ Aside0 (Below w.heap.size w wc))
       case first =>
        have H := HC10.out
        clear HC10
        by_cases c11 : flt a0.re 0 = true
        ·
         rw [if_pos c11] at H
         have c11b0 : flt a0.re 0 = true := c11
         clear c11
         (first | rw [c11b0] | (simp only [i64_w, i32_w]; rw [c11b0]) | skip)
         have H' := Aside0.mk H
         clear H
         go_wp2
         go_meet
         case rel => exact ⟨_, (fge a0.im 0), (by first | rfl | (simp; done) | (simp [*]; done)), H', ⟨by have := HJ1.out; have := HJ6.out; first | omega | exact Nat.le_refl _⟩, ⟨bl_⟩⟩
        ·
         rw [if_neg c11] at H
         have c11b0 : flt a0.re 0 = false := Bool.eq_false_iff.mpr c11
         clear c11
         (first | rw [c11b0] | (simp only [i64_w, i32_w]; rw [c11b0]) | skip)
         have H' := Aside0.mk H
         clear H
         go_wp2
         go_meet
         case rel => exact ⟨_, (false), (by first | rfl | (simp; done) | (simp [*]; done)), H', ⟨by have := HJ1.out; have := HJ6.out; first | omega | exact Nat.le_refl _⟩, ⟨bl_⟩⟩
       case rest =>
        clear HC10
        try clear c1
        try clear c2
        try clear p2
        try clear c3
        try clear c3b0
        try clear c4
        try clear c4b0
        try clear c5
        try clear c5b0
        try clear c6
        try clear c8
        try clear c8b0
        try clear c9
        try clear c11
        try clear c11b0
        try clear p2
        obtain ⟨kq, x33_9, rfl, HA, HJ9, HB⟩ := hcut
        cases kq with
        | zero => exact absurd HA.out (by simp [pylonref02_Quadrant.j2])
        | succ kj9 =>
         have H := HA.out
         clear HA
         simp only [pylonref02_Quadrant.j2] at H
         by_cases c12 : x33_9 = true
         ·
          subst c12
          have H1 : (some 2) = some r := by rw [if_pos rfl] at H; exact H
          clear H
          have H := H1
          clear H1
          obtain rfl := Option.some.inj H
          go_wp2
          go_ret
          exact fin_
         ·
          replace c12 := Bool.eq_false_iff.mpr c12
          subst c12
          have H1 : (if flt a0.re 0 = true then (some 3) else (some 4)) = some r := by rw [if_neg (show ¬ (false = true) by decide)] at H; exact H
          clear H
          have H := H1
          clear H1
          by_cases c13 : flt a0.re 0 = true
          ·
           rw [if_pos c13] at H
           have c13b0 : flt a0.re 0 = true := c13
           clear c13
           obtain rfl := Option.some.inj H
           go_wp2
           go_ret
           exact fin_
          ·
           rw [if_neg c13] at H
           have c13b0 : flt a0.re 0 = false := Bool.eq_false_iff.mpr c13
           clear c13
           obtain rfl := Option.some.inj H
           go_wp2
           go_ret
           exact fin_

/-! ### pylonref01_product: function 73 -/
def pylonref01_product.f (a0 : Int) (a1 : Int) : Option (Int × Int) := some (IntKind.u64.wrap ((IntKind.u64.wrap ((IntKind.u64.wrap ((a0 / 4294967296) * (a1 / 4294967296))) + ((IntKind.u64.wrap ((IntKind.u64.wrap ((a0 / 4294967296) * (Int.tmod a1 4294967296))) + ((IntKind.u64.wrap ((Int.tmod a0 4294967296) * (Int.tmod a1 4294967296))) / 4294967296))) / 4294967296))) + ((IntKind.u64.wrap ((IntKind.u64.wrap ((Int.tmod a0 4294967296) * (a1 / 4294967296))) + (Int.tmod (IntKind.u64.wrap ((IntKind.u64.wrap ((a0 / 4294967296) * (Int.tmod a1 4294967296))) + ((IntKind.u64.wrap ((Int.tmod a0 4294967296) * (Int.tmod a1 4294967296))) / 4294967296))) 4294967296))) / 4294967296)), IntKind.u64.wrap ((IntKind.u64.wrap ((IntKind.u64.wrap ((IntKind.u64.wrap ((Int.tmod a0 4294967296) * (a1 / 4294967296))) + (Int.tmod (IntKind.u64.wrap ((IntKind.u64.wrap ((a0 / 4294967296) * (Int.tmod a1 4294967296))) + ((IntKind.u64.wrap ((Int.tmod a0 4294967296) * (Int.tmod a1 4294967296))) / 4294967296))) 4294967296))) * 4294967296)) + (Int.tmod (IntKind.u64.wrap ((Int.tmod a0 4294967296) * (Int.tmod a1 4294967296))) 4294967296)))
set_option maxHeartbeats 8000000 in
set_option maxRecDepth 100000 in
theorem pylonref01_product.calls (a0 : Int) (a1 : Int) (r1 : Int) (r2 : Int) (w : World) (h : pylonref01_product.f a0 a1 = some (r1, r2)) :
  Calls Tryz.prog 73 #[.int .u64 a0, .int .u64 a1] w fun e w' => e = .returned (.tuple #[.int .u64 r1, .int .u64 r2]) ∧ Drawn0 w w' := by
 have H : (some (IntKind.u64.wrap ((IntKind.u64.wrap ((IntKind.u64.wrap ((a0 / 4294967296) * (a1 / 4294967296))) + ((IntKind.u64.wrap ((IntKind.u64.wrap ((a0 / 4294967296) * (Int.tmod a1 4294967296))) + ((IntKind.u64.wrap ((Int.tmod a0 4294967296) * (Int.tmod a1 4294967296))) / 4294967296))) / 4294967296))) + ((IntKind.u64.wrap ((IntKind.u64.wrap ((Int.tmod a0 4294967296) * (a1 / 4294967296))) + (Int.tmod (IntKind.u64.wrap ((IntKind.u64.wrap ((a0 / 4294967296) * (Int.tmod a1 4294967296))) + ((IntKind.u64.wrap ((Int.tmod a0 4294967296) * (Int.tmod a1 4294967296))) / 4294967296))) 4294967296))) / 4294967296)), IntKind.u64.wrap ((IntKind.u64.wrap ((IntKind.u64.wrap ((IntKind.u64.wrap ((Int.tmod a0 4294967296) * (a1 / 4294967296))) + (Int.tmod (IntKind.u64.wrap ((IntKind.u64.wrap ((a0 / 4294967296) * (Int.tmod a1 4294967296))) + ((IntKind.u64.wrap ((Int.tmod a0 4294967296) * (Int.tmod a1 4294967296))) / 4294967296))) 4294967296))) * 4294967296)) + (Int.tmod (IntKind.u64.wrap ((Int.tmod a0 4294967296) * (Int.tmod a1 4294967296))) 4294967296)))) = some (r1, r2) := h
 clear h
 simp only [Option.some.injEq, Prod.mk.injEq] at H
 obtain ⟨rfl, rfl⟩ := H
 go_enter Tryz.func73, Tryz.ntmps73
 go_wp2
 go_ret2
 exact ⟨by first | rfl | (simp; done) | (simp [*]; done), by repeat (first | exact Drawn0.refl _ | apply Drawn0.step)⟩

/-! ### pylonref01_mag: function 74 -/
def pylonref01_mag.f (a0 : Int) : Option (Int) := if a0 < 0 then (some (IntKind.u64.wrap ((IntKind.u64.wrap (wrap64 (-(wrap64 (a0 + 1))))) + 1))) else (some (IntKind.u64.wrap (a0)))
set_option maxHeartbeats 8000000 in
set_option maxRecDepth 100000 in
theorem pylonref01_mag.calls (a0 : Int) (r : Int) (w : World) (h : pylonref01_mag.f a0 = some r) :
  Calls Tryz.prog 74 #[.int .i64 a0] w fun e w' => e = .returned (.int .u64 r) ∧ Drawn0 w w' := by
 have H : (if a0 < 0 then (some (IntKind.u64.wrap ((IntKind.u64.wrap (wrap64 (-(wrap64 (a0 + 1))))) + 1))) else (some (IntKind.u64.wrap (a0)))) = some r := h
 clear h
 by_cases c2 : a0 < 0
 ·
  rw [if_pos c2] at H
  have c2b0 : decide (a0 < 0) = true := decide_eq_true c2
  clear c2
  obtain rfl := Option.some.inj H
  go_enter Tryz.func74, Tryz.ntmps74
  go_wp2
  go_ret
  exact ⟨by first | rfl | (simp; done) | (simp [*]; done), by repeat (first | exact Drawn0.refl _ | apply Drawn0.step)⟩
 ·
  rw [if_neg c2] at H
  have c2b0 : decide (a0 < 0) = false := decide_eq_false c2
  clear c2
  obtain rfl := Option.some.inj H
  go_enter Tryz.func74, Tryz.ntmps74
  go_wp2
  go_ret
  exact ⟨by first | rfl | (simp; done) | (simp [*]; done), by repeat (first | exact Drawn0.refl _ | apply Drawn0.step)⟩

/-! ### pylonref01_root: function 75 -/
def pylonref01_root.l0 : Nat → Int → Int → Int → Int → Option (Int)
 | 0, _, _, _, _ => none
 | k + 1, x0, x1, x5, x6 => if x6 ≥ 0 then (if 0 ≤ (IntKind.u64.wrap (x6)) then ((pylonref01_product.f (Go.bits .or .u64 x5 (shl .u64 1 (IntKind.u64.wrap (x6)))) (Go.bits .or .u64 x5 (shl .u64 1 (IntKind.u64.wrap (x6))))).bind fun bt348 => (if bt348.1 < x0 then (pylonref01_root.l0 k x0 x1 (Go.bits .or .u64 x5 (shl .u64 1 (IntKind.u64.wrap (x6)))) (wrap64 (x6 - 1))) else (if bt348.1 = x0 then (if bt348.2 ≤ x1 then (pylonref01_root.l0 k x0 x1 (Go.bits .or .u64 x5 (shl .u64 1 (IntKind.u64.wrap (x6)))) (wrap64 (x6 - 1))) else (pylonref01_root.l0 k x0 x1 x5 (wrap64 (x6 - 1)))) else (pylonref01_root.l0 k x0 x1 x5 (wrap64 (x6 - 1)))))) else (none)) else (some x5)
def pylonref01_root.f (k : Nat) (a0 : Int) (a1 : Int) : Option (Int) := pylonref01_root.l0 k a0 a1 0 63
theorem pylonref01_root.mono_l : ∀ k, (∀ y0 y1 y2 y3, LeO (pylonref01_root.l0 k y0 y1 y2 y3) (pylonref01_root.l0 (k + 1) y0 y1 y2 y3))
 | 0 => fun _ _ _ _ r h => by simp [pylonref01_root.l0] at h
 | k + 1 => by
  have ih0 := pylonref01_root.mono_l k
  ·
   intro y0 y1 y2 y3
   unfold pylonref01_root.l0
   repeat' first
   | (with_reducible exact ih0 _ _ _ _)
   | (with_reducible exact LeO.refl _)
   | (with_reducible exact LeO.none _)
   | (with_reducible refine LeO.ite ?_ ?_)
   | (with_reducible refine LeO.bind ?_ (fun _ => ?_))
   | exact ih0 _ _ _ _
   | exact LeO.none _
   | refine LeO.ite ?_ ?_
   | refine LeO.bind ?_ (fun _ => ?_)
theorem pylonref01_root.mono : ∀ a0 a1 k, LeO (pylonref01_root.f k a0 a1) (pylonref01_root.f (k + 1) a0 a1) := by
 intro a0 a1 k
 have ih0 := pylonref01_root.mono_l k
 unfold pylonref01_root.f
 repeat' first
   | (with_reducible exact ih0 _ _ _ _)
   | (with_reducible exact LeO.refl _)
   | (with_reducible exact LeO.none _)
   | (with_reducible refine LeO.ite ?_ ?_)
   | (with_reducible refine LeO.bind ?_ (fun _ => ?_))
   | exact ih0 _ _ _ _
   | exact LeO.none _
   | refine LeO.ite ?_ ?_
   | refine LeO.bind ?_ (fun _ => ?_)
set_option maxHeartbeats 8000000 in
set_option maxRecDepth 100000 in
theorem pylonref01_root.calls (k : Nat) (a0 : Int) (a1 : Int) (r : Int) (w : World) (h : pylonref01_root.f k a0 a1 = some r) :
  Calls Tryz.prog 75 #[.int .u64 a0, .int .u64 a1] w fun e w' => e = .returned (.int .u64 r) ∧ Drawn0 w w' := by
 have H : (pylonref01_root.l0 k a0 a1 0 63) = some r := h
 clear h
 have H' := Aside0.mk H
 clear H
 go_enter Tryz.func75, Tryz.ntmps75
 go_wp2
 go_loopg [5, 6] k (fun kq v5 v6 w' => ∃ (x5_1 : Int) (x6_1 : Int), v5 = .int .u64 x5_1 ∧ v6 = .int .i64 x6_1 ∧ Aside0 (pylonref01_root.l0 kq a0 a1 x5_1 x6_1 = some r) ∧ Aside0 (kq ≤ k) ∧ Drawn0 w w')
 case atStart => exact ⟨(0), (63), (by first | rfl | (simp; done) | (simp [*]; done)), (by first | rfl | (simp; done) | (simp [*]; done)), H', ⟨Nat.le_refl _⟩, by repeat (first | exact Drawn0.refl _ | apply Drawn0.step)⟩
 case round =>
  clear H'
  try clear p2
  obtain ⟨x5_1, x6_1, rfl, rfl, HA, HK1, ⟨m1, rfl⟩⟩ := hrel
  cases gk with
  | zero => exact absurd HA.out (by simp [pylonref01_root.l0])
  | succ k1 =>
   have H := HA.out
   clear HA
   simp only [pylonref01_root.l0] at H
   by_cases c3 : x6_1 ≥ 0
   ·
    rw [if_pos c3] at H
    have c3b0 : decide (0 ≤ x6_1) = true := decide_eq_true c3
    clear c3
    obtain ⟨ji4, hji4⟩ : ∃ j_ : Int, (IntKind.u64.wrap (x6_1)) = j_ := ⟨_, rfl⟩
    replace H : (if 0 ≤ (ji4) then ((pylonref01_product.f (Go.bits .or .u64 x5_1 (shl .u64 1 (ji4))) (Go.bits .or .u64 x5_1 (shl .u64 1 (ji4)))).bind fun bt348 => (if bt348.1 < a0 then (pylonref01_root.l0 k1 a0 a1 (Go.bits .or .u64 x5_1 (shl .u64 1 (ji4))) (wrap64 (x6_1 - 1))) else (if bt348.1 = a0 then (if bt348.2 ≤ a1 then (pylonref01_root.l0 k1 a0 a1 (Go.bits .or .u64 x5_1 (shl .u64 1 (ji4))) (wrap64 (x6_1 - 1))) else (pylonref01_root.l0 k1 a0 a1 x5_1 (wrap64 (x6_1 - 1)))) else (pylonref01_root.l0 k1 a0 a1 x5_1 (wrap64 (x6_1 - 1)))))) else (none)) = some r := by first | (rw [hji4] at H; exact H) | (simp only [hji4] at H ⊢; exact H)
    by_cases c5 : 0 ≤ (ji4)
    ·
     rw [if_pos c5] at H
     have c5b0 := eq_true c5
     have c5b1 : decide (0 ≤ (ji4)) = true := decide_eq_true c5
     clear c5
     obtain ⟨ji6, hji6⟩ : ∃ j_ : Int, (shl .u64 1 (ji4)) = j_ := ⟨_, rfl⟩
     replace H : ((pylonref01_product.f (Go.bits .or .u64 x5_1 (ji6)) (Go.bits .or .u64 x5_1 (ji6))).bind fun bt348 => (if bt348.1 < a0 then (pylonref01_root.l0 k1 a0 a1 (Go.bits .or .u64 x5_1 (ji6)) (wrap64 (x6_1 - 1))) else (if bt348.1 = a0 then (if bt348.2 ≤ a1 then (pylonref01_root.l0 k1 a0 a1 (Go.bits .or .u64 x5_1 (ji6)) (wrap64 (x6_1 - 1))) else (pylonref01_root.l0 k1 a0 a1 x5_1 (wrap64 (x6_1 - 1)))) else (pylonref01_root.l0 k1 a0 a1 x5_1 (wrap64 (x6_1 - 1)))))) = some r := by first | (rw [hji6] at H; exact H) | (simp only [hji6] at H ⊢; exact H)
     have hji6_ : (IntKind.u64.wrap (1 * 2 ^ min (ji4).toNat 64)) = ji6 := hji6
     have hji6z : (ji4) ≤ 64 → (IntKind.u64.wrap (1 * 2 ^ (ji4).toNat)) = ji6 := shl_small hji6
     have hji6u : (IntKind.u64.wrap (2 ^ min (ji4).toNat 64)) = ji6 := by have h_ := hji6_; rw [Int.one_mul] at h_; exact h_
     have hji6v : (ji4) ≤ 64 → (IntKind.u64.wrap (2 ^ (ji4).toNat)) = ji6 := fun hle_ => by have h_ := hji6z hle_; rw [Int.one_mul] at h_; exact h_
     replace H := Option.bind_eq_some_iff.mp H
     obtain ⟨⟨t348, t349⟩, A70, H⟩ := H
     replace H : (if t348 < a0 then (pylonref01_root.l0 k1 a0 a1 (Go.bits .or .u64 x5_1 (ji6)) (wrap64 (x6_1 - 1))) else (if t348 = a0 then (if t349 ≤ a1 then (pylonref01_root.l0 k1 a0 a1 (Go.bits .or .u64 x5_1 (ji6)) (wrap64 (x6_1 - 1))) else (pylonref01_root.l0 k1 a0 a1 x5_1 (wrap64 (x6_1 - 1)))) else (pylonref01_root.l0 k1 a0 a1 x5_1 (wrap64 (x6_1 - 1))))) = some r := H
     have A7 := Aside0.mk A70
     clear A70
     by_cases c8 : t348 < a0
     ·
      rw [if_pos c8] at H
      have c8b0 : decide (t348 < a0) = true := decide_eq_true c8
      clear c8
      have H' := Aside0.mk H
      clear H
      go_wp2_with (first | ((with_reducible refine gate_callee (f := 73) rfl ?_); refine goesL_ (some 22) rfl rfl Tryz.func73 (by kernel_rfl) rfl #[.int .u64 (Go.bits .or .u64 x5_1 (ji6)), .int .u64 (Go.bits .or .u64 x5_1 (ji6))] rfl (by (try simp only [List.map_toArray, List.map_cons, List.map_nil]); first | done | (simp only [hji6]; rfl) | rfl | (simp only [List.length_drop, List.length_take]; rfl)) ?_; (with_reducible refine (pylonref01_product.calls (Go.bits .or .u64 x5_1 (ji6)) (Go.bits .or .u64 x5_1 (ji6)) t348 t349 _ A7.out).mono ?_); rintro e w' ⟨rfl, ⟨nd, rfl⟩⟩; refine ⟨_, rfl, ?_⟩))
      go_roundg k1
      case measure => have := HK1.out; omega
      case rel => exact ⟨(Go.bits .or .u64 x5_1 (ji6)), (wrap64 (x6_1 - 1)), (by first | rfl | (simp; done) | (simp only [← hji6] <;> (first | rfl | simp)) | (simp [*]; done)), (by first | rfl | (simp; done) | (simp [*]; done)), H', ⟨by have := HK1.out; omega⟩, by repeat (first | exact Drawn0.refl _ | apply Drawn0.step)⟩
     ·
      rw [if_neg c8] at H
      have c8b0 : decide (t348 < a0) = false := decide_eq_false c8
      clear c8
      by_cases c9 : t348 = a0
      ·
       rw [if_pos c9] at H
       obtain ⟨c9b0, c9b1⟩ := eqT_ c9
       clear c9
       by_cases c10 : t349 ≤ a1
       ·
        rw [if_pos c10] at H
        have c10b0 : decide (t349 ≤ a1) = true := decide_eq_true c10
        clear c10
        have H' := Aside0.mk H
        clear H
        go_wp2_with (first | ((with_reducible refine gate_callee (f := 73) rfl ?_); refine goesL_ (some 22) rfl rfl Tryz.func73 (by kernel_rfl) rfl #[.int .u64 (Go.bits .or .u64 x5_1 (ji6)), .int .u64 (Go.bits .or .u64 x5_1 (ji6))] rfl (by (try simp only [List.map_toArray, List.map_cons, List.map_nil]); first | done | (simp only [hji6]; rfl) | rfl | (simp only [List.length_drop, List.length_take]; rfl)) ?_; (with_reducible refine (pylonref01_product.calls (Go.bits .or .u64 x5_1 (ji6)) (Go.bits .or .u64 x5_1 (ji6)) t348 t349 _ A7.out).mono ?_); rintro e w' ⟨rfl, ⟨nd, rfl⟩⟩; refine ⟨_, rfl, ?_⟩))
        go_roundg k1
        case measure => have := HK1.out; omega
        case rel => exact ⟨(Go.bits .or .u64 x5_1 (ji6)), (wrap64 (x6_1 - 1)), (by first | rfl | (simp; done) | (simp only [← hji6] <;> (first | rfl | simp)) | (simp [*]; done)), (by first | rfl | (simp; done) | (simp [*]; done)), H', ⟨by have := HK1.out; omega⟩, by repeat (first | exact Drawn0.refl _ | apply Drawn0.step)⟩
       ·
        rw [if_neg c10] at H
        have c10b0 : decide (t349 ≤ a1) = false := decide_eq_false c10
        clear c10
        have H' := Aside0.mk H
        clear H
        go_wp2_with (first | ((with_reducible refine gate_callee (f := 73) rfl ?_); refine goesL_ (some 22) rfl rfl Tryz.func73 (by kernel_rfl) rfl #[.int .u64 (Go.bits .or .u64 x5_1 (ji6)), .int .u64 (Go.bits .or .u64 x5_1 (ji6))] rfl (by (try simp only [List.map_toArray, List.map_cons, List.map_nil]); first | done | (simp only [hji6]; rfl) | rfl | (simp only [List.length_drop, List.length_take]; rfl)) ?_; (with_reducible refine (pylonref01_product.calls (Go.bits .or .u64 x5_1 (ji6)) (Go.bits .or .u64 x5_1 (ji6)) t348 t349 _ A7.out).mono ?_); rintro e w' ⟨rfl, ⟨nd, rfl⟩⟩; refine ⟨_, rfl, ?_⟩))
        go_roundg k1
        case measure => have := HK1.out; omega
        case rel => exact ⟨(x5_1), (wrap64 (x6_1 - 1)), (by first | rfl | (simp; done) | (simp [*]; done)), (by first | rfl | (simp; done) | (simp [*]; done)), H', ⟨by have := HK1.out; omega⟩, by repeat (first | exact Drawn0.refl _ | apply Drawn0.step)⟩
      ·
       rw [if_neg c9] at H
       obtain ⟨c9b0, c9b1⟩ := eqF_ c9
       have H' := Aside0.mk H
       clear H
       go_wp2_with (first | ((with_reducible refine gate_callee (f := 73) rfl ?_); refine goesL_ (some 22) rfl rfl Tryz.func73 (by kernel_rfl) rfl #[.int .u64 (Go.bits .or .u64 x5_1 (ji6)), .int .u64 (Go.bits .or .u64 x5_1 (ji6))] rfl (by (try simp only [List.map_toArray, List.map_cons, List.map_nil]); first | done | (simp only [hji6]; rfl) | rfl | (simp only [List.length_drop, List.length_take]; rfl)) ?_; (with_reducible refine (pylonref01_product.calls (Go.bits .or .u64 x5_1 (ji6)) (Go.bits .or .u64 x5_1 (ji6)) t348 t349 _ A7.out).mono ?_); rintro e w' ⟨rfl, ⟨nd, rfl⟩⟩; refine ⟨_, rfl, ?_⟩))
       go_roundg k1
       case measure => have := HK1.out; omega
       case rel => exact ⟨(x5_1), (wrap64 (x6_1 - 1)), (by first | rfl | (simp; done) | (simp [*]; done)), (by first | rfl | (simp; done) | (simp [*]; done)), H', ⟨by have := HK1.out; omega⟩, by repeat (first | exact Drawn0.refl _ | apply Drawn0.step)⟩
    ·
     rw [if_neg c5] at H
     exact absurd H (by simp)
   ·
    rw [if_neg c3] at H
    have c3b0 : decide (0 ≤ x6_1) = false := decide_eq_false c3
    clear c3
    obtain rfl := Option.some.inj H
    go_wp2
    go_ret
    exact ⟨by first | rfl | (simp; done) | (simp [*]; done), by repeat (first | exact Drawn0.refl _ | apply Drawn0.step)⟩

/-! ### pylonref01_signed: function 76 -/
def pylonref01_signed.j0 : Nat → Bool → Int → Bool → Option (Int × Int)
 | 0, _, _, _ => none
 | k + 1, x0, x2, x24 => if x24 = true then (some (0, 5)) else (if x0 = true then (if x2 > 0 then (some (wrap64 ((wrap64 (-(wrap64 (IntKind.u64.wrap (x2 - 1))))) - 1), 0)) else (some (wrap64 (x2), 0))) else (some (wrap64 (x2), 0)))
def pylonref01_signed.f (k : Nat) (a0 : Bool) (a1 : Int) (a2 : Int) : Option (Int × Int) := if a1 = 0 then (if a0 = true then (pylonref01_signed.j0 k a0 a2 (decide (a2 > 9223372036854775808))) else (if a2 ≥ 9223372036854775808 then (pylonref01_signed.j0 k a0 a2 true) else (pylonref01_signed.j0 k a0 a2 false))) else (pylonref01_signed.j0 k a0 a2 true)
theorem pylonref01_signed.mono_l : ∀ k, (∀ y0 y1 y2, LeO (pylonref01_signed.j0 k y0 y1 y2) (pylonref01_signed.j0 (k + 1) y0 y1 y2))
 | 0 => fun _ _ _ r h => by simp [pylonref01_signed.j0] at h
 | k + 1 => by
  have ih0 := pylonref01_signed.mono_l k
  ·
   intro y0 y1 y2
   unfold pylonref01_signed.j0
   repeat' first
   | (with_reducible exact ih0 _ _ _)
   | (with_reducible exact LeO.refl _)
   | (with_reducible exact LeO.none _)
   | (with_reducible refine LeO.ite ?_ ?_)
   | (with_reducible refine LeO.bind ?_ (fun _ => ?_))
   | exact ih0 _ _ _
   | exact LeO.none _
   | refine LeO.ite ?_ ?_
   | refine LeO.bind ?_ (fun _ => ?_)
theorem pylonref01_signed.mono : ∀ a0 a1 a2 k, LeO (pylonref01_signed.f k a0 a1 a2) (pylonref01_signed.f (k + 1) a0 a1 a2) := by
 intro a0 a1 a2 k
 have ih0 := pylonref01_signed.mono_l k
 unfold pylonref01_signed.f
 repeat' first
   | (with_reducible exact ih0 _ _ _)
   | (with_reducible exact LeO.refl _)
   | (with_reducible exact LeO.none _)
   | (with_reducible refine LeO.ite ?_ ?_)
   | (with_reducible refine LeO.bind ?_ (fun _ => ?_))
   | exact ih0 _ _ _
   | exact LeO.none _
   | refine LeO.ite ?_ ?_
   | refine LeO.bind ?_ (fun _ => ?_)
set_option maxHeartbeats 8000000 in
set_option maxRecDepth 100000 in
theorem pylonref01_signed.calls (k : Nat) (a0 : Bool) (a1 : Int) (a2 : Int) (r1 : Int) (r2 : Int) (w : World) (h : pylonref01_signed.f k a0 a1 a2 = some (r1, r2)) :
  Calls Tryz.prog 76 #[.bool a0, .int .u64 a1, .int .u64 a2] w fun e w' => e = .returned (.tuple #[.int .i64 r1, .int .i64 r2]) ∧ Drawn0 w w' := by
 have H : (if a1 = 0 then (if a0 = true then (pylonref01_signed.j0 k a0 a2 (decide (a2 > 9223372036854775808))) else (if a2 ≥ 9223372036854775808 then (pylonref01_signed.j0 k a0 a2 true) else (pylonref01_signed.j0 k a0 a2 false))) else (pylonref01_signed.j0 k a0 a2 true)) = some (r1, r2) := h
 clear h
 have HC4 := Aside0.mk H
 clear H
 go_enter Tryz.func76, Tryz.ntmps76
 go_upto_region 1 with (fail)
 go_cut [24] (fun v24 wc => ∃ (kq : Nat) (x24_3 : Bool), v24 = .bool x24_3 ∧ Aside0 (pylonref01_signed.j0 kq a0 a2 x24_3 = some (r1, r2)) ∧ Aside0 (kq ≤ k) ∧ Drawn0 w wc)
 case first =>
  have H := HC4.out
  clear HC4
  by_cases c5 : a1 = 0
  ·
   rw [if_pos c5] at H
   obtain ⟨c5b0, c5b1⟩ := eqT_ c5
   clear c5
   (first | rw [c5b0] | (simp only [i64_w, i32_w]; rw [c5b0]) | skip)
   by_cases c6 : a0 = true
   ·
    subst c6
    have H1 : (pylonref01_signed.j0 k true a2 (decide (a2 > 9223372036854775808))) = some (r1, r2) := by rw [if_pos rfl] at H; exact H
    clear H
    have H := H1
    clear H1
    have H' := Aside0.mk H
    clear H
    go_wp2
    go_meet
    case rel => exact ⟨_, (decide (a2 > 9223372036854775808)), (by first | rfl | (simp; done) | (simp [*]; done) | (by_cases hdp0_ : a2 > 9223372036854775808 <;> simp [*] <;> done)), H', ⟨by first | omega | exact Nat.le_refl _⟩, by repeat (first | exact Drawn0.refl _ | apply Drawn0.step)⟩
   ·
    replace c6 := Bool.eq_false_iff.mpr c6
    subst c6
    have H1 : (if a2 ≥ 9223372036854775808 then (pylonref01_signed.j0 k false a2 true) else (pylonref01_signed.j0 k false a2 false)) = some (r1, r2) := by rw [if_neg (show ¬ (false = true) by decide)] at H; exact H
    clear H
    have H := H1
    clear H1
    by_cases c7 : a2 ≥ 9223372036854775808
    ·
     rw [if_pos c7] at H
     have c7b0 : decide (9223372036854775808 ≤ a2) = true := decide_eq_true c7
     clear c7
     have H' := Aside0.mk H
     clear H
     go_wp2
     go_meet
     case rel => exact ⟨_, (true), (by first | rfl | (simp; done) | (simp [*]; done)), H', ⟨by first | omega | exact Nat.le_refl _⟩, by repeat (first | exact Drawn0.refl _ | apply Drawn0.step)⟩
    ·
     rw [if_neg c7] at H
     have c7b0 : decide (9223372036854775808 ≤ a2) = false := decide_eq_false c7
     clear c7
     have H' := Aside0.mk H
     clear H
     go_wp2
     go_meet
     case rel => exact ⟨_, (false), (by first | rfl | (simp; done) | (simp [*]; done)), H', ⟨by first | omega | exact Nat.le_refl _⟩, by repeat (first | exact Drawn0.refl _ | apply Drawn0.step)⟩
  ·
   rw [if_neg c5] at H
   obtain ⟨c5b0, c5b1⟩ := eqF_ c5
   (first | rw [c5b0] | (simp only [i64_w, i32_w]; rw [c5b0]) | skip)
   have H' := Aside0.mk H
   clear H
   go_wp2
   go_meet
   case rel => exact ⟨_, (true), (by first | rfl | (simp; done) | (simp [*]; done)), H', ⟨by first | omega | exact Nat.le_refl _⟩, by repeat (first | exact Drawn0.refl _ | apply Drawn0.step)⟩
 case rest =>
  clear HC4
  try clear p2
  try clear c5
  try clear c5b0
  try clear c5b1
  try clear c6
  try clear c7
  try clear c7b0
  obtain ⟨kq, x24_3, rfl, HA, HJ3, ⟨mc3, rfl⟩⟩ := hcut
  cases kq with
  | zero => exact absurd HA.out (by simp [pylonref01_signed.j0])
  | succ kj3 =>
   have H := HA.out
   clear HA
   simp only [pylonref01_signed.j0] at H
   by_cases c8 : x24_3 = true
   ·
    subst c8
    have H1 : (some (0, 5)) = some (r1, r2) := by rw [if_pos rfl] at H; exact H
    clear H
    have H := H1
    clear H1
    simp only [Option.some.injEq, Prod.mk.injEq] at H
    obtain ⟨rfl, rfl⟩ := H
    go_wp2
    go_ret2
    exact ⟨by first | rfl | (simp; done) | (simp [*]; done), by repeat (first | exact Drawn0.refl _ | apply Drawn0.step)⟩
   ·
    replace c8 := Bool.eq_false_iff.mpr c8
    subst c8
    have H1 : (if a0 = true then (if a2 > 0 then (some (wrap64 ((wrap64 (-(wrap64 (IntKind.u64.wrap (a2 - 1))))) - 1), 0)) else (some (wrap64 (a2), 0))) else (some (wrap64 (a2), 0))) = some (r1, r2) := by rw [if_neg (show ¬ (false = true) by decide)] at H; exact H
    clear H
    have H := H1
    clear H1
    by_cases c9 : a0 = true
    ·
     subst c9
     have H1 : (if a2 > 0 then (some (wrap64 ((wrap64 (-(wrap64 (IntKind.u64.wrap (a2 - 1))))) - 1), 0)) else (some (wrap64 (a2), 0))) = some (r1, r2) := by rw [if_pos rfl] at H; exact H
     clear H
     have H := H1
     clear H1
     by_cases c10 : a2 > 0
     ·
      rw [if_pos c10] at H
      have c10b0 : decide (0 < a2) = true := decide_eq_true c10
      clear c10
      simp only [Option.some.injEq, Prod.mk.injEq] at H
      obtain ⟨rfl, rfl⟩ := H
      go_wp2
      go_ret2
      exact ⟨by first | rfl | (simp; done) | (simp [*]; done), by repeat (first | exact Drawn0.refl _ | apply Drawn0.step)⟩
     ·
      rw [if_neg c10] at H
      have c10b0 : decide (0 < a2) = false := decide_eq_false c10
      clear c10
      simp only [Option.some.injEq, Prod.mk.injEq] at H
      obtain ⟨rfl, rfl⟩ := H
      go_wp2
      go_ret2
      exact ⟨by first | rfl | (simp; done) | (simp [*]; done), by repeat (first | exact Drawn0.refl _ | apply Drawn0.step)⟩
    ·
     replace c9 := Bool.eq_false_iff.mpr c9
     subst c9
     have H1 : (some (wrap64 (a2), 0)) = some (r1, r2) := by rw [if_neg (show ¬ (false = true) by decide)] at H; exact H
     clear H
     have H := H1
     clear H1
     simp only [Option.some.injEq, Prod.mk.injEq] at H
     obtain ⟨rfl, rfl⟩ := H
     go_wp2
     go_ret2
     exact ⟨by first | rfl | (simp; done) | (simp [*]; done), by repeat (first | exact Drawn0.refl _ | apply Drawn0.step)⟩

end Go.Proofs.YtofedlghaopciaaGreatDoor.PA
