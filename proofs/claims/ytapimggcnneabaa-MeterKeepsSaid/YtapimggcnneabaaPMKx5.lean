-- Written by a program of this session for this claim (wip/print2.sh). Lean checks it.
import Derived.Test.YtapimggcnneabaaPMKx0
import Derived.Test.YtapimggcnneabaaPMKx2
import Derived.Test.YtapimggcnneabaaPMKx3
import Derived.Test.YtapimggcnneabaaPMKx4
namespace Go.Proofs.Ytapimggcnneabaa.PMK
open Go.Proofs.YtapimggcnneabaaW.PrintWords
attribute [local go_sem high] fx_eql fx_neq fx_lss fx_leq fx_gtr fx_geq fx_add fx_sub fx_mul fx_neg fx_toint cxx_add cxx_sub cxx_mul cxx_eql cxx_neq cxx_pick st_float st_complex
open Go.RowKit Go.Proofs.YtapimggcnneabaaW.PrintWords Go.Proofs.YtapimggcnneabaaW.PrintLast Go.Proofs.YtapimggcnneabaaW.PrintMore
attribute [local go_sem] max2_int min2_int max_two min_two max_three min_three max_four min_four   -- for this text's walks alone
set_option linter.unusedVariables false
set_option linter.unusedSimpArgs false

/-! ### pylonlaw12_MeterKeeps: function 11 -/
mutual
def pylonlaw12_MeterKeeps.j0 : Nat → List Cx → List Cx → List Cx → Bool → Option (Bool)
  | 0, _, _, _, _ => none
  | k + 1, x9, x11, x13, x68 => if x68 = true then (some false) else (pylonlaw12_MeterKeeps.l0 k x9 x11 x13 (x9.length : Int) 0)
def pylonlaw12_MeterKeeps.l0 : Nat → List Cx → List Cx → List Cx → Int → Int → Option (Bool)
  | 0, _, _, _, _, _ => none
  | k + 1, x9, x11, x13, x70, x71 => if x71 < x70 then (if 0 ≤ x71 then (if x71 < (x9.length : Int) then (pylonlaw12_MeterKeeps.l0 k (x9.set (x71 : Int).toNat (cx 0 4619567317775286272)) x11 x13 x70 (wrap64 (x71 + 1))) else (none)) else (none)) else (pylonlaw12_MeterKeeps.l1 k x9 x11 x13 0)
def pylonlaw12_MeterKeeps.l1 : Nat → List Cx → List Cx → List Cx → Int → Option (Bool)
  | 0, _, _, _, _ => none
  | k + 1, x9, x11, x13, x78 => if x78 < 20 then (if x9.length < 8796093022208 then (pylonlaw12_MeterKeeps.l1 k (x9 ++ [cx 0 4619567317775286272]) x11 x13 (wrap64 (x78 + 1))) else (none)) else ((some (([] : List Cx) : List Cx)).bind fun y186 => (if y186.length + x11.length < 8796093022208 then ((some (y186 ++ x11 : List Cx)).bind fun y189 => (if y189.length < 8796093022208 then ((some (y189 ++ [cx 4617315517961601024 0] : List Cx)).bind fun y192 => (if 0 ≤ (x11.length : Int) then (if (x11.length : Int) ≤ (y192.length : Int) then ((some (y192.take ((x11.length : Int) : Int).toNat : List Cx)).bind fun y195 => ((meter_Total.f k y195).bind fun bt199 => ((meter_Energy.f k y195).bind fun bt201 => ((pylonref12_SameSeries.f k x11 x13).bind fun t204 => (if t204 = true then ((pylonref12_SameSeries.f k y195 x13).bind fun t205 => (if t205 = true then (if (x11.length : Int) < (y192.length : Int) then (some (ceq (rdOf (cx 0 0) y192 (x11.length : Int)).re (rdOf (cx 0 0) y192 (x11.length : Int)).im 4617315517961601024 0)) else (none)) else (some false))) else (some false)))))) else (none)) else (none))) else (none))) else (none)))
end
def pylonlaw12_MeterKeeps.f (k : Nat) (l0 : List (S25)) (a1 : Int) (a2 : Int) : Option (Bool) := (pylonlaw12_awake.f k).bind fun t153 => (if t153 = true then ((some (([] : List (S25)) : List (S25))).bind fun y154 => (if y154.length + l0.length < 3518437208883 then ((some (y154 ++ l0 : List (S25))).bind fun y157 => (if y157.length < 3518437208883 then ((some (y157 ++ [(⟨77, 0, 0, 0, 0⟩ : S25)] : List (S25))).bind fun y160 => (if 0 ≤ (l0.length : Int) then (if (l0.length : Int) ≤ (y160.length : Int) then ((some (y160.take ((l0.length : Int) : Int).toNat : List (S25))).bind fun y163 => ((meter_Series.f k y163 a1 a2).bind fun bt167 => ((meter_Series.f k y163 a1 a2).bind fun bt171 => ((pylonref12_Series.f k l0 a1 a2).bind fun bt175 => ((pylonref12_SameSeries.f k bt167.1 bt175.1).bind fun t179 => (if t179 = true then ((pylonref11_SameReads.f k y163 l0).bind fun t180 => (if t180 = true then (if (l0.length : Int) < (y160.length : Int) then (pylonlaw12_MeterKeeps.j0 k bt167.1 bt171.1 bt175.1 (((rd_T25 y160 (l0.length : Int)).f0) != 77)) else (none)) else (pylonlaw12_MeterKeeps.j0 k bt167.1 bt171.1 bt175.1 true))) else (pylonlaw12_MeterKeeps.j0 k bt167.1 bt171.1 bt175.1 true))))))) else (none)) else (none))) else (none))) else (none))) else (some false))
theorem pylonlaw12_MeterKeeps.mono_l : ∀ k, (∀ y0 y1 y2 y3, LeO (pylonlaw12_MeterKeeps.j0 k y0 y1 y2 y3) (pylonlaw12_MeterKeeps.j0 (k + 1) y0 y1 y2 y3)) ∧ (∀ y0 y1 y2 y3 y4, LeO (pylonlaw12_MeterKeeps.l0 k y0 y1 y2 y3 y4) (pylonlaw12_MeterKeeps.l0 (k + 1) y0 y1 y2 y3 y4)) ∧ (∀ y0 y1 y2 y3, LeO (pylonlaw12_MeterKeeps.l1 k y0 y1 y2 y3) (pylonlaw12_MeterKeeps.l1 (k + 1) y0 y1 y2 y3))
  | 0 => ⟨fun _ _ _ _ r h => by simp [pylonlaw12_MeterKeeps.j0] at h, fun _ _ _ _ _ r h => by simp [pylonlaw12_MeterKeeps.l0] at h, fun _ _ _ _ r h => by simp [pylonlaw12_MeterKeeps.l1] at h⟩
  | k + 1 => by
    obtain ⟨ih0, ih1, ih2⟩ := pylonlaw12_MeterKeeps.mono_l k
    refine ⟨?_, ?_, ?_⟩
    · intro y0 y1 y2 y3
      unfold pylonlaw12_MeterKeeps.j0
      repeat' first
      | (with_reducible exact ih0 _ _ _ _)
      | (with_reducible exact ih1 _ _ _ _ _)
      | (with_reducible exact ih2 _ _ _ _)
      | (with_reducible exact meter_Energy.mono _ _)
      | (with_reducible exact meter_Series.mono _ _ _ _)
      | (with_reducible exact meter_Total.mono _ _)
      | (with_reducible exact pylonlaw12_awake.mono _)
      | (with_reducible exact pylonref11_SameReads.mono _ _ _)
      | (with_reducible exact pylonref12_SameSeries.mono _ _ _)
      | (with_reducible exact pylonref12_Series.mono _ _ _ _)
      | (with_reducible exact LeO.refl _)
      | (with_reducible exact LeO.none _)
      | (with_reducible refine LeO.ite ?_ ?_)
      | (with_reducible refine LeO.bind ?_ (fun _ => ?_))
      | exact ih0 _ _ _ _
      | exact ih1 _ _ _ _ _
      | exact ih2 _ _ _ _
      | exact meter_Energy.mono _ _
      | exact meter_Series.mono _ _ _ _
      | exact meter_Total.mono _ _
      | exact pylonlaw12_awake.mono _
      | exact pylonref11_SameReads.mono _ _ _
      | exact pylonref12_SameSeries.mono _ _ _
      | exact pylonref12_Series.mono _ _ _ _
      | exact LeO.none _
      | refine LeO.ite ?_ ?_
      | refine LeO.bind ?_ (fun _ => ?_)
    · intro y0 y1 y2 y3 y4
      unfold pylonlaw12_MeterKeeps.l0
      repeat' first
      | (with_reducible exact ih0 _ _ _ _)
      | (with_reducible exact ih1 _ _ _ _ _)
      | (with_reducible exact ih2 _ _ _ _)
      | (with_reducible exact meter_Energy.mono _ _)
      | (with_reducible exact meter_Series.mono _ _ _ _)
      | (with_reducible exact meter_Total.mono _ _)
      | (with_reducible exact pylonlaw12_awake.mono _)
      | (with_reducible exact pylonref11_SameReads.mono _ _ _)
      | (with_reducible exact pylonref12_SameSeries.mono _ _ _)
      | (with_reducible exact pylonref12_Series.mono _ _ _ _)
      | (with_reducible exact LeO.refl _)
      | (with_reducible exact LeO.none _)
      | (with_reducible refine LeO.ite ?_ ?_)
      | (with_reducible refine LeO.bind ?_ (fun _ => ?_))
      | exact ih0 _ _ _ _
      | exact ih1 _ _ _ _ _
      | exact ih2 _ _ _ _
      | exact meter_Energy.mono _ _
      | exact meter_Series.mono _ _ _ _
      | exact meter_Total.mono _ _
      | exact pylonlaw12_awake.mono _
      | exact pylonref11_SameReads.mono _ _ _
      | exact pylonref12_SameSeries.mono _ _ _
      | exact pylonref12_Series.mono _ _ _ _
      | exact LeO.none _
      | refine LeO.ite ?_ ?_
      | refine LeO.bind ?_ (fun _ => ?_)
    · intro y0 y1 y2 y3
      unfold pylonlaw12_MeterKeeps.l1
      repeat' first
      | (with_reducible exact ih0 _ _ _ _)
      | (with_reducible exact ih1 _ _ _ _ _)
      | (with_reducible exact ih2 _ _ _ _)
      | (with_reducible exact meter_Energy.mono _ _)
      | (with_reducible exact meter_Series.mono _ _ _ _)
      | (with_reducible exact meter_Total.mono _ _)
      | (with_reducible exact pylonlaw12_awake.mono _)
      | (with_reducible exact pylonref11_SameReads.mono _ _ _)
      | (with_reducible exact pylonref12_SameSeries.mono _ _ _)
      | (with_reducible exact pylonref12_Series.mono _ _ _ _)
      | (with_reducible exact LeO.refl _)
      | (with_reducible exact LeO.none _)
      | (with_reducible refine LeO.ite ?_ ?_)
      | (with_reducible refine LeO.bind ?_ (fun _ => ?_))
      | exact ih0 _ _ _ _
      | exact ih1 _ _ _ _ _
      | exact ih2 _ _ _ _
      | exact meter_Energy.mono _ _
      | exact meter_Series.mono _ _ _ _
      | exact meter_Total.mono _ _
      | exact pylonlaw12_awake.mono _
      | exact pylonref11_SameReads.mono _ _ _
      | exact pylonref12_SameSeries.mono _ _ _
      | exact pylonref12_Series.mono _ _ _ _
      | exact LeO.none _
      | refine LeO.ite ?_ ?_
      | refine LeO.bind ?_ (fun _ => ?_)
theorem pylonlaw12_MeterKeeps.mono : ∀ a0 a1 a2 k, LeO (pylonlaw12_MeterKeeps.f k a0 a1 a2) (pylonlaw12_MeterKeeps.f (k + 1) a0 a1 a2) := by
  intro a0 a1 a2 k
  obtain ⟨ih0, ih1, ih2⟩ := pylonlaw12_MeterKeeps.mono_l k
  unfold pylonlaw12_MeterKeeps.f
  repeat' first
      | (with_reducible exact ih0 _ _ _ _)
      | (with_reducible exact ih1 _ _ _ _ _)
      | (with_reducible exact ih2 _ _ _ _)
      | (with_reducible exact meter_Energy.mono _ _)
      | (with_reducible exact meter_Series.mono _ _ _ _)
      | (with_reducible exact meter_Total.mono _ _)
      | (with_reducible exact pylonlaw12_awake.mono _)
      | (with_reducible exact pylonref11_SameReads.mono _ _ _)
      | (with_reducible exact pylonref12_SameSeries.mono _ _ _)
      | (with_reducible exact pylonref12_Series.mono _ _ _ _)
      | (with_reducible exact LeO.refl _)
      | (with_reducible exact LeO.none _)
      | (with_reducible refine LeO.ite ?_ ?_)
      | (with_reducible refine LeO.bind ?_ (fun _ => ?_))
      | exact ih0 _ _ _ _
      | exact ih1 _ _ _ _ _
      | exact ih2 _ _ _ _
      | exact meter_Energy.mono _ _
      | exact meter_Series.mono _ _ _ _
      | exact meter_Total.mono _ _
      | exact pylonlaw12_awake.mono _
      | exact pylonref11_SameReads.mono _ _ _
      | exact pylonref12_SameSeries.mono _ _ _
      | exact pylonref12_Series.mono _ _ _ _
      | exact LeO.none _
      | refine LeO.ite ?_ ?_
      | refine LeO.bind ?_ (fun _ => ?_)
set_option maxHeartbeats 8000000 in
set_option maxRecDepth 100000 in
theorem pylonlaw12_MeterKeeps.calls (k : Nat) (A0 : Option Addr) (c0 : Nat) (l0 : List (S25)) (a1 : Int) (a2 : Int) (r : Bool) (w : World) (hr0 : Kd.C k25 w A0 l0.length l0) (hc0 : l0.length ≤ c0) (h : pylonlaw12_MeterKeeps.f k l0 a1 a2 = some r) :
    Calls Try.prog 11 #[.slice A0 l0.length c0, .int .i64 a1, .int .i64 a2] w fun e w' => e = .returned (.bool r) ∧ Below w.heap.size w w' := by
  have hu25 := Try.underlying25
  have HR0 := Aside0.mk hr0
  have HC0 := Aside0.mk hc0
  clear hr0 hc0
  have HB := Aside0.mk (Below.refl w.heap.size w)
  have H : ((pylonlaw12_awake.f k).bind fun t153 => (if t153 = true then ((some (([] : List (S25)) : List (S25))).bind fun y154 => (if y154.length + l0.length < 3518437208883 then ((some (y154 ++ l0 : List (S25))).bind fun y157 => (if y157.length < 3518437208883 then ((some (y157 ++ [(⟨77, 0, 0, 0, 0⟩ : S25)] : List (S25))).bind fun y160 => (if 0 ≤ (l0.length : Int) then (if (l0.length : Int) ≤ (y160.length : Int) then ((some (y160.take ((l0.length : Int) : Int).toNat : List (S25))).bind fun y163 => ((meter_Series.f k y163 a1 a2).bind fun bt167 => ((meter_Series.f k y163 a1 a2).bind fun bt171 => ((pylonref12_Series.f k l0 a1 a2).bind fun bt175 => ((pylonref12_SameSeries.f k bt167.1 bt175.1).bind fun t179 => (if t179 = true then ((pylonref11_SameReads.f k y163 l0).bind fun t180 => (if t180 = true then (if (l0.length : Int) < (y160.length : Int) then (pylonlaw12_MeterKeeps.j0 k bt167.1 bt171.1 bt175.1 (((rd_T25 y160 (l0.length : Int)).f0) != 77)) else (none)) else (pylonlaw12_MeterKeeps.j0 k bt167.1 bt171.1 bt175.1 true))) else (pylonlaw12_MeterKeeps.j0 k bt167.1 bt171.1 bt175.1 true))))))) else (none)) else (none))) else (none))) else (none))) else (some false))) = some r := h
  clear h
  replace H := Option.bind_eq_some_iff.mp H
  obtain ⟨t153, A40, H⟩ := H
  replace H : (if t153 = true then ((some (([] : List (S25)) : List (S25))).bind fun y154 => (if y154.length + l0.length < 3518437208883 then ((some (y154 ++ l0 : List (S25))).bind fun y157 => (if y157.length < 3518437208883 then ((some (y157 ++ [(⟨77, 0, 0, 0, 0⟩ : S25)] : List (S25))).bind fun y160 => (if 0 ≤ (l0.length : Int) then (if (l0.length : Int) ≤ (y160.length : Int) then ((some (y160.take ((l0.length : Int) : Int).toNat : List (S25))).bind fun y163 => ((meter_Series.f k y163 a1 a2).bind fun bt167 => ((meter_Series.f k y163 a1 a2).bind fun bt171 => ((pylonref12_Series.f k l0 a1 a2).bind fun bt175 => ((pylonref12_SameSeries.f k bt167.1 bt175.1).bind fun t179 => (if t179 = true then ((pylonref11_SameReads.f k y163 l0).bind fun t180 => (if t180 = true then (if (l0.length : Int) < (y160.length : Int) then (pylonlaw12_MeterKeeps.j0 k bt167.1 bt171.1 bt175.1 (((rd_T25 y160 (l0.length : Int)).f0) != 77)) else (none)) else (pylonlaw12_MeterKeeps.j0 k bt167.1 bt171.1 bt175.1 true))) else (pylonlaw12_MeterKeeps.j0 k bt167.1 bt171.1 bt175.1 true))))))) else (none)) else (none))) else (none))) else (none))) else (some false)) = some r := H
  have A4 := Aside0.mk A40
  clear A40
  by_cases c5 : t153 = true
  · subst c5
    have H1 : ((some (([] : List (S25)) : List (S25))).bind fun y154 => (if y154.length + l0.length < 3518437208883 then ((some (y154 ++ l0 : List (S25))).bind fun y157 => (if y157.length < 3518437208883 then ((some (y157 ++ [(⟨77, 0, 0, 0, 0⟩ : S25)] : List (S25))).bind fun y160 => (if 0 ≤ (l0.length : Int) then (if (l0.length : Int) ≤ (y160.length : Int) then ((some (y160.take ((l0.length : Int) : Int).toNat : List (S25))).bind fun y163 => ((meter_Series.f k y163 a1 a2).bind fun bt167 => ((meter_Series.f k y163 a1 a2).bind fun bt171 => ((pylonref12_Series.f k l0 a1 a2).bind fun bt175 => ((pylonref12_SameSeries.f k bt167.1 bt175.1).bind fun t179 => (if t179 = true then ((pylonref11_SameReads.f k y163 l0).bind fun t180 => (if t180 = true then (if (l0.length : Int) < (y160.length : Int) then (pylonlaw12_MeterKeeps.j0 k bt167.1 bt171.1 bt175.1 (((rd_T25 y160 (l0.length : Int)).f0) != 77)) else (none)) else (pylonlaw12_MeterKeeps.j0 k bt167.1 bt171.1 bt175.1 true))) else (pylonlaw12_MeterKeeps.j0 k bt167.1 bt171.1 bt175.1 true))))))) else (none)) else (none))) else (none))) else (none))) = some r := by rw [if_pos rfl] at H; exact H
    clear H
    have H := H1
    clear H1
    obtain ⟨y154, hy154⟩ : ∃ y_ : List (S25), y_ = (([] : List (S25))) := ⟨_, rfl⟩
    replace H : (if y154.length + l0.length < 3518437208883 then ((some (y154 ++ l0 : List (S25))).bind fun y157 => (if y157.length < 3518437208883 then ((some (y157 ++ [(⟨77, 0, 0, 0, 0⟩ : S25)] : List (S25))).bind fun y160 => (if 0 ≤ (l0.length : Int) then (if (l0.length : Int) ≤ (y160.length : Int) then ((some (y160.take ((l0.length : Int) : Int).toNat : List (S25))).bind fun y163 => ((meter_Series.f k y163 a1 a2).bind fun bt167 => ((meter_Series.f k y163 a1 a2).bind fun bt171 => ((pylonref12_Series.f k l0 a1 a2).bind fun bt175 => ((pylonref12_SameSeries.f k bt167.1 bt175.1).bind fun t179 => (if t179 = true then ((pylonref11_SameReads.f k y163 l0).bind fun t180 => (if t180 = true then (if (l0.length : Int) < (y160.length : Int) then (pylonlaw12_MeterKeeps.j0 k bt167.1 bt171.1 bt175.1 (((rd_T25 y160 (l0.length : Int)).f0) != 77)) else (none)) else (pylonlaw12_MeterKeeps.j0 k bt167.1 bt171.1 bt175.1 true))) else (pylonlaw12_MeterKeeps.j0 k bt167.1 bt171.1 bt175.1 true))))))) else (none)) else (none))) else (none))) else (none)) = some r := by first | (rw [hy154]; with_reducible exact H) | (have H2_ := (Option.bind_some _ _).symm.trans H; rw [hy154]; with_reducible exact H2_) | (have H2_ := (Option.bind_some _ _).symm.trans H; with_reducible exact H2_) | with_reducible exact H | (rw [hy154]; exact H) | exact H
    have Ny154 := Aside0.mk hy154
    clear hy154
    by_cases c6 : y154.length + l0.length < 3518437208883
    · rw [if_pos c6] at H
      have LMc6 := Aside0.mk c6
      clear c6
      obtain ⟨y157, hy157⟩ : ∃ y_ : List (S25), y_ = (y154 ++ l0) := ⟨_, rfl⟩
      replace H : (if y157.length < 3518437208883 then ((some (y157 ++ [(⟨77, 0, 0, 0, 0⟩ : S25)] : List (S25))).bind fun y160 => (if 0 ≤ (l0.length : Int) then (if (l0.length : Int) ≤ (y160.length : Int) then ((some (y160.take ((l0.length : Int) : Int).toNat : List (S25))).bind fun y163 => ((meter_Series.f k y163 a1 a2).bind fun bt167 => ((meter_Series.f k y163 a1 a2).bind fun bt171 => ((pylonref12_Series.f k l0 a1 a2).bind fun bt175 => ((pylonref12_SameSeries.f k bt167.1 bt175.1).bind fun t179 => (if t179 = true then ((pylonref11_SameReads.f k y163 l0).bind fun t180 => (if t180 = true then (if (l0.length : Int) < (y160.length : Int) then (pylonlaw12_MeterKeeps.j0 k bt167.1 bt171.1 bt175.1 (((rd_T25 y160 (l0.length : Int)).f0) != 77)) else (none)) else (pylonlaw12_MeterKeeps.j0 k bt167.1 bt171.1 bt175.1 true))) else (pylonlaw12_MeterKeeps.j0 k bt167.1 bt171.1 bt175.1 true))))))) else (none)) else (none))) else (none)) = some r := by first | (rw [hy157]; with_reducible exact H) | (have H2_ := (Option.bind_some _ _).symm.trans H; rw [hy157]; with_reducible exact H2_) | (have H2_ := (Option.bind_some _ _).symm.trans H; with_reducible exact H2_) | with_reducible exact H | (rw [hy157]; exact H) | exact H
      have Ny157 := Aside0.mk hy157
      clear hy157
      by_cases c7 : y157.length < 3518437208883
      · rw [if_pos c7] at H
        have LMc7 := Aside0.mk c7
        clear c7
        obtain ⟨y160, hy160⟩ : ∃ y_ : List (S25), y_ = (y157 ++ [(⟨77, 0, 0, 0, 0⟩ : S25)]) := ⟨_, rfl⟩
        replace H : (if 0 ≤ (l0.length : Int) then (if (l0.length : Int) ≤ (y160.length : Int) then ((some (y160.take ((l0.length : Int) : Int).toNat : List (S25))).bind fun y163 => ((meter_Series.f k y163 a1 a2).bind fun bt167 => ((meter_Series.f k y163 a1 a2).bind fun bt171 => ((pylonref12_Series.f k l0 a1 a2).bind fun bt175 => ((pylonref12_SameSeries.f k bt167.1 bt175.1).bind fun t179 => (if t179 = true then ((pylonref11_SameReads.f k y163 l0).bind fun t180 => (if t180 = true then (if (l0.length : Int) < (y160.length : Int) then (pylonlaw12_MeterKeeps.j0 k bt167.1 bt171.1 bt175.1 (((rd_T25 y160 (l0.length : Int)).f0) != 77)) else (none)) else (pylonlaw12_MeterKeeps.j0 k bt167.1 bt171.1 bt175.1 true))) else (pylonlaw12_MeterKeeps.j0 k bt167.1 bt171.1 bt175.1 true))))))) else (none)) else (none)) = some r := by first | (rw [hy160]; with_reducible exact H) | (have H2_ := (Option.bind_some _ _).symm.trans H; rw [hy160]; with_reducible exact H2_) | (have H2_ := (Option.bind_some _ _).symm.trans H; with_reducible exact H2_) | with_reducible exact H | (rw [hy160]; exact H) | exact H
        have Ny160 := Aside0.mk hy160
        clear hy160
        by_cases c8 : 0 ≤ (l0.length : Int)
        · rw [if_pos c8] at H
          have c8b0 := eq_true c8
          have c8b1 : decide (0 ≤ (l0.length : Int)) = true := decide_eq_true c8
          clear c8
          by_cases c9 : (l0.length : Int) ≤ (y160.length : Int)
          · rw [if_pos c9] at H
            have c9b0 := eq_true c9
            have c9b1 : decide ((l0.length : Int) ≤ (y160.length : Int)) = true := decide_eq_true c9
            clear c9
            obtain ⟨y163, hy163⟩ : ∃ y_ : List (S25), y_ = (y160.take ((l0.length : Int) : Int).toNat) := ⟨_, rfl⟩
            replace H : ((meter_Series.f k y163 a1 a2).bind fun bt167 => ((meter_Series.f k y163 a1 a2).bind fun bt171 => ((pylonref12_Series.f k l0 a1 a2).bind fun bt175 => ((pylonref12_SameSeries.f k bt167.1 bt175.1).bind fun t179 => (if t179 = true then ((pylonref11_SameReads.f k y163 l0).bind fun t180 => (if t180 = true then (if (l0.length : Int) < (y160.length : Int) then (pylonlaw12_MeterKeeps.j0 k bt167.1 bt171.1 bt175.1 (((rd_T25 y160 (l0.length : Int)).f0) != 77)) else (none)) else (pylonlaw12_MeterKeeps.j0 k bt167.1 bt171.1 bt175.1 true))) else (pylonlaw12_MeterKeeps.j0 k bt167.1 bt171.1 bt175.1 true)))))) = some r := by first | (rw [hy163]; with_reducible exact H) | (have H2_ := (Option.bind_some _ _).symm.trans H; rw [hy163]; with_reducible exact H2_) | (have H2_ := (Option.bind_some _ _).symm.trans H; with_reducible exact H2_) | with_reducible exact H | (rw [hy163]; exact H) | exact H
            have Ny163 := Aside0.mk hy163
            clear hy163
            replace H := Option.bind_eq_some_iff.mp H
            obtain ⟨⟨t167, t168⟩, A100, H⟩ := H
            replace H : ((meter_Series.f k y163 a1 a2).bind fun bt171 => ((pylonref12_Series.f k l0 a1 a2).bind fun bt175 => ((pylonref12_SameSeries.f k t167 bt175.1).bind fun t179 => (if t179 = true then ((pylonref11_SameReads.f k y163 l0).bind fun t180 => (if t180 = true then (if (l0.length : Int) < (y160.length : Int) then (pylonlaw12_MeterKeeps.j0 k t167 bt171.1 bt175.1 (((rd_T25 y160 (l0.length : Int)).f0) != 77)) else (none)) else (pylonlaw12_MeterKeeps.j0 k t167 bt171.1 bt175.1 true))) else (pylonlaw12_MeterKeeps.j0 k t167 bt171.1 bt175.1 true))))) = some r := H
            have A10 := Aside0.mk A100
            clear A100
            replace H := Option.bind_eq_some_iff.mp H
            obtain ⟨⟨t171, t172⟩, A110, H⟩ := H
            replace H : ((pylonref12_Series.f k l0 a1 a2).bind fun bt175 => ((pylonref12_SameSeries.f k t167 bt175.1).bind fun t179 => (if t179 = true then ((pylonref11_SameReads.f k y163 l0).bind fun t180 => (if t180 = true then (if (l0.length : Int) < (y160.length : Int) then (pylonlaw12_MeterKeeps.j0 k t167 t171 bt175.1 (((rd_T25 y160 (l0.length : Int)).f0) != 77)) else (none)) else (pylonlaw12_MeterKeeps.j0 k t167 t171 bt175.1 true))) else (pylonlaw12_MeterKeeps.j0 k t167 t171 bt175.1 true)))) = some r := H
            have A11 := Aside0.mk A110
            clear A110
            replace H := Option.bind_eq_some_iff.mp H
            obtain ⟨⟨t175, t176⟩, A120, H⟩ := H
            replace H : ((pylonref12_SameSeries.f k t167 t175).bind fun t179 => (if t179 = true then ((pylonref11_SameReads.f k y163 l0).bind fun t180 => (if t180 = true then (if (l0.length : Int) < (y160.length : Int) then (pylonlaw12_MeterKeeps.j0 k t167 t171 t175 (((rd_T25 y160 (l0.length : Int)).f0) != 77)) else (none)) else (pylonlaw12_MeterKeeps.j0 k t167 t171 t175 true))) else (pylonlaw12_MeterKeeps.j0 k t167 t171 t175 true))) = some r := H
            have A12 := Aside0.mk A120
            clear A120
            have HC13 := Aside0.mk H
            clear H
            go_enter Try.func11, Try.ntmps11
            go_upto_region 8 with (first | ((with_reducible refine gate_callee (f := 20) rfl ?_); refine goesL_ (some 17) rfl rfl Try.func20 (by kernel_rfl) rfl #[] rfl (by (try simp only [List.map_toArray, List.map_cons, List.map_nil]); first | done | rfl | (simp only [List.length_drop, List.length_take]; rfl)) ?_; (with_reducible refine (pylonlaw12_awake.calls k  true _ A4.out).mono ?_); rintro e w14 ⟨rfl, hb⟩; refine ⟨_, rfl, ?_⟩; have n0_ := Aside0.mk (below_step (by repeat (first | (with_reducible first | exact HB.out | apply below_alloc | apply pw_below_drewN | apply below_drew1) | exact HB.out)) hb); clear HB; have HB := n0_; clear n0_; (try clear hb); (try clear hb2); (try clear hk); (try clear hi)) | ((with_reducible refine gate_dst (N := 19) rfl ?_); (try (refine gate_guard (by rfl) ?_; dsimp only)); refine Kd.R_lit k25 _ 25 ?hg (N := 19) ?hd (xs := ([] : List (S25))) (inner := []) (ok := fun _ => True) (okp := fun _ => True) ?hr ?hp (fun _ hk => hk) trivial (Below.refl _ _) (Nat.le_refl _) (by simp) ?_; (case hd => rfl); (case hg => rfl); (case hr => first | (go_simp; done) | (go_simp; rfl)); (case hp => exact (Reps.none _ _)); intro v155 w15 ho16 hb hg_ hnew_; clear hg_ hnew_; (first | rw [← Ny154.out] at ho16 | (simp only [Int.reduceToNat] at ho16; rw [← Ny154.out] at ho16)); have n0_ := Aside0.mk (Kd.R_lower ho16 (below_size (by repeat (first | (with_reducible first | exact HB.out | apply below_alloc | apply pw_below_drewN | apply below_drew1) | exact HB.out)))); have n1_ := Aside0.mk (below_step (by repeat (first | (with_reducible first | exact HB.out | apply below_alloc | apply pw_below_drewN | apply below_drew1) | exact HB.out)) hb); clear HB; have HO156 := n0_; have HB := n1_; clear n0_ n1_; clear hb ho16) | ((with_reducible refine gate_builtin (b := .append) (xs := #[.tmp 19, .tmp 20]) rfl ?_); (try (refine gate_guard (by rfl) ?_; dsimp only)); at_builtin; refine Kd.R_append_rows k25 (w0 := w) w.heap.size rfl (.tmp 19) (.tmp 20) 22 25 (.agg #[(.int .i64 0), (.int .i64 0), (.int .i64 0), (.int .i64 0), (.int .u8 0)]) 40 rfl Try.underlying22 info25 rfl (by decide) (by omega) v155 y154 l0 _ _ _ (fun _ => True) (fun _ => False) rfl rfl ?aO ?aR (fun _ _ h => h) (fun _ h => h.elim) ?aF ?aB ?aS ?aL ?_; (case aR => repeat (first | exact (Kd.C_below HR0.out HB.out) | (with_reducible refine Kd.C_alloc ?_ _) | (with_reducible refine Kd.C_drewN ?_ _) | (with_reducible refine Kd.C_drew ?_))); (case aB => exact (by repeat (first | (with_reducible first | exact HB.out | apply below_alloc | apply pw_below_drewN | apply below_drew1) | exact HB.out))); (case aF => exact (fun _ _ => trivial)); (case aO => exact (by (with_reducible repeat (first | apply Kd.R_alloc | apply Kd.R_drewN | apply Kd.R_drew)); exact HO156.out)); (case aS => exact (below_size (by repeat (first | (with_reducible first | exact HB.out | apply below_alloc | apply pw_below_drewN | apply below_drew1) | exact HB.out)))); (case aL => have := LMc6.out; omega); intro v158 w17 ho hb hg hat; rw [← Ny157.out] at ho; have n0_ := Aside0.mk (hb); have n1_ := Aside0.mk (ho); clear HB; clear HO156; have HB := n0_; have HO159 := n1_; clear n0_ n1_; clear ho hb hg hat) | ((with_reducible refine gate_builtin (b := .append) (xs := #[.tmp 21, .tmp 23]) rfl ?_); (try (refine gate_guard (by rfl) ?_; dsimp only)); at_builtin; refine Kd.R_append k25 (w0 := w) w.heap.size rfl (.tmp 21) (.tmp 23) 22 25 (.agg #[(.int .i64 0), (.int .i64 0), (.int .i64 0), (.int .i64 0), (.int .u8 0)]) 40 rfl Try.underlying22 info25 rfl (by decide) (by omega) v158 y157 (⟨77, 0, 0, 0, 0⟩ : S25) [.int .i64 77, .int .i64 0, .int .i64 0, .int .i64 0, .int .u8 0] (fun _ => True) (fun _ => False) rfl rfl ?aP (fun _ hk => hk.elim) ?aF ?aO ?aB ?aS ?aL ?_; (case aP => exact k25_mkM _ _ _ (⟨77, 0, 0, 0, 0⟩ : S25)); (case aB => exact (by repeat (first | (with_reducible first | exact HB.out | apply below_alloc | apply pw_below_drewN | apply below_drew1) | exact HB.out))); (case aF => exact (fun _ _ => trivial)); (case aO => exact (by (with_reducible repeat (first | apply Kd.R_alloc | apply Kd.R_drewN | apply Kd.R_drew)); exact HO159.out)); (case aS => exact (below_size (by repeat (first | (with_reducible first | exact HB.out | apply below_alloc | apply pw_below_drewN | apply below_drew1) | exact HB.out)))); (case aL => have := LMc7.out; omega); intro v161 w18 ho hb hg hat; rw [← Ny160.out] at ho; have n0_ := Aside0.mk (hb); have n1_ := Aside0.mk (ho); clear HB; clear HO159; have HB := n0_; have HO162 := n1_; clear n0_ n1_; clear ho hb hg hat; obtain ⟨Ao20, co20, eo20⟩ := Kd.R_slice HO162.out; subst eo20; have q19 : ((l0.length : Int) : Int) ≤ ((y160.length : Int) : Int) := of_decide_eq_true (by first | (with_reducible assumption) | assumption); obtain ⟨i019, hi019, _, hsz19, _⟩ := info_parts info25; have hroom19 : y160.length ≤ co20 := (Kd.R_reads' HO162.out).2.1; have hC19 : Kd.C k25 _ Ao20 y160.length y160 := (Kd.R_reads' HO162.out).2.2; have hcut19 := cut_to (P := Try.prog) 22 25 .i64 Try.underlying22 hi019 Ao20 y160.length co20 (l0.length : Int) (of_decide_eq_true (by first | (with_reducible assumption) | assumption)) q19 hroom19; have hr19 := Kd.C_take (m := ((l0.length : Int) : Int).toNat) hC19 (by omega); have hy19 : y163.length = ((l0.length : Int) : Int).toNat := (by rw [Ny163.out, List.length_take]; omega); rw [← Ny163.out] at hr19; rw [← hy19] at hcut19; have HR166 := Aside0.mk hr19; have HC166 := Aside0.mk (show y163.length ≤ co20 from by omega); clear hr19 hC19 hroom19 hi019 hsz19; have KY19 := Aside0.mk hy19; clear hy19; have KL19 := Aside0.mk (show ((l0.length : Int) : Int).toNat ≤ y160.length from by omega); replace q19 := eq_true q19) | ((with_reducible refine gate_callee (f := 21) rfl ?_); refine goesL_ (some 33) rfl rfl Try.func21 (by kernel_rfl) rfl #[.slice Ao20 y163.length co20, .int .i64 a1, .int .i64 a2] rfl (by (try simp only [List.map_toArray, List.map_cons, List.map_nil]); first | done | rfl | (simp only [List.length_drop, List.length_take]; rfl)) ?_; (with_reducible refine (meter_Series.calls k _ _ y163 a1 a2 t167 t168 _ ?side1 ?side2 A10.out).mono ?_); (case side1 => repeat (first | exact (by repeat (first | (with_reducible exact HR166.out) | (with_reducible refine Kd.C_alloc ?_ _) | (with_reducible refine Kd.C_drewN ?_ _) | (with_reducible refine Kd.C_drew ?_) | exact HR166.out)) | (with_reducible refine Kd.C_alloc ?_ _) | (with_reducible refine Kd.C_drewN ?_ _) | (with_reducible refine Kd.C_drew ?_))); (case side2 => exact HC166.out); clear A10; rintro e w21 ⟨v169, rfl, ho0, hb⟩; refine ⟨_, rfl, ?_⟩; have n0_ := Aside0.mk (Kd.R_below (by (with_reducible repeat (first | apply Kd.R_alloc | apply Kd.R_drewN | apply Kd.R_drew)); exact HO162.out) hb); have n1_ := Aside0.mk (Kd.R_lower ho0 (below_size (by repeat (first | (with_reducible first | exact HB.out | apply below_alloc | apply pw_below_drewN | apply below_drew1) | exact HB.out)))); have n2_ := Aside0.mk (Kd.C_below (by repeat (first | (with_reducible exact HR166.out) | (with_reducible refine Kd.C_alloc ?_ _) | (with_reducible refine Kd.C_drewN ?_ _) | (with_reducible refine Kd.C_drew ?_) | exact HR166.out)) hb); have n3_ := Aside0.mk (below_step (by repeat (first | (with_reducible first | exact HB.out | apply below_alloc | apply pw_below_drewN | apply below_drew1) | exact HB.out)) hb); clear HO162; clear HR166; clear HB; have HO162 := n0_; have HO170 := n1_; have HR166 := n2_; have HB := n3_; clear n0_ n1_ n2_ n3_; (try clear hb); (try clear hb2); (try clear hk); (try clear hi); (try clear ho0)) | ((with_reducible refine gate_callee (f := 21) rfl ?_); refine goesL_ (some 40) rfl rfl Try.func21 (by kernel_rfl) rfl #[.slice Ao20 y163.length co20, .int .i64 a1, .int .i64 a2] rfl (by (try simp only [List.map_toArray, List.map_cons, List.map_nil]); first | done | rfl | (simp only [List.length_drop, List.length_take]; rfl)) ?_; (with_reducible refine (meter_Series.calls k _ _ y163 a1 a2 t171 t172 _ ?side1 ?side2 A11.out).mono ?_); (case side1 => repeat (first | exact (by repeat (first | (with_reducible exact HR166.out) | (with_reducible refine Kd.C_alloc ?_ _) | (with_reducible refine Kd.C_drewN ?_ _) | (with_reducible refine Kd.C_drew ?_) | exact HR166.out)) | (with_reducible refine Kd.C_alloc ?_ _) | (with_reducible refine Kd.C_drewN ?_ _) | (with_reducible refine Kd.C_drew ?_))); (case side2 => exact HC166.out); clear A11; rintro e w22 ⟨v173, rfl, ho0, hb⟩; refine ⟨_, rfl, ?_⟩; have n0_ := Aside0.mk (Kd.R_below (by (with_reducible repeat (first | apply Kd.R_alloc | apply Kd.R_drewN | apply Kd.R_drew)); exact HO162.out) hb); have n1_ := Aside0.mk (Kd.R_elder' (by (with_reducible repeat (first | apply Kd.R_alloc | apply Kd.R_drewN | apply Kd.R_drew)); exact HO170.out) (Kd.R_base ho0) hb); have n2_ := Aside0.mk (Kd.R_lower (Kd.R_new' ho0 (Kd.R_lt (by (with_reducible repeat (first | apply Kd.R_alloc | apply Kd.R_drewN | apply Kd.R_drew)); exact HO170.out))) (below_size (by repeat (first | (with_reducible first | exact HB.out | apply below_alloc | apply pw_below_drewN | apply below_drew1) | exact HB.out)))); have n3_ := Aside0.mk (Kd.C_below (by repeat (first | (with_reducible exact HR166.out) | (with_reducible refine Kd.C_alloc ?_ _) | (with_reducible refine Kd.C_drewN ?_ _) | (with_reducible refine Kd.C_drew ?_) | exact HR166.out)) hb); have n4_ := Aside0.mk (below_step (by repeat (first | (with_reducible first | exact HB.out | apply below_alloc | apply pw_below_drewN | apply below_drew1) | exact HB.out)) hb); clear HO162; clear HO170; clear HR166; clear HB; have HO162 := n0_; have HO170 := n1_; have HO174 := n2_; have HR166 := n3_; have HB := n4_; clear n0_ n1_ n2_ n3_ n4_; (try clear hb); (try clear hb2); (try clear hk); (try clear hi); (try clear ho0)) | ((with_reducible refine gate_callee (f := 42) rfl ?_); refine goesL_ (some 47) rfl rfl Try.func42 (by kernel_rfl) rfl #[.slice A0 l0.length c0, .int .i64 a1, .int .i64 a2] rfl (by (try simp only [List.map_toArray, List.map_cons, List.map_nil]); first | done | rfl | (simp only [List.length_drop, List.length_take]; rfl)) ?_; (with_reducible refine (pylonref12_Series.calls k _ _ l0 a1 a2 t175 t176 _ ?side1 ?side2 A12.out).mono ?_); (case side1 => repeat (first | exact (Kd.C_below HR0.out HB.out) | (with_reducible refine Kd.C_alloc ?_ _) | (with_reducible refine Kd.C_drewN ?_ _) | (with_reducible refine Kd.C_drew ?_))); (case side2 => exact HC0.out); rintro e w23 ⟨v177, rfl, ho0, hb⟩; refine ⟨_, rfl, ?_⟩; have n0_ := Aside0.mk (Kd.R_below (by (with_reducible repeat (first | apply Kd.R_alloc | apply Kd.R_drewN | apply Kd.R_drew)); exact HO162.out) hb); have n1_ := Aside0.mk (Kd.R_elder' (by (with_reducible repeat (first | apply Kd.R_alloc | apply Kd.R_drewN | apply Kd.R_drew)); exact HO170.out) (Kd.R_base ho0) hb); have n2_ := Aside0.mk (Kd.R_elder' (by (with_reducible repeat (first | apply Kd.R_alloc | apply Kd.R_drewN | apply Kd.R_drew)); exact HO174.out) (Kd.R_base ho0) hb); have n3_ := Aside0.mk (Kd.R_lower (Kd.R_new' (Kd.R_new' ho0 (Kd.R_lt (by (with_reducible repeat (first | apply Kd.R_alloc | apply Kd.R_drewN | apply Kd.R_drew)); exact HO170.out))) (Kd.R_lt (by (with_reducible repeat (first | apply Kd.R_alloc | apply Kd.R_drewN | apply Kd.R_drew)); exact HO174.out))) (below_size (by repeat (first | (with_reducible first | exact HB.out | apply below_alloc | apply pw_below_drewN | apply below_drew1) | exact HB.out)))); have n4_ := Aside0.mk (Kd.C_below (by repeat (first | (with_reducible exact HR166.out) | (with_reducible refine Kd.C_alloc ?_ _) | (with_reducible refine Kd.C_drewN ?_ _) | (with_reducible refine Kd.C_drew ?_) | exact HR166.out)) hb); have n5_ := Aside0.mk (below_step (by repeat (first | (with_reducible first | exact HB.out | apply below_alloc | apply pw_below_drewN | apply below_drew1) | exact HB.out)) hb); clear HO162; clear HO170; clear HO174; clear HR166; clear HB; have HO162 := n0_; have HO170 := n1_; have HO174 := n2_; have HO178 := n3_; have HR166 := n4_; have HB := n5_; clear n0_ n1_ n2_ n3_ n4_ n5_; (try clear hb); (try clear hb2); (try clear hk); (try clear hi); (try clear ho0)))
            (try simp only [Act.put, List.setIfInBounds_toArray, List.set_cons_zero, List.set_cons_succ])
            go_cut [68] (fun v68 wc => ∃ (kq : Nat) (x68_12 : Bool), v68 = .bool x68_12 ∧ Aside0 (pylonlaw12_MeterKeeps.j0 kq t167 t171 t175 x68_12 = some r) ∧ Aside0 (kq ≤ k) ∧ Aside0 (Kd.R Kd.c128 31 wc w.heap.size (fun k_ => some k_ ≠ (v173 : Value).ownBlock ∧ some k_ ≠ (v177 : Value).ownBlock) v169 t167) ∧ Aside0 (Kd.R Kd.c128 31 wc w.heap.size (fun k_ => some k_ ≠ (v169 : Value).ownBlock ∧ some k_ ≠ (v177 : Value).ownBlock) v173 t171) ∧ Aside0 (Kd.R Kd.c128 31 wc w.heap.size (fun k_ => some k_ ≠ (v169 : Value).ownBlock ∧ some k_ ≠ (v173 : Value).ownBlock) v177 t175) ∧ Aside0 (Kd.C k25 wc Ao20 y163.length y163) ∧ Aside0 (Below w.heap.size w wc))
            case first =>
              have H := HC13.out
              clear HC13
              replace H := Option.bind_eq_some_iff.mp H
              obtain ⟨t179, A240, H⟩ := H
              replace H : (if t179 = true then ((pylonref11_SameReads.f k y163 l0).bind fun t180 => (if t180 = true then (if (l0.length : Int) < (y160.length : Int) then (pylonlaw12_MeterKeeps.j0 k t167 t171 t175 (((rd_T25 y160 (l0.length : Int)).f0) != 77)) else (none)) else (pylonlaw12_MeterKeeps.j0 k t167 t171 t175 true))) else (pylonlaw12_MeterKeeps.j0 k t167 t171 t175 true)) = some r := H
              have A24 := Aside0.mk A240
              clear A240
              by_cases c25 : t179 = true
              · subst c25
                have H1 : ((pylonref11_SameReads.f k y163 l0).bind fun t180 => (if t180 = true then (if (l0.length : Int) < (y160.length : Int) then (pylonlaw12_MeterKeeps.j0 k t167 t171 t175 (((rd_T25 y160 (l0.length : Int)).f0) != 77)) else (none)) else (pylonlaw12_MeterKeeps.j0 k t167 t171 t175 true))) = some r := by rw [if_pos rfl] at H; exact H
                clear H
                have H := H1
                clear H1
                replace H := Option.bind_eq_some_iff.mp H
                obtain ⟨t180, A260, H⟩ := H
                replace H : (if t180 = true then (if (l0.length : Int) < (y160.length : Int) then (pylonlaw12_MeterKeeps.j0 k t167 t171 t175 (((rd_T25 y160 (l0.length : Int)).f0) != 77)) else (none)) else (pylonlaw12_MeterKeeps.j0 k t167 t171 t175 true)) = some r := H
                have A26 := Aside0.mk A260
                clear A260
                by_cases c27 : t180 = true
                · subst c27
                  have H1 : (if (l0.length : Int) < (y160.length : Int) then (pylonlaw12_MeterKeeps.j0 k t167 t171 t175 (((rd_T25 y160 (l0.length : Int)).f0) != 77)) else (none)) = some r := by rw [if_pos rfl] at H; exact H
                  clear H
                  have H := H1
                  clear H1
                  by_cases c28 : (l0.length : Int) < (y160.length : Int)
                  · rw [if_pos c28] at H
                    have c28b0 : decide ((l0.length : Int) < (y160.length : Int)) = true := decide_eq_true c28
                    have c28b1 : decide (l0.length < y160.length) = true := decide_eq_true (Int.ofNat_lt.mp c28)
                    clear c28
                    (first | rw [c28b0] | (simp only [i64_w, i32_w]; rw [c28b0]) | skip)
                    have H' := Aside0.mk H
                    clear H
                    obtain ⟨Ao29, co29, eo29⟩ := Kd.R_slice HO170.out
                    subst eo29
                    obtain ⟨Ao30, co30, eo30⟩ := Kd.R_slice HO178.out
                    subst eo30
                    go_wp2_with (first | ((with_reducible refine gate_callee (f := 22) rfl ?_); refine goesL_ (some 52) rfl rfl Try.func22 (by kernel_rfl) rfl #[.slice Ao29 t167.length co29, .slice Ao30 t175.length co30] rfl (by (try simp only [List.map_toArray, List.map_cons, List.map_nil]); first | done | rfl | (simp only [List.length_drop, List.length_take]; rfl)) ?_; (with_reducible refine (pylonref12_SameSeries.calls k _ _ t167 _ _ t175 true _ ?side1 ?side2 ?side3 ?side4 A24.out).mono ?_); (case side1 => repeat (first | exact (Kd.R_reads' HO170.out).2.2 | (with_reducible refine Kd.C_alloc ?_ _) | (with_reducible refine Kd.C_drewN ?_ _) | (with_reducible refine Kd.C_drew ?_))); (case side2 => exact (Kd.R_reads' HO170.out).2.1); (case side3 => repeat (first | exact (Kd.R_reads' HO178.out).2.2 | (with_reducible refine Kd.C_alloc ?_ _) | (with_reducible refine Kd.C_drewN ?_ _) | (with_reducible refine Kd.C_drew ?_))); (case side4 => exact (Kd.R_reads' HO178.out).2.1); rintro e w' ⟨rfl, ⟨nd, rfl⟩⟩; refine ⟨_, rfl, ?_⟩) | (go_at_call 43; (with_reducible refine (pylonref11_SameReads.calls k _ _ y163 _ _ l0 true _ ?side1 ?side2 ?side3 ?side4 A26.out).mono ?_); (case side1 => repeat (first | exact (by repeat (first | (with_reducible exact HR166.out) | (with_reducible refine Kd.C_alloc ?_ _) | (with_reducible refine Kd.C_drewN ?_ _) | (with_reducible refine Kd.C_drew ?_) | exact HR166.out)) | (with_reducible refine Kd.C_alloc ?_ _) | (with_reducible refine Kd.C_drewN ?_ _) | (with_reducible refine Kd.C_drew ?_))); (case side2 => exact HC166.out); (case side3 => repeat (first | exact (Kd.C_below HR0.out (by repeat (first | (with_reducible first | exact HB.out | apply below_alloc | apply pw_below_drewN | apply below_drew1) | exact HB.out))) | (with_reducible refine Kd.C_alloc ?_ _) | (with_reducible refine Kd.C_drewN ?_ _) | (with_reducible refine Kd.C_drew ?_))); (case side4 => exact HC0.out); rintro e w' ⟨rfl, ⟨nd, rfl⟩⟩; have p181 : 0 ≤ ((l0.length : Int) : Int) := of_decide_eq_true (by first | (with_reducible assumption) | assumption); have q181 : (l0.length : Int) < (y160.length : Int) := of_decide_eq_true (by first | (with_reducible assumption) | assumption); obtain ⟨ad181, e181, hx181_0, hx181_1, hx181_2, hx181_3, hx181_4⟩ := at_T25 (Kd.R_reads' HO162.out).2.2 (l0.length : Int) p181 q181; cases e181; (try simp only [Go.IntWalk.toNatUp] at hx181_0); (try simp only [Go.IntWalk.toNatUp] at hx181_1); (try simp only [Go.IntWalk.toNatUp] at hx181_2); (try simp only [Go.IntWalk.toNatUp] at hx181_3); (try simp only [Go.IntWalk.toNatUp] at hx181_4); replace p181 := eq_true p181; replace q181 := eq_true q181))
                    go_meet
                    case rel => exact ⟨_, ((((rd_T25 y160 (l0.length : Int)).f0) != 77)), (by first | rfl | (simp; done) | (simp [*]; done)), H', ⟨by first | omega | exact Nat.le_refl _⟩, ⟨by (with_reducible repeat (first | apply Kd.R_alloc | apply Kd.R_drewN | apply Kd.R_drew)); exact Kd.R_mono HO170.out (fun _ hk => ⟨hk.1.2, hk.2⟩)⟩, ⟨by (with_reducible repeat (first | apply Kd.R_alloc | apply Kd.R_drewN | apply Kd.R_drew)); exact Kd.R_mono HO174.out (fun _ hk => ⟨hk.1.2, hk.2⟩)⟩, ⟨by (with_reducible repeat (first | apply Kd.R_alloc | apply Kd.R_drewN | apply Kd.R_drew)); exact Kd.R_mono HO178.out (fun _ hk => ⟨hk.1.2, hk.2⟩)⟩, ⟨by repeat (first | (with_reducible exact HR166.out) | (with_reducible refine Kd.C_alloc ?_ _) | (with_reducible refine Kd.C_drewN ?_ _) | (with_reducible refine Kd.C_drew ?_) | exact HR166.out)⟩, ⟨by repeat (first | (with_reducible first | exact HB.out | apply below_alloc | apply pw_below_drewN | apply below_drew1) | exact HB.out)⟩⟩
                  · rw [if_neg c28] at H
                    exact absurd H (by simp)
                · replace c27 := Bool.eq_false_iff.mpr c27
                  subst c27
                  have H1 : (pylonlaw12_MeterKeeps.j0 k t167 t171 t175 true) = some r := by rw [if_neg (show ¬ (false = true) by decide)] at H; exact H
                  clear H
                  have H := H1
                  clear H1
                  have H' := Aside0.mk H
                  clear H
                  obtain ⟨Ao31, co31, eo31⟩ := Kd.R_slice HO170.out
                  subst eo31
                  obtain ⟨Ao32, co32, eo32⟩ := Kd.R_slice HO178.out
                  subst eo32
                  go_wp2_with (first | ((with_reducible refine gate_callee (f := 22) rfl ?_); refine goesL_ (some 52) rfl rfl Try.func22 (by kernel_rfl) rfl #[.slice Ao31 t167.length co31, .slice Ao32 t175.length co32] rfl (by (try simp only [List.map_toArray, List.map_cons, List.map_nil]); first | done | rfl | (simp only [List.length_drop, List.length_take]; rfl)) ?_; (with_reducible refine (pylonref12_SameSeries.calls k _ _ t167 _ _ t175 true _ ?side1 ?side2 ?side3 ?side4 A24.out).mono ?_); (case side1 => repeat (first | exact (Kd.R_reads' HO170.out).2.2 | (with_reducible refine Kd.C_alloc ?_ _) | (with_reducible refine Kd.C_drewN ?_ _) | (with_reducible refine Kd.C_drew ?_))); (case side2 => exact (Kd.R_reads' HO170.out).2.1); (case side3 => repeat (first | exact (Kd.R_reads' HO178.out).2.2 | (with_reducible refine Kd.C_alloc ?_ _) | (with_reducible refine Kd.C_drewN ?_ _) | (with_reducible refine Kd.C_drew ?_))); (case side4 => exact (Kd.R_reads' HO178.out).2.1); rintro e w' ⟨rfl, ⟨nd, rfl⟩⟩; refine ⟨_, rfl, ?_⟩) | (go_at_call 43; (with_reducible refine (pylonref11_SameReads.calls k _ _ y163 _ _ l0 false _ ?side1 ?side2 ?side3 ?side4 A26.out).mono ?_); (case side1 => repeat (first | exact (by repeat (first | (with_reducible exact HR166.out) | (with_reducible refine Kd.C_alloc ?_ _) | (with_reducible refine Kd.C_drewN ?_ _) | (with_reducible refine Kd.C_drew ?_) | exact HR166.out)) | (with_reducible refine Kd.C_alloc ?_ _) | (with_reducible refine Kd.C_drewN ?_ _) | (with_reducible refine Kd.C_drew ?_))); (case side2 => exact HC166.out); (case side3 => repeat (first | exact (Kd.C_below HR0.out (by repeat (first | (with_reducible first | exact HB.out | apply below_alloc | apply pw_below_drewN | apply below_drew1) | exact HB.out))) | (with_reducible refine Kd.C_alloc ?_ _) | (with_reducible refine Kd.C_drewN ?_ _) | (with_reducible refine Kd.C_drew ?_))); (case side4 => exact HC0.out); rintro e w' ⟨rfl, ⟨nd, rfl⟩⟩))
                  go_meet
                  case rel => exact ⟨_, (true), (by first | rfl | (simp; done) | (simp [*]; done)), H', ⟨by first | omega | exact Nat.le_refl _⟩, ⟨by (with_reducible repeat (first | apply Kd.R_alloc | apply Kd.R_drewN | apply Kd.R_drew)); exact Kd.R_mono HO170.out (fun _ hk => ⟨hk.1.2, hk.2⟩)⟩, ⟨by (with_reducible repeat (first | apply Kd.R_alloc | apply Kd.R_drewN | apply Kd.R_drew)); exact Kd.R_mono HO174.out (fun _ hk => ⟨hk.1.2, hk.2⟩)⟩, ⟨by (with_reducible repeat (first | apply Kd.R_alloc | apply Kd.R_drewN | apply Kd.R_drew)); exact Kd.R_mono HO178.out (fun _ hk => ⟨hk.1.2, hk.2⟩)⟩, ⟨by repeat (first | (with_reducible exact HR166.out) | (with_reducible refine Kd.C_alloc ?_ _) | (with_reducible refine Kd.C_drewN ?_ _) | (with_reducible refine Kd.C_drew ?_) | exact HR166.out)⟩, ⟨by repeat (first | (with_reducible first | exact HB.out | apply below_alloc | apply pw_below_drewN | apply below_drew1) | exact HB.out)⟩⟩
              · replace c25 := Bool.eq_false_iff.mpr c25
                subst c25
                have H1 : (pylonlaw12_MeterKeeps.j0 k t167 t171 t175 true) = some r := by rw [if_neg (show ¬ (false = true) by decide)] at H; exact H
                clear H
                have H := H1
                clear H1
                have H' := Aside0.mk H
                clear H
                obtain ⟨Ao33, co33, eo33⟩ := Kd.R_slice HO170.out
                subst eo33
                obtain ⟨Ao34, co34, eo34⟩ := Kd.R_slice HO178.out
                subst eo34
                go_wp2_with (first | ((with_reducible refine gate_callee (f := 22) rfl ?_); refine goesL_ (some 52) rfl rfl Try.func22 (by kernel_rfl) rfl #[.slice Ao33 t167.length co33, .slice Ao34 t175.length co34] rfl (by (try simp only [List.map_toArray, List.map_cons, List.map_nil]); first | done | rfl | (simp only [List.length_drop, List.length_take]; rfl)) ?_; (with_reducible refine (pylonref12_SameSeries.calls k _ _ t167 _ _ t175 false _ ?side1 ?side2 ?side3 ?side4 A24.out).mono ?_); (case side1 => repeat (first | exact (Kd.R_reads' HO170.out).2.2 | (with_reducible refine Kd.C_alloc ?_ _) | (with_reducible refine Kd.C_drewN ?_ _) | (with_reducible refine Kd.C_drew ?_))); (case side2 => exact (Kd.R_reads' HO170.out).2.1); (case side3 => repeat (first | exact (Kd.R_reads' HO178.out).2.2 | (with_reducible refine Kd.C_alloc ?_ _) | (with_reducible refine Kd.C_drewN ?_ _) | (with_reducible refine Kd.C_drew ?_))); (case side4 => exact (Kd.R_reads' HO178.out).2.1); rintro e w' ⟨rfl, ⟨nd, rfl⟩⟩; refine ⟨_, rfl, ?_⟩))
                go_meet
                case rel => exact ⟨_, (true), (by first | rfl | (simp; done) | (simp [*]; done)), H', ⟨by first | omega | exact Nat.le_refl _⟩, ⟨by (with_reducible repeat (first | apply Kd.R_alloc | apply Kd.R_drewN | apply Kd.R_drew)); exact Kd.R_mono HO170.out (fun _ hk => ⟨hk.1.2, hk.2⟩)⟩, ⟨by (with_reducible repeat (first | apply Kd.R_alloc | apply Kd.R_drewN | apply Kd.R_drew)); exact Kd.R_mono HO174.out (fun _ hk => ⟨hk.1.2, hk.2⟩)⟩, ⟨by (with_reducible repeat (first | apply Kd.R_alloc | apply Kd.R_drewN | apply Kd.R_drew)); exact Kd.R_mono HO178.out (fun _ hk => ⟨hk.1.2, hk.2⟩)⟩, ⟨by repeat (first | (with_reducible exact HR166.out) | (with_reducible refine Kd.C_alloc ?_ _) | (with_reducible refine Kd.C_drewN ?_ _) | (with_reducible refine Kd.C_drew ?_) | exact HR166.out)⟩, ⟨by repeat (first | (with_reducible first | exact HB.out | apply below_alloc | apply pw_below_drewN | apply below_drew1) | exact HB.out)⟩⟩
            case rest =>
              clear HC13
              try clear c1
              try clear p1
              try clear q1
              try clear hx1
              try clear c2
              try clear p2
              try clear c4
              try clear c5
              try clear c6
              try clear c7
              try clear c8
              try clear c8b0
              try clear c8b1
              try clear c9
              try clear c9b0
              try clear c9b1
              try clear c11
              try clear c12
              try clear p18
              try clear q18
              try clear hx18
              try clear q19
              try clear c20
              try clear c21
              try clear c22
              try clear c25
              try clear c27
              try clear c28
              try clear c28b0
              try clear c28b1
              try clear hx181_0
              try clear hx181_1
              try clear hx181_2
              try clear hx181_3
              try clear hx181_4
              try clear p181
              try clear q181
              try clear q19
              obtain ⟨kq, x68_12, rfl, HA, HJ12, HO_9, HO_11, HO_13, HR166, HB⟩ := hcut
              cases kq with
              | zero => exact absurd HA.out (by simp [pylonlaw12_MeterKeeps.j0])
              | succ kj12 =>
                have H := HA.out
                clear HA
                simp only [pylonlaw12_MeterKeeps.j0] at H
                by_cases c35 : x68_12 = true
                · subst c35
                  have H1 : (some false) = some r := by rw [if_pos rfl] at H; exact H
                  clear H
                  have H := H1
                  clear H1
                  obtain rfl := Option.some.inj H
                  go_wp2
                  go_ret
                  exact ⟨by first | rfl | (simp [errW_none, errW_some] <;> rfl) | (simp [*, errW_none, errW_some] <;> rfl), by repeat (first | (with_reducible first | exact HB.out | apply below_alloc | apply pw_below_drewN | apply below_drew1) | exact HB.out)⟩
                · replace c35 := Bool.eq_false_iff.mpr c35
                  subst c35
                  have H1 : (pylonlaw12_MeterKeeps.l0 kj12 t167 t171 t175 (t167.length : Int) 0) = some r := by rw [if_neg (show ¬ (false = true) by decide)] at H; exact H
                  clear H
                  have H := H1
                  clear H1
                  have H' := Aside0.mk H
                  clear H
                  obtain ⟨Ao36, co36, eo36⟩ := Kd.R_slice HO_9.out
                  subst eo36
                  go_wp2
                  go_loopg [71] kj12 (fun kq v71 w' => ∃ (x9_2 : List Cx) (x71_2 : Int), v71 = .int .i64 x71_2 ∧ Aside0 (pylonlaw12_MeterKeeps.l0 kq x9_2 t171 t175 (t167.length : Int) x71_2 = some r) ∧ Aside0 (kq ≤ kj12) ∧ Aside0 (Kd.R Kd.c128 31 w' w.heap.size (fun k_ => some k_ ≠ (v173 : Value).ownBlock ∧ some k_ ≠ (v177 : Value).ownBlock) (.slice Ao36 t167.length co36) x9_2) ∧ Aside0 (Kd.R Kd.c128 31 w' w.heap.size (fun k_ => some k_ ≠ ((.slice Ao36 t167.length co36) : Value).ownBlock ∧ some k_ ≠ (v177 : Value).ownBlock) v173 t171) ∧ Aside0 (Kd.R Kd.c128 31 w' w.heap.size (fun k_ => some k_ ≠ ((.slice Ao36 t167.length co36) : Value).ownBlock ∧ some k_ ≠ (v173 : Value).ownBlock) v177 t175) ∧ Aside0 (Below w.heap.size w w'))
                  case atStart => exact ⟨(t167), (0), (by first | rfl | (simp; done) | (simp [*]; done)), H', ⟨Nat.le_refl _⟩, ⟨by (with_reducible repeat (first | apply Kd.R_alloc | apply Kd.R_drewN | apply Kd.R_drew)); exact HO_9.out⟩, ⟨by (with_reducible repeat (first | apply Kd.R_alloc | apply Kd.R_drewN | apply Kd.R_drew)); exact HO_11.out⟩, ⟨by (with_reducible repeat (first | apply Kd.R_alloc | apply Kd.R_drewN | apply Kd.R_drew)); exact HO_13.out⟩, ⟨by repeat (first | (with_reducible first | exact HB.out | apply below_alloc | apply pw_below_drewN | apply below_drew1) | exact HB.out)⟩⟩
                  case round =>
                    clear H'
                    try clear c1
                    try clear p1
                    try clear q1
                    try clear hx1
                    try clear c2
                    try clear p2
                    try clear c3
                    try clear c4
                    try clear c5
                    try clear c6
                    try clear c7
                    try clear c8
                    try clear c8b0
                    try clear c8b1
                    try clear c9
                    try clear c9b0
                    try clear c9b1
                    try clear c11
                    try clear c12
                    try clear p18
                    try clear q18
                    try clear hx18
                    try clear q19
                    try clear c20
                    try clear c21
                    try clear c22
                    try clear c25
                    try clear c27
                    try clear c28
                    try clear c28b0
                    try clear c28b1
                    try clear c35
                    try clear hx181_0
                    try clear hx181_1
                    try clear hx181_2
                    try clear hx181_3
                    try clear hx181_4
                    try clear p1
                    try clear p18
                    try clear p181
                    try clear p2
                    try clear q1
                    try clear q18
                    try clear q181
                    try clear q19
                    obtain ⟨x9_2, x71_2, rfl, HA, HK2, HO_9, HO_11, HO_13, HB⟩ := hrel
                    have hl9_2 := (Kd.R_reads' HO_9.out).1
                    rw [hl9_2] at HO_9
                    (try simp only [hl9_2])
                    (try simp only [hl9_2] at HO_11)
                    (try simp only [hl9_2] at HO_13)
                    cases gk with
                    | zero => exact absurd HA.out (by simp [pylonlaw12_MeterKeeps.l0])
                    | succ k2 =>
                      have H := HA.out
                      clear HA
                      simp only [pylonlaw12_MeterKeeps.l0] at H
                      by_cases c37 : x71_2 < (t167.length : Int)
                      · rw [if_pos c37] at H
                        have c37b0 : decide (x71_2 < (t167.length : Int)) = true := decide_eq_true c37
                        (try (have c37z0 := c37b0; simp only [hl9_2] at c37z0))
                        clear c37
                        by_cases c38 : 0 ≤ x71_2
                        · rw [if_pos c38] at H
                          have c38b0 : decide (0 ≤ x71_2) = true := decide_eq_true c38
                          clear c38
                          by_cases c39 : x71_2 < (x9_2.length : Int)
                          · rw [if_pos c39] at H
                            have c39b0 : decide (x71_2 < (x9_2.length : Int)) = true := decide_eq_true c39
                            (try (have c39z0 := c39b0; simp only [hl9_2] at c39z0))
                            clear c39
                            obtain ⟨y182, hy182⟩ : ∃ y_ : List Cx, y_ = (x9_2.set (x71_2 : Int).toNat (cx 0 4619567317775286272)) := ⟨_, rfl⟩
                            replace H : (pylonlaw12_MeterKeeps.l0 k2 y182 t171 t175 (t167.length : Int) (wrap64 (x71_2 + 1))) = some r := by first | (rw [hy182]; with_reducible exact H) | (have H2_ := (Option.bind_some _ _).symm.trans H; rw [hy182]; with_reducible exact H2_) | (have H2_ := (Option.bind_some _ _).symm.trans H; with_reducible exact H2_) | with_reducible exact H | (rw [hy182]; exact H) | exact H
                            have Ny182 := Aside0.mk hy182
                            clear hy182
                            have H' := Aside0.mk H
                            clear H
                            have p40 : 0 ≤ (x71_2 : Int) := of_decide_eq_true (by first | (with_reducible assumption) | assumption)
                            have q40 : (x71_2 : Int) < ((x9_2.length : Int) : Int) := of_decide_eq_true (by first | (with_reducible assumption) | assumption)
                            obtain ⟨go40, co40, eo40, gb40, gl40, cl40, HG40⟩ := Kd.R_form HO_9.out (by omega)
                            (first | cases eo40 | (injection eo40 with ea_ en_ ec_; (first | subst ea_ | (injection ea_ with ea_; subst ea_)); subst ec_; clear en_))
                            have GB40 := Aside0.mk gb40
                            have GG40 := Aside0.mk HG40
                            clear gb40 gl40 HG40
                            obtain ⟨hx40_0, hf40_0⟩ := Kd.R_celln (cx 0 0) HO_9.out (x71_2 : Int) p40 q40
                            replace p40 := eq_true p40
                            replace q40 := eq_true q40
                            have HP41 := Kd.R_putg HO_9.out (x71_2 : Int) (cx 0 4619567317775286272)
                            go_wp2_with (first | ((with_reducible refine gate_store (t := 31) (p := 76) rfl ?_); refine store_event (t := 31) (p := 76) (v := ?vo_w42) (w1 := (wr.setCell ⟨go40, (x71_2 : Int).toNat, none⟩ (.complex .f64 0 4619567317775286272))) ?hg ?ho ?hn ?hr ?_; (case ho => rfl); (case hg => rfl); (case hn => rfl); (case hr => first | (go_simp; done) | (go_simp; rfl)); intro w42 hw; have hg : wr.grownBy w42 (some go40) := (by rw [hw]; exact HP41.2); have hp_ : Kd.R Kd.c128 31 w42 w.heap.size (fun k_ => some k_ ≠ (v173 : Value).ownBlock ∧ some k_ ≠ (v177 : Value).ownBlock) (.slice (some ⟨go40, 0, none⟩) x9_2.length co36) y182 := (by rw [hw, Ny182.out]; exact HP41.1); clear HP41; have n0_ := Aside0.mk (hp_); have n1_ := Aside0.mk (Kd.R_after (v := (.slice (some ⟨go40, 0, none⟩) x9_2.length co36)) (v1 := (.slice (some ⟨go40, 0, none⟩) x9_2.length co36)) (ok := (fun k_ => some k_ ≠ (v177 : Value).ownBlock)) (by (with_reducible repeat (first | apply Kd.R_alloc | apply Kd.R_drewN | apply Kd.R_drew)); exact Kd.R_mono HO_11.out (fun _ hk => ⟨hk.2, hk.1⟩)) hg (.inl rfl)); have n2_ := Aside0.mk (Kd.R_after (v := (.slice (some ⟨go40, 0, none⟩) x9_2.length co36)) (v1 := (.slice (some ⟨go40, 0, none⟩) x9_2.length co36)) (ok := (fun k_ => some k_ ≠ (v173 : Value).ownBlock)) (by (with_reducible repeat (first | apply Kd.R_alloc | apply Kd.R_drewN | apply Kd.R_drew)); exact Kd.R_mono HO_13.out (fun _ hk => ⟨hk.2, hk.1⟩)) hg (.inl rfl)); have n3_ := Aside0.mk ((by rw [hw]; exact below_set (HB.out) GB40.out : Below w.heap.size w w42)); clear HO_9; clear HO_11; clear HO_13; clear HB; have HO_9 := n0_; have HO_11 := n1_; have HO_13 := n2_; have HB := n3_; clear n0_ n1_ n2_ n3_; clear hg hw hp_))
                            (try simp only [← hl9_2])
                            go_roundg k2
                            case measure => have := HJ12.out; have := HK2.out; omega
                            case rel => exact ⟨(y182), (wrap64 (x71_2 + 1)), (by first | rfl | (simp; done) | (simp [*]; done)), H', ⟨by have := HJ12.out; have := HK2.out; omega⟩, ⟨by (try simp only [hl9_2]); (with_reducible repeat (first | apply Kd.R_alloc | apply Kd.R_drewN | apply Kd.R_drew)); exact HO_9.out⟩, ⟨by (try simp only [hl9_2]); (with_reducible repeat (first | apply Kd.R_alloc | apply Kd.R_drewN | apply Kd.R_drew)); exact Kd.R_mono HO_11.out (fun _ hk => ⟨hk.2, hk.1⟩)⟩, ⟨by (try simp only [hl9_2]); (with_reducible repeat (first | apply Kd.R_alloc | apply Kd.R_drewN | apply Kd.R_drew)); exact Kd.R_mono HO_13.out (fun _ hk => ⟨hk.2, hk.1⟩)⟩, ⟨by repeat (first | (with_reducible first | exact HB.out | apply below_alloc | apply pw_below_drewN | apply below_drew1) | exact HB.out)⟩⟩
                          · rw [if_neg c39] at H
                            exact absurd H (by simp)
                        · rw [if_neg c38] at H
                          exact absurd H (by simp)
                      · rw [if_neg c37] at H
                        have c37b0 : decide (x71_2 < (t167.length : Int)) = false := decide_eq_false c37
                        (try (have c37z0 := c37b0; simp only [hl9_2] at c37z0))
                        clear c37
                        have H' := Aside0.mk H
                        clear H
                        go_wp2
                        go_loopg [9, 78] k2 (fun kq v9 v78 w' => ∃ (x9_3 : List Cx) (x78_3 : Int), v78 = .int .i64 x78_3 ∧ Aside0 (pylonlaw12_MeterKeeps.l1 kq x9_3 t171 t175 x78_3 = some r) ∧ Aside0 (kq ≤ k2) ∧ Aside0 (Kd.R Kd.c128 31 w' w.heap.size (fun k_ => some k_ ≠ (v173 : Value).ownBlock ∧ some k_ ≠ (v177 : Value).ownBlock) v9 x9_3) ∧ Aside0 (Kd.R Kd.c128 31 w' w.heap.size (fun k_ => some k_ ≠ (v9 : Value).ownBlock ∧ some k_ ≠ (v177 : Value).ownBlock) v173 t171) ∧ Aside0 (Kd.R Kd.c128 31 w' w.heap.size (fun k_ => some k_ ≠ (v9 : Value).ownBlock ∧ some k_ ≠ (v173 : Value).ownBlock) v177 t175) ∧ Aside0 (Below w.heap.size w w'))
                        case atStart => exact ⟨(x9_2), (0), (by first | rfl | (simp; done) | (simp [*]; done)), H', ⟨Nat.le_refl _⟩, ⟨by (try simp only [hl9_2]); (with_reducible repeat (first | apply Kd.R_alloc | apply Kd.R_drewN | apply Kd.R_drew)); exact HO_9.out⟩, ⟨by (try simp only [hl9_2]); (with_reducible repeat (first | apply Kd.R_alloc | apply Kd.R_drewN | apply Kd.R_drew)); exact HO_11.out⟩, ⟨by (try simp only [hl9_2]); (with_reducible repeat (first | apply Kd.R_alloc | apply Kd.R_drewN | apply Kd.R_drew)); exact HO_13.out⟩, ⟨by repeat (first | (with_reducible first | exact HB.out | apply below_alloc | apply pw_below_drewN | apply below_drew1) | exact HB.out)⟩⟩
                        case round =>
                          clear H'
                          try clear c1
                          try clear p1
                          try clear q1
                          try clear hx1
                          try clear c2
                          try clear p2
                          try clear c3
                          try clear c4
                          try clear p4
                          try clear q4
                          try clear hx4
                          try clear hf4
                          try clear c5
                          try clear c6
                          try clear p6
                          try clear c7
                          try clear c8
                          try clear c8b0
                          try clear c8b1
                          try clear c9
                          try clear c9b0
                          try clear c9b1
                          try clear c11
                          try clear c12
                          try clear p18
                          try clear q18
                          try clear hx18
                          try clear q19
                          try clear c20
                          try clear c21
                          try clear c22
                          try clear c25
                          try clear c27
                          try clear c28
                          try clear c28b0
                          try clear c28b1
                          try clear c35
                          try clear c37
                          try clear c37b0
                          try clear c38
                          try clear c38b0
                          try clear c39
                          try clear c39b0
                          try clear p40
                          try clear q40
                          try clear hx40
                          try clear hf40
                          try clear c42
                          try clear hx181_0
                          try clear hx181_1
                          try clear hx181_2
                          try clear hx181_3
                          try clear hx181_4
                          try clear hx40_0
                          try clear p1
                          try clear p18
                          try clear p181
                          try clear p2
                          try clear p40
                          try clear q1
                          try clear q18
                          try clear q181
                          try clear q19
                          try clear q40
                          obtain ⟨x9_3, x78_3, rfl, HA, HK3, HO_9, HO_11, HO_13, HB⟩ := hrel
                          cases gk with
                          | zero => exact absurd HA.out (by simp [pylonlaw12_MeterKeeps.l1])
                          | succ k3 =>
                            have H := HA.out
                            clear HA
                            simp only [pylonlaw12_MeterKeeps.l1] at H
                            by_cases c43 : x78_3 < 20
                            · rw [if_pos c43] at H
                              have c43b0 : decide (x78_3 < 20) = true := decide_eq_true c43
                              clear c43
                              by_cases c44 : x9_3.length < 8796093022208
                              · rw [if_pos c44] at H
                                have LMc44 := Aside0.mk c44
                                clear c44
                                obtain ⟨y183, hy183⟩ : ∃ y_ : List Cx, y_ = (x9_3 ++ [cx 0 4619567317775286272]) := ⟨_, rfl⟩
                                replace H : (pylonlaw12_MeterKeeps.l1 k3 y183 t171 t175 (wrap64 (x78_3 + 1))) = some r := by first | (rw [hy183]; with_reducible exact H) | (have H2_ := (Option.bind_some _ _).symm.trans H; rw [hy183]; with_reducible exact H2_) | (have H2_ := (Option.bind_some _ _).symm.trans H; with_reducible exact H2_) | with_reducible exact H | (rw [hy183]; exact H) | exact H
                                have Ny183 := Aside0.mk hy183
                                clear hy183
                                have H' := Aside0.mk H
                                clear H
                                go_wp2_with (first | ((with_reducible refine gate_builtin (b := .append) (xs := #[.tmp 80, .tmp 81]) rfl ?_); (try (refine gate_guard (by rfl) ?_; dsimp only)); at_builtin; refine Kd.R_append Kd.c128 (w0 := w) w.heap.size rfl (.tmp 80) (.tmp 81) 26 31 (.complex .f64 0 0) 16 rfl Try.underlying26 info31 rfl (by decide) (by omega) u9 x9_3 (cx 0 4619567317775286272) [.complex .f64 0 4619567317775286272] (fun k_ => some k_ ≠ (v173 : Value).ownBlock ∧ some k_ ≠ (v177 : Value).ownBlock) (fun _ => False) rfl rfl ?aP (fun _ hk => hk.elim) ?aF ?aO ?aB ?aS ?aL ?_; (case aP => exact rfl); (case aB => exact (by repeat (first | (with_reducible first | exact HB.out | apply below_alloc | apply pw_below_drewN | apply below_drew1) | exact HB.out))); (case aF => exact (fun k_ hk => ⟨Kd.fresh' (Kd.R_lt (by (with_reducible repeat (first | apply Kd.R_alloc | apply Kd.R_drewN | apply Kd.R_drew)); exact HO_11.out)) k_ hk, Kd.fresh' (Kd.R_lt (by (with_reducible repeat (first | apply Kd.R_alloc | apply Kd.R_drewN | apply Kd.R_drew)); exact HO_13.out)) k_ hk⟩)); (case aO => exact (by (with_reducible repeat (first | apply Kd.R_alloc | apply Kd.R_drewN | apply Kd.R_drew)); exact HO_9.out)); (case aS => exact (below_size (by repeat (first | (with_reducible first | exact HB.out | apply below_alloc | apply pw_below_drewN | apply below_drew1) | exact HB.out)))); (case aL => have := LMc44.out; omega); intro v184 w45 ho hb hg hat; rw [← Ny183.out] at ho; have n0_ := Aside0.mk (Kd.R_after (ok := (fun k_ => some k_ ≠ (v177 : Value).ownBlock)) (by (with_reducible repeat (first | apply Kd.R_alloc | apply Kd.R_drewN | apply Kd.R_drew)); exact Kd.R_mono HO_11.out (fun _ hk => ⟨hk.2, hk.1⟩)) hg hat); have n1_ := Aside0.mk (Kd.R_after (ok := (fun k_ => some k_ ≠ (v173 : Value).ownBlock)) (by (with_reducible repeat (first | apply Kd.R_alloc | apply Kd.R_drewN | apply Kd.R_drew)); exact Kd.R_mono HO_13.out (fun _ hk => ⟨hk.2, hk.1⟩)) hg hat); have n2_ := Aside0.mk (hb); have n3_ := Aside0.mk (ho); clear HO_11; clear HO_13; clear HB; clear HO_9; have HO_11 := n0_; have HO_13 := n1_; have HB := n2_; have HO185 := n3_; clear n0_ n1_ n2_ n3_; clear ho hb hg hat))
                                go_roundg k3
                                case measure => have := HJ12.out; have := HK2.out; have := HK3.out; omega
                                case rel => exact ⟨(y183), (wrap64 (x78_3 + 1)), (by first | rfl | (simp; done) | (simp [*]; done)), H', ⟨by have := HJ12.out; have := HK2.out; have := HK3.out; omega⟩, ⟨by (try simp only [hl9_2]); (with_reducible repeat (first | apply Kd.R_alloc | apply Kd.R_drewN | apply Kd.R_drew)); exact HO185.out⟩, ⟨by (try simp only [hl9_2]); (with_reducible repeat (first | apply Kd.R_alloc | apply Kd.R_drewN | apply Kd.R_drew)); exact Kd.R_mono HO_11.out (fun _ hk => ⟨hk.2, hk.1⟩)⟩, ⟨by (try simp only [hl9_2]); (with_reducible repeat (first | apply Kd.R_alloc | apply Kd.R_drewN | apply Kd.R_drew)); exact Kd.R_mono HO_13.out (fun _ hk => ⟨hk.2, hk.1⟩)⟩, ⟨by repeat (first | (with_reducible first | exact HB.out | apply below_alloc | apply pw_below_drewN | apply below_drew1) | exact HB.out)⟩⟩
                              · rw [if_neg c44] at H
                                exact absurd H (by simp)
                            · rw [if_neg c43] at H
                              have c43b0 : decide (x78_3 < 20) = false := decide_eq_false c43
                              clear c43
                              obtain ⟨y186, hy186⟩ : ∃ y_ : List Cx, y_ = (([] : List Cx)) := ⟨_, rfl⟩
                              replace H : (if y186.length + t171.length < 8796093022208 then ((some (y186 ++ t171 : List Cx)).bind fun y189 => (if y189.length < 8796093022208 then ((some (y189 ++ [cx 4617315517961601024 0] : List Cx)).bind fun y192 => (if 0 ≤ (t171.length : Int) then (if (t171.length : Int) ≤ (y192.length : Int) then ((some (y192.take ((t171.length : Int) : Int).toNat : List Cx)).bind fun y195 => ((meter_Total.f k3 y195).bind fun bt199 => ((meter_Energy.f k3 y195).bind fun bt201 => ((pylonref12_SameSeries.f k3 t171 t175).bind fun t204 => (if t204 = true then ((pylonref12_SameSeries.f k3 y195 t175).bind fun t205 => (if t205 = true then (if (t171.length : Int) < (y192.length : Int) then (some (ceq (rdOf (cx 0 0) y192 (t171.length : Int)).re (rdOf (cx 0 0) y192 (t171.length : Int)).im 4617315517961601024 0)) else (none)) else (some false))) else (some false)))))) else (none)) else (none))) else (none))) else (none)) = some r := by first | (rw [hy186]; with_reducible exact H) | (have H2_ := (Option.bind_some _ _).symm.trans H; rw [hy186]; with_reducible exact H2_) | (have H2_ := (Option.bind_some _ _).symm.trans H; with_reducible exact H2_) | with_reducible exact H | (rw [hy186]; exact H) | exact H
                              have Ny186 := Aside0.mk hy186
                              clear hy186
                              by_cases c46 : y186.length + t171.length < 8796093022208
                              · rw [if_pos c46] at H
                                have LMc46 := Aside0.mk c46
                                clear c46
                                obtain ⟨y189, hy189⟩ : ∃ y_ : List Cx, y_ = (y186 ++ t171) := ⟨_, rfl⟩
                                replace H : (if y189.length < 8796093022208 then ((some (y189 ++ [cx 4617315517961601024 0] : List Cx)).bind fun y192 => (if 0 ≤ (t171.length : Int) then (if (t171.length : Int) ≤ (y192.length : Int) then ((some (y192.take ((t171.length : Int) : Int).toNat : List Cx)).bind fun y195 => ((meter_Total.f k3 y195).bind fun bt199 => ((meter_Energy.f k3 y195).bind fun bt201 => ((pylonref12_SameSeries.f k3 t171 t175).bind fun t204 => (if t204 = true then ((pylonref12_SameSeries.f k3 y195 t175).bind fun t205 => (if t205 = true then (if (t171.length : Int) < (y192.length : Int) then (some (ceq (rdOf (cx 0 0) y192 (t171.length : Int)).re (rdOf (cx 0 0) y192 (t171.length : Int)).im 4617315517961601024 0)) else (none)) else (some false))) else (some false)))))) else (none)) else (none))) else (none)) = some r := by first | (rw [hy189]; with_reducible exact H) | (have H2_ := (Option.bind_some _ _).symm.trans H; rw [hy189]; with_reducible exact H2_) | (have H2_ := (Option.bind_some _ _).symm.trans H; with_reducible exact H2_) | with_reducible exact H | (rw [hy189]; exact H) | exact H
                                have Ny189 := Aside0.mk hy189
                                clear hy189
                                by_cases c47 : y189.length < 8796093022208
                                · rw [if_pos c47] at H
                                  have LMc47 := Aside0.mk c47
                                  clear c47
                                  obtain ⟨y192, hy192⟩ : ∃ y_ : List Cx, y_ = (y189 ++ [cx 4617315517961601024 0]) := ⟨_, rfl⟩
                                  replace H : (if 0 ≤ (t171.length : Int) then (if (t171.length : Int) ≤ (y192.length : Int) then ((some (y192.take ((t171.length : Int) : Int).toNat : List Cx)).bind fun y195 => ((meter_Total.f k3 y195).bind fun bt199 => ((meter_Energy.f k3 y195).bind fun bt201 => ((pylonref12_SameSeries.f k3 t171 t175).bind fun t204 => (if t204 = true then ((pylonref12_SameSeries.f k3 y195 t175).bind fun t205 => (if t205 = true then (if (t171.length : Int) < (y192.length : Int) then (some (ceq (rdOf (cx 0 0) y192 (t171.length : Int)).re (rdOf (cx 0 0) y192 (t171.length : Int)).im 4617315517961601024 0)) else (none)) else (some false))) else (some false)))))) else (none)) else (none)) = some r := by first | (rw [hy192]; with_reducible exact H) | (have H2_ := (Option.bind_some _ _).symm.trans H; rw [hy192]; with_reducible exact H2_) | (have H2_ := (Option.bind_some _ _).symm.trans H; with_reducible exact H2_) | with_reducible exact H | (rw [hy192]; exact H) | exact H
                                  have Ny192 := Aside0.mk hy192
                                  clear hy192
                                  by_cases c48 : 0 ≤ (t171.length : Int)
                                  · rw [if_pos c48] at H
                                    have c48b0 := eq_true c48
                                    have c48b1 : decide (0 ≤ (t171.length : Int)) = true := decide_eq_true c48
                                    clear c48
                                    by_cases c49 : (t171.length : Int) ≤ (y192.length : Int)
                                    · rw [if_pos c49] at H
                                      have c49b0 := eq_true c49
                                      have c49b1 : decide ((t171.length : Int) ≤ (y192.length : Int)) = true := decide_eq_true c49
                                      clear c49
                                      obtain ⟨y195, hy195⟩ : ∃ y_ : List Cx, y_ = (y192.take ((t171.length : Int) : Int).toNat) := ⟨_, rfl⟩
                                      replace H : ((meter_Total.f k3 y195).bind fun bt199 => ((meter_Energy.f k3 y195).bind fun bt201 => ((pylonref12_SameSeries.f k3 t171 t175).bind fun t204 => (if t204 = true then ((pylonref12_SameSeries.f k3 y195 t175).bind fun t205 => (if t205 = true then (if (t171.length : Int) < (y192.length : Int) then (some (ceq (rdOf (cx 0 0) y192 (t171.length : Int)).re (rdOf (cx 0 0) y192 (t171.length : Int)).im 4617315517961601024 0)) else (none)) else (some false))) else (some false))))) = some r := by first | (rw [hy195]; with_reducible exact H) | (have H2_ := (Option.bind_some _ _).symm.trans H; rw [hy195]; with_reducible exact H2_) | (have H2_ := (Option.bind_some _ _).symm.trans H; with_reducible exact H2_) | with_reducible exact H | (rw [hy195]; exact H) | exact H
                                      have Ny195 := Aside0.mk hy195
                                      clear hy195
                                      replace H := Option.bind_eq_some_iff.mp H
                                      obtain ⟨⟨t199, t200⟩, A500, H⟩ := H
                                      replace H : ((meter_Energy.f k3 y195).bind fun bt201 => ((pylonref12_SameSeries.f k3 t171 t175).bind fun t204 => (if t204 = true then ((pylonref12_SameSeries.f k3 y195 t175).bind fun t205 => (if t205 = true then (if (t171.length : Int) < (y192.length : Int) then (some (ceq (rdOf (cx 0 0) y192 (t171.length : Int)).re (rdOf (cx 0 0) y192 (t171.length : Int)).im 4617315517961601024 0)) else (none)) else (some false))) else (some false)))) = some r := H
                                      have A50 := Aside0.mk A500
                                      clear A500
                                      replace H := Option.bind_eq_some_iff.mp H
                                      obtain ⟨⟨t201, t202, t203⟩, A510, H⟩ := H
                                      replace H : ((pylonref12_SameSeries.f k3 t171 t175).bind fun t204 => (if t204 = true then ((pylonref12_SameSeries.f k3 y195 t175).bind fun t205 => (if t205 = true then (if (t171.length : Int) < (y192.length : Int) then (some (ceq (rdOf (cx 0 0) y192 (t171.length : Int)).re (rdOf (cx 0 0) y192 (t171.length : Int)).im 4617315517961601024 0)) else (none)) else (some false))) else (some false))) = some r := H
                                      have A51 := Aside0.mk A510
                                      clear A510
                                      replace H := Option.bind_eq_some_iff.mp H
                                      obtain ⟨t204, A520, H⟩ := H
                                      replace H : (if t204 = true then ((pylonref12_SameSeries.f k3 y195 t175).bind fun t205 => (if t205 = true then (if (t171.length : Int) < (y192.length : Int) then (some (ceq (rdOf (cx 0 0) y192 (t171.length : Int)).re (rdOf (cx 0 0) y192 (t171.length : Int)).im 4617315517961601024 0)) else (none)) else (some false))) else (some false)) = some r := H
                                      have A52 := Aside0.mk A520
                                      clear A520
                                      by_cases c53 : t204 = true
                                      · subst c53
                                        have H1 : ((pylonref12_SameSeries.f k3 y195 t175).bind fun t205 => (if t205 = true then (if (t171.length : Int) < (y192.length : Int) then (some (ceq (rdOf (cx 0 0) y192 (t171.length : Int)).re (rdOf (cx 0 0) y192 (t171.length : Int)).im 4617315517961601024 0)) else (none)) else (some false))) = some r := by rw [if_pos rfl] at H; exact H
                                        clear H
                                        have H := H1
                                        clear H1
                                        replace H := Option.bind_eq_some_iff.mp H
                                        obtain ⟨t205, A540, H⟩ := H
                                        replace H : (if t205 = true then (if (t171.length : Int) < (y192.length : Int) then (some (ceq (rdOf (cx 0 0) y192 (t171.length : Int)).re (rdOf (cx 0 0) y192 (t171.length : Int)).im 4617315517961601024 0)) else (none)) else (some false)) = some r := H
                                        have A54 := Aside0.mk A540
                                        clear A540
                                        by_cases c55 : t205 = true
                                        · subst c55
                                          have H1 : (if (t171.length : Int) < (y192.length : Int) then (some (ceq (rdOf (cx 0 0) y192 (t171.length : Int)).re (rdOf (cx 0 0) y192 (t171.length : Int)).im 4617315517961601024 0)) else (none)) = some r := by rw [if_pos rfl] at H; exact H
                                          clear H
                                          have H := H1
                                          clear H1
                                          by_cases c56 : (t171.length : Int) < (y192.length : Int)
                                          · rw [if_pos c56] at H
                                            have c56b0 : decide ((t171.length : Int) < (y192.length : Int)) = true := decide_eq_true c56
                                            (try (have c56z0 := c56b0; simp only [hl9_2] at c56z0))
                                            have c56b1 : decide (t171.length < y192.length) = true := decide_eq_true (Int.ofNat_lt.mp c56)
                                            (try (have c56z1 := c56b1; simp only [hl9_2] at c56z1))
                                            clear c56
                                            obtain rfl := Option.some.inj H
                                            go_wp2_with (first | ((with_reducible refine gate_dst (N := 84) rfl ?_); (try (refine gate_guard (by rfl) ?_; dsimp only)); refine Kd.R_lit Kd.c128 _ 31 ?hg (N := 84) ?hd (xs := ([] : List Cx)) (inner := []) (ok := fun _ => True) (okp := fun _ => True) ?hr ?hp (fun _ hk => hk) trivial (Below.refl _ _) (Nat.le_refl _) (by simp) ?_; (case hd => rfl); (case hg => rfl); (case hr => first | (go_simp; done) | (go_simp; rfl)); (case hp => exact (Reps.none _ _)); intro v187 w57 ho58 hb hg_ hnew_; clear hg_ hnew_; (first | rw [← Ny186.out] at ho58 | (simp only [Int.reduceToNat] at ho58; rw [← Ny186.out] at ho58)); have n0_ := Aside0.mk (Kd.R_elder' (by (with_reducible repeat (first | apply Kd.R_alloc | apply Kd.R_drewN | apply Kd.R_drew)); exact HO_9.out) (Kd.R_base ho58) hb); have n1_ := Aside0.mk (Kd.R_elder' (by (with_reducible repeat (first | apply Kd.R_alloc | apply Kd.R_drewN | apply Kd.R_drew)); exact HO_11.out) (Kd.R_base ho58) hb); have n2_ := Aside0.mk (Kd.R_elder' (by (with_reducible repeat (first | apply Kd.R_alloc | apply Kd.R_drewN | apply Kd.R_drew)); exact HO_13.out) (Kd.R_base ho58) hb); have n3_ := Aside0.mk (Kd.R_lower (Kd.R_new' (Kd.R_new' (Kd.R_new' ho58 (Kd.R_lt (by (with_reducible repeat (first | apply Kd.R_alloc | apply Kd.R_drewN | apply Kd.R_drew)); exact HO_9.out))) (Kd.R_lt (by (with_reducible repeat (first | apply Kd.R_alloc | apply Kd.R_drewN | apply Kd.R_drew)); exact HO_11.out))) (Kd.R_lt (by (with_reducible repeat (first | apply Kd.R_alloc | apply Kd.R_drewN | apply Kd.R_drew)); exact HO_13.out))) (below_size (by repeat (first | (with_reducible first | exact HB.out | apply below_alloc | apply pw_below_drewN | apply below_drew1) | exact HB.out)))); have n4_ := Aside0.mk (below_step (by repeat (first | (with_reducible first | exact HB.out | apply below_alloc | apply pw_below_drewN | apply below_drew1) | exact HB.out)) hb); clear HO_9; clear HO_11; clear HO_13; clear HB; have HO_9 := n0_; have HO_11 := n1_; have HO_13 := n2_; have HO188 := n3_; have HB := n4_; clear n0_ n1_ n2_ n3_ n4_; clear hb ho58; obtain ⟨Ao60, co60, eo60⟩ := Kd.R_slice HO_11.out; subst eo60) | ((with_reducible refine gate_builtin (b := .append) (xs := #[.tmp 84, .tmp 85]) rfl ?_); (try (refine gate_guard (by rfl) ?_; dsimp only)); at_builtin; refine Kd.R_append_rows Kd.c128 (w0 := w) w.heap.size rfl (.tmp 84) (.tmp 85) 26 31 (.complex .f64 0 0) 16 rfl Try.underlying26 info31 rfl (by decide) (by omega) v187 y186 t171 _ _ _ (fun k_ => some k_ ≠ (u9 : Value).ownBlock ∧ some k_ ≠ (.slice Ao60 t171.length co60 : Value).ownBlock ∧ some k_ ≠ (v177 : Value).ownBlock) (fun _ => False) rfl rfl ?aO ?aR (fun _ _ h => h) (fun _ h => h.elim) ?aF ?aB ?aS ?aL ?_; (case aR => repeat (first | exact (Kd.R_reads' HO_11.out).2.2 | (with_reducible refine Kd.C_alloc ?_ _) | (with_reducible refine Kd.C_drewN ?_ _) | (with_reducible refine Kd.C_drew ?_))); (case aB => exact (by repeat (first | (with_reducible first | exact HB.out | apply below_alloc | apply pw_below_drewN | apply below_drew1) | exact HB.out))); (case aF => exact (fun k_ hk => ⟨Kd.fresh' (Kd.R_lt (by (with_reducible repeat (first | apply Kd.R_alloc | apply Kd.R_drewN | apply Kd.R_drew)); exact HO_9.out)) k_ hk, Kd.fresh' (Kd.R_lt (by (with_reducible repeat (first | apply Kd.R_alloc | apply Kd.R_drewN | apply Kd.R_drew)); exact HO_11.out)) k_ hk, Kd.fresh' (Kd.R_lt (by (with_reducible repeat (first | apply Kd.R_alloc | apply Kd.R_drewN | apply Kd.R_drew)); exact HO_13.out)) k_ hk⟩)); (case aO => exact (by (with_reducible repeat (first | apply Kd.R_alloc | apply Kd.R_drewN | apply Kd.R_drew)); exact Kd.R_mono HO188.out (fun _ hk => ⟨hk.1.1.2, ⟨hk.1.2, hk.2⟩⟩))); (case aS => exact (below_size (by repeat (first | (with_reducible first | exact HB.out | apply below_alloc | apply pw_below_drewN | apply below_drew1) | exact HB.out)))); (case aL => have := LMc46.out; omega); intro v190 w59 ho hb hg hat; rw [← Ny189.out] at ho; have n0_ := Aside0.mk (Kd.R_after (ok := (fun k_ => some k_ ≠ (.slice Ao60 t171.length co60 : Value).ownBlock ∧ some k_ ≠ (v177 : Value).ownBlock)) (by (with_reducible repeat (first | apply Kd.R_alloc | apply Kd.R_drewN | apply Kd.R_drew)); exact HO_9.out) hg hat); have n1_ := Aside0.mk (Kd.R_after (ok := (fun k_ => some k_ ≠ (u9 : Value).ownBlock ∧ some k_ ≠ (v177 : Value).ownBlock)) (by (with_reducible repeat (first | apply Kd.R_alloc | apply Kd.R_drewN | apply Kd.R_drew)); exact HO_11.out) hg hat); have n2_ := Aside0.mk (Kd.R_after (ok := (fun k_ => some k_ ≠ (u9 : Value).ownBlock ∧ some k_ ≠ (.slice Ao60 t171.length co60 : Value).ownBlock)) (by (with_reducible repeat (first | apply Kd.R_alloc | apply Kd.R_drewN | apply Kd.R_drew)); exact HO_13.out) hg hat); have n3_ := Aside0.mk (hb); have n4_ := Aside0.mk (ho); clear HO_9; clear HO_11; clear HO_13; clear HB; clear HO188; have HO_9 := n0_; have HO_11 := n1_; have HO_13 := n2_; have HB := n3_; have HO191 := n4_; clear n0_ n1_ n2_ n3_ n4_; clear ho hb hg hat) | ((with_reducible refine gate_builtin (b := .append) (xs := #[.tmp 86, .tmp 87]) rfl ?_); (try (refine gate_guard (by rfl) ?_; dsimp only)); at_builtin; refine Kd.R_append Kd.c128 (w0 := w) w.heap.size rfl (.tmp 86) (.tmp 87) 26 31 (.complex .f64 0 0) 16 rfl Try.underlying26 info31 rfl (by decide) (by omega) v190 y189 (cx 4617315517961601024 0) [.complex .f64 4617315517961601024 0] (fun k_ => some k_ ≠ (u9 : Value).ownBlock ∧ some k_ ≠ (.slice Ao60 t171.length co60 : Value).ownBlock ∧ some k_ ≠ (v177 : Value).ownBlock) (fun _ => False) rfl rfl ?aP (fun _ hk => hk.elim) ?aF ?aO ?aB ?aS ?aL ?_; (case aP => exact rfl); (case aB => exact (by repeat (first | (with_reducible first | exact HB.out | apply below_alloc | apply pw_below_drewN | apply below_drew1) | exact HB.out))); (case aF => exact (fun k_ hk => ⟨Kd.fresh' (Kd.R_lt (by (with_reducible repeat (first | apply Kd.R_alloc | apply Kd.R_drewN | apply Kd.R_drew)); exact HO_9.out)) k_ hk, Kd.fresh' (Kd.R_lt (by (with_reducible repeat (first | apply Kd.R_alloc | apply Kd.R_drewN | apply Kd.R_drew)); exact HO_11.out)) k_ hk, Kd.fresh' (Kd.R_lt (by (with_reducible repeat (first | apply Kd.R_alloc | apply Kd.R_drewN | apply Kd.R_drew)); exact HO_13.out)) k_ hk⟩)); (case aO => exact (by (with_reducible repeat (first | apply Kd.R_alloc | apply Kd.R_drewN | apply Kd.R_drew)); exact HO191.out)); (case aS => exact (below_size (by repeat (first | (with_reducible first | exact HB.out | apply below_alloc | apply pw_below_drewN | apply below_drew1) | exact HB.out)))); (case aL => have := LMc47.out; omega); intro v193 w61 ho hb hg hat; rw [← Ny192.out] at ho; have n0_ := Aside0.mk (Kd.R_after (ok := (fun k_ => some k_ ≠ (.slice Ao60 t171.length co60 : Value).ownBlock ∧ some k_ ≠ (v177 : Value).ownBlock)) (by (with_reducible repeat (first | apply Kd.R_alloc | apply Kd.R_drewN | apply Kd.R_drew)); exact HO_9.out) hg hat); have n1_ := Aside0.mk (Kd.R_after (ok := (fun k_ => some k_ ≠ (u9 : Value).ownBlock ∧ some k_ ≠ (v177 : Value).ownBlock)) (by (with_reducible repeat (first | apply Kd.R_alloc | apply Kd.R_drewN | apply Kd.R_drew)); exact HO_11.out) hg hat); have n2_ := Aside0.mk (Kd.R_after (ok := (fun k_ => some k_ ≠ (u9 : Value).ownBlock ∧ some k_ ≠ (.slice Ao60 t171.length co60 : Value).ownBlock)) (by (with_reducible repeat (first | apply Kd.R_alloc | apply Kd.R_drewN | apply Kd.R_drew)); exact HO_13.out) hg hat); have n3_ := Aside0.mk (hb); have n4_ := Aside0.mk (ho); clear HO_9; clear HO_11; clear HO_13; clear HB; clear HO191; have HO_9 := n0_; have HO_11 := n1_; have HO_13 := n2_; have HB := n3_; have HO194 := n4_; clear n0_ n1_ n2_ n3_ n4_; clear ho hb hg hat; obtain ⟨Ao63, co63, eo63⟩ := Kd.R_slice HO194.out; subst eo63; have q62 : ((t171.length : Int) : Int) ≤ ((y192.length : Int) : Int) := of_decide_eq_true (by first | (with_reducible assumption) | assumption); obtain ⟨i062, hi062, _, hsz62, _⟩ := info_parts info31; have hroom62 : y192.length ≤ co63 := (Kd.R_reads' HO194.out).2.1; have hC62 : Kd.C Kd.c128 _ Ao63 y192.length y192 := (Kd.R_reads' HO194.out).2.2; have hcut62 := cut_to (P := Try.prog) 26 31 .i64 Try.underlying26 hi062 Ao63 y192.length co63 (t171.length : Int) (of_decide_eq_true (by first | (with_reducible assumption) | assumption)) q62 hroom62; have hr62 := Kd.C_take (m := ((t171.length : Int) : Int).toNat) hC62 (by omega); have hy62 : y195.length = ((t171.length : Int) : Int).toNat := (by rw [Ny195.out, List.length_take]; omega); rw [← Ny195.out] at hr62; rw [← hy62] at hcut62; have HR198 := Aside0.mk hr62; have HC198 := Aside0.mk (show y195.length ≤ co63 from by omega); clear hr62 hC62 hroom62 hi062 hsz62; have KY62 := Aside0.mk hy62; clear hy62; have KL62 := Aside0.mk (show ((t171.length : Int) : Int).toNat ≤ y192.length from by omega); replace q62 := eq_true q62) | ((with_reducible refine gate_callee (f := 38) rfl ?_); refine goesL_ (some 93) rfl rfl Try.func38 (by kernel_rfl) rfl #[.slice Ao63 y195.length co63] rfl (by (try simp only [List.map_toArray, List.map_cons, List.map_nil]); first | done | rfl | (simp only [List.length_drop, List.length_take]; rfl)) ?_; (with_reducible refine (meter_Total.calls k3 _ _ y195 t199 t200 _ ?side1 ?side2 A50.out).mono ?_); (case side1 => repeat (first | exact (by repeat (first | (with_reducible exact HR198.out) | (with_reducible refine Kd.C_alloc ?_ _) | (with_reducible refine Kd.C_drewN ?_ _) | (with_reducible refine Kd.C_drew ?_) | exact HR198.out)) | (with_reducible refine Kd.C_alloc ?_ _) | (with_reducible refine Kd.C_drewN ?_ _) | (with_reducible refine Kd.C_drew ?_))); (case side2 => exact HC198.out); rintro e w64 ⟨rfl, hb⟩; refine ⟨_, rfl, ?_⟩; have n0_ := Aside0.mk (Kd.R_below (by (with_reducible repeat (first | apply Kd.R_alloc | apply Kd.R_drewN | apply Kd.R_drew)); exact HO_9.out) hb); have n1_ := Aside0.mk (Kd.R_below (by (with_reducible repeat (first | apply Kd.R_alloc | apply Kd.R_drewN | apply Kd.R_drew)); exact HO_11.out) hb); have n2_ := Aside0.mk (Kd.R_below (by (with_reducible repeat (first | apply Kd.R_alloc | apply Kd.R_drewN | apply Kd.R_drew)); exact HO_13.out) hb); have n3_ := Aside0.mk (Kd.R_below (by (with_reducible repeat (first | apply Kd.R_alloc | apply Kd.R_drewN | apply Kd.R_drew)); exact HO194.out) hb); have n4_ := Aside0.mk (Kd.C_below (by repeat (first | (with_reducible exact HR198.out) | (with_reducible refine Kd.C_alloc ?_ _) | (with_reducible refine Kd.C_drewN ?_ _) | (with_reducible refine Kd.C_drew ?_) | exact HR198.out)) hb); have n5_ := Aside0.mk (below_step (by repeat (first | (with_reducible first | exact HB.out | apply below_alloc | apply pw_below_drewN | apply below_drew1) | exact HB.out)) hb); clear HO_9; clear HO_11; clear HO_13; clear HO194; clear HR198; clear HB; have HO_9 := n0_; have HO_11 := n1_; have HO_13 := n2_; have HO194 := n3_; have HR198 := n4_; have HB := n5_; clear n0_ n1_ n2_ n3_ n4_ n5_; (try clear hb); (try clear hb2); (try clear hk); (try clear hi)) | ((with_reducible refine gate_callee (f := 39) rfl ?_); refine goesL_ (some 98) rfl rfl Try.func39 (by kernel_rfl) rfl #[.slice Ao63 y195.length co63] rfl (by (try simp only [List.map_toArray, List.map_cons, List.map_nil]); first | done | rfl | (simp only [List.length_drop, List.length_take]; rfl)) ?_; (with_reducible refine (meter_Energy.calls k3 _ _ y195 t201 t202 t203 _ ?side1 ?side2 A51.out).mono ?_); (case side1 => repeat (first | exact (by repeat (first | (with_reducible exact HR198.out) | (with_reducible refine Kd.C_alloc ?_ _) | (with_reducible refine Kd.C_drewN ?_ _) | (with_reducible refine Kd.C_drew ?_) | exact HR198.out)) | (with_reducible refine Kd.C_alloc ?_ _) | (with_reducible refine Kd.C_drewN ?_ _) | (with_reducible refine Kd.C_drew ?_))); (case side2 => exact HC198.out); rintro e w65 ⟨rfl, hb⟩; refine ⟨_, rfl, ?_⟩; have n0_ := Aside0.mk (Kd.R_below (by (with_reducible repeat (first | apply Kd.R_alloc | apply Kd.R_drewN | apply Kd.R_drew)); exact HO_9.out) hb); have n1_ := Aside0.mk (Kd.R_below (by (with_reducible repeat (first | apply Kd.R_alloc | apply Kd.R_drewN | apply Kd.R_drew)); exact HO_11.out) hb); have n2_ := Aside0.mk (Kd.R_below (by (with_reducible repeat (first | apply Kd.R_alloc | apply Kd.R_drewN | apply Kd.R_drew)); exact HO_13.out) hb); have n3_ := Aside0.mk (Kd.R_below (by (with_reducible repeat (first | apply Kd.R_alloc | apply Kd.R_drewN | apply Kd.R_drew)); exact HO194.out) hb); have n4_ := Aside0.mk (Kd.C_below (by repeat (first | (with_reducible exact HR198.out) | (with_reducible refine Kd.C_alloc ?_ _) | (with_reducible refine Kd.C_drewN ?_ _) | (with_reducible refine Kd.C_drew ?_) | exact HR198.out)) hb); have n5_ := Aside0.mk (below_step (by repeat (first | (with_reducible first | exact HB.out | apply below_alloc | apply pw_below_drewN | apply below_drew1) | exact HB.out)) hb); clear HO_9; clear HO_11; clear HO_13; clear HO194; clear HR198; clear HB; have HO_9 := n0_; have HO_11 := n1_; have HO_13 := n2_; have HO194 := n3_; have HR198 := n4_; have HB := n5_; clear n0_ n1_ n2_ n3_ n4_ n5_; (try clear hb); (try clear hb2); (try clear hk); (try clear hi); obtain ⟨Ao66, co66, eo66⟩ := Kd.R_slice HO_13.out; subst eo66) | ((with_reducible refine gate_callee (f := 22) rfl ?_); refine goesL_ (some 101) rfl rfl Try.func22 (by kernel_rfl) rfl #[.slice Ao60 t171.length co60, .slice Ao66 t175.length co66] rfl (by (try simp only [List.map_toArray, List.map_cons, List.map_nil]); first | done | rfl | (simp only [List.length_drop, List.length_take]; rfl)) ?_; (with_reducible refine (pylonref12_SameSeries.calls k3 _ _ t171 _ _ t175 true _ ?side1 ?side2 ?side3 ?side4 A52.out).mono ?_); (case side1 => repeat (first | exact (Kd.R_reads' HO_11.out).2.2 | (with_reducible refine Kd.C_alloc ?_ _) | (with_reducible refine Kd.C_drewN ?_ _) | (with_reducible refine Kd.C_drew ?_))); (case side2 => exact (Kd.R_reads' HO_11.out).2.1); (case side3 => repeat (first | exact (Kd.R_reads' HO_13.out).2.2 | (with_reducible refine Kd.C_alloc ?_ _) | (with_reducible refine Kd.C_drewN ?_ _) | (with_reducible refine Kd.C_drew ?_))); (case side4 => exact (Kd.R_reads' HO_13.out).2.1); rintro e w' ⟨rfl, ⟨nd, rfl⟩⟩; refine ⟨_, rfl, ?_⟩) | (go_at_call 22; (with_reducible refine (pylonref12_SameSeries.calls k3 _ _ y195 _ _ t175 true _ ?side1 ?side2 ?side3 ?side4 A54.out).mono ?_); (case side1 => repeat (first | exact (by repeat (first | (with_reducible exact HR198.out) | (with_reducible refine Kd.C_alloc ?_ _) | (with_reducible refine Kd.C_drewN ?_ _) | (with_reducible refine Kd.C_drew ?_) | exact HR198.out)) | (with_reducible refine Kd.C_alloc ?_ _) | (with_reducible refine Kd.C_drewN ?_ _) | (with_reducible refine Kd.C_drew ?_))); (case side2 => exact HC198.out); (case side3 => repeat (first | exact (Kd.R_reads' HO_13.out).2.2 | (with_reducible refine Kd.C_alloc ?_ _) | (with_reducible refine Kd.C_drewN ?_ _) | (with_reducible refine Kd.C_drew ?_))); (case side4 => exact (Kd.R_reads' HO_13.out).2.1); rintro e w' ⟨rfl, ⟨nd, rfl⟩⟩; have p206 : 0 ≤ ((t171.length : Int) : Int) := of_decide_eq_true (by first | (with_reducible assumption) | assumption); have q206 : (t171.length : Int) < (y192.length : Int) := of_decide_eq_true (by first | (with_reducible assumption) | assumption); obtain ⟨ad206, e206, hx206_0⟩ := Kd.at_c128 (Kd.R_reads' HO194.out).2.2 (t171.length : Int) p206 q206; cases e206; (try simp only [Go.IntWalk.toNatUp] at hx206_0); (try simp only [hl9_2] at p206); (try simp only [hl9_2] at q206); (try simp only [hl9_2] at hx206_0); replace p206 := eq_true p206; replace q206 := eq_true q206))
                                            go_ret
                                            exact ⟨by first | rfl | (simp [errW_none, errW_some] <;> rfl) | (simp [*, errW_none, errW_some] <;> rfl), by repeat (first | (with_reducible first | exact HB.out | apply below_alloc | apply pw_below_drewN | apply below_drew1) | exact HB.out)⟩
                                          · rw [if_neg c56] at H
                                            exact absurd H (by simp)
                                        · replace c55 := Bool.eq_false_iff.mpr c55
                                          subst c55
                                          have H1 : (some false) = some r := by rw [if_neg (show ¬ (false = true) by decide)] at H; exact H
                                          clear H
                                          have H := H1
                                          clear H1
                                          obtain rfl := Option.some.inj H
                                          go_wp2_with (first | ((with_reducible refine gate_dst (N := 84) rfl ?_); (try (refine gate_guard (by rfl) ?_; dsimp only)); refine Kd.R_lit Kd.c128 _ 31 ?hg (N := 84) ?hd (xs := ([] : List Cx)) (inner := []) (ok := fun _ => True) (okp := fun _ => True) ?hr ?hp (fun _ hk => hk) trivial (Below.refl _ _) (Nat.le_refl _) (by simp) ?_; (case hd => rfl); (case hg => rfl); (case hr => first | (go_simp; done) | (go_simp; rfl)); (case hp => exact (Reps.none _ _)); intro v187 w67 ho68 hb hg_ hnew_; clear hg_ hnew_; (first | rw [← Ny186.out] at ho68 | (simp only [Int.reduceToNat] at ho68; rw [← Ny186.out] at ho68)); have n0_ := Aside0.mk (Kd.R_elder' (by (with_reducible repeat (first | apply Kd.R_alloc | apply Kd.R_drewN | apply Kd.R_drew)); exact HO_9.out) (Kd.R_base ho68) hb); have n1_ := Aside0.mk (Kd.R_elder' (by (with_reducible repeat (first | apply Kd.R_alloc | apply Kd.R_drewN | apply Kd.R_drew)); exact HO_11.out) (Kd.R_base ho68) hb); have n2_ := Aside0.mk (Kd.R_elder' (by (with_reducible repeat (first | apply Kd.R_alloc | apply Kd.R_drewN | apply Kd.R_drew)); exact HO_13.out) (Kd.R_base ho68) hb); have n3_ := Aside0.mk (Kd.R_lower (Kd.R_new' (Kd.R_new' (Kd.R_new' ho68 (Kd.R_lt (by (with_reducible repeat (first | apply Kd.R_alloc | apply Kd.R_drewN | apply Kd.R_drew)); exact HO_9.out))) (Kd.R_lt (by (with_reducible repeat (first | apply Kd.R_alloc | apply Kd.R_drewN | apply Kd.R_drew)); exact HO_11.out))) (Kd.R_lt (by (with_reducible repeat (first | apply Kd.R_alloc | apply Kd.R_drewN | apply Kd.R_drew)); exact HO_13.out))) (below_size (by repeat (first | (with_reducible first | exact HB.out | apply below_alloc | apply pw_below_drewN | apply below_drew1) | exact HB.out)))); have n4_ := Aside0.mk (below_step (by repeat (first | (with_reducible first | exact HB.out | apply below_alloc | apply pw_below_drewN | apply below_drew1) | exact HB.out)) hb); clear HO_9; clear HO_11; clear HO_13; clear HB; have HO_9 := n0_; have HO_11 := n1_; have HO_13 := n2_; have HO188 := n3_; have HB := n4_; clear n0_ n1_ n2_ n3_ n4_; clear hb ho68; obtain ⟨Ao70, co70, eo70⟩ := Kd.R_slice HO_11.out; subst eo70) | ((with_reducible refine gate_builtin (b := .append) (xs := #[.tmp 84, .tmp 85]) rfl ?_); (try (refine gate_guard (by rfl) ?_; dsimp only)); at_builtin; refine Kd.R_append_rows Kd.c128 (w0 := w) w.heap.size rfl (.tmp 84) (.tmp 85) 26 31 (.complex .f64 0 0) 16 rfl Try.underlying26 info31 rfl (by decide) (by omega) v187 y186 t171 _ _ _ (fun k_ => some k_ ≠ (u9 : Value).ownBlock ∧ some k_ ≠ (.slice Ao70 t171.length co70 : Value).ownBlock ∧ some k_ ≠ (v177 : Value).ownBlock) (fun _ => False) rfl rfl ?aO ?aR (fun _ _ h => h) (fun _ h => h.elim) ?aF ?aB ?aS ?aL ?_; (case aR => repeat (first | exact (Kd.R_reads' HO_11.out).2.2 | (with_reducible refine Kd.C_alloc ?_ _) | (with_reducible refine Kd.C_drewN ?_ _) | (with_reducible refine Kd.C_drew ?_))); (case aB => exact (by repeat (first | (with_reducible first | exact HB.out | apply below_alloc | apply pw_below_drewN | apply below_drew1) | exact HB.out))); (case aF => exact (fun k_ hk => ⟨Kd.fresh' (Kd.R_lt (by (with_reducible repeat (first | apply Kd.R_alloc | apply Kd.R_drewN | apply Kd.R_drew)); exact HO_9.out)) k_ hk, Kd.fresh' (Kd.R_lt (by (with_reducible repeat (first | apply Kd.R_alloc | apply Kd.R_drewN | apply Kd.R_drew)); exact HO_11.out)) k_ hk, Kd.fresh' (Kd.R_lt (by (with_reducible repeat (first | apply Kd.R_alloc | apply Kd.R_drewN | apply Kd.R_drew)); exact HO_13.out)) k_ hk⟩)); (case aO => exact (by (with_reducible repeat (first | apply Kd.R_alloc | apply Kd.R_drewN | apply Kd.R_drew)); exact Kd.R_mono HO188.out (fun _ hk => ⟨hk.1.1.2, ⟨hk.1.2, hk.2⟩⟩))); (case aS => exact (below_size (by repeat (first | (with_reducible first | exact HB.out | apply below_alloc | apply pw_below_drewN | apply below_drew1) | exact HB.out)))); (case aL => have := LMc46.out; omega); intro v190 w69 ho hb hg hat; rw [← Ny189.out] at ho; have n0_ := Aside0.mk (Kd.R_after (ok := (fun k_ => some k_ ≠ (.slice Ao70 t171.length co70 : Value).ownBlock ∧ some k_ ≠ (v177 : Value).ownBlock)) (by (with_reducible repeat (first | apply Kd.R_alloc | apply Kd.R_drewN | apply Kd.R_drew)); exact HO_9.out) hg hat); have n1_ := Aside0.mk (Kd.R_after (ok := (fun k_ => some k_ ≠ (u9 : Value).ownBlock ∧ some k_ ≠ (v177 : Value).ownBlock)) (by (with_reducible repeat (first | apply Kd.R_alloc | apply Kd.R_drewN | apply Kd.R_drew)); exact HO_11.out) hg hat); have n2_ := Aside0.mk (Kd.R_after (ok := (fun k_ => some k_ ≠ (u9 : Value).ownBlock ∧ some k_ ≠ (.slice Ao70 t171.length co70 : Value).ownBlock)) (by (with_reducible repeat (first | apply Kd.R_alloc | apply Kd.R_drewN | apply Kd.R_drew)); exact HO_13.out) hg hat); have n3_ := Aside0.mk (hb); have n4_ := Aside0.mk (ho); clear HO_9; clear HO_11; clear HO_13; clear HB; clear HO188; have HO_9 := n0_; have HO_11 := n1_; have HO_13 := n2_; have HB := n3_; have HO191 := n4_; clear n0_ n1_ n2_ n3_ n4_; clear ho hb hg hat) | ((with_reducible refine gate_builtin (b := .append) (xs := #[.tmp 86, .tmp 87]) rfl ?_); (try (refine gate_guard (by rfl) ?_; dsimp only)); at_builtin; refine Kd.R_append Kd.c128 (w0 := w) w.heap.size rfl (.tmp 86) (.tmp 87) 26 31 (.complex .f64 0 0) 16 rfl Try.underlying26 info31 rfl (by decide) (by omega) v190 y189 (cx 4617315517961601024 0) [.complex .f64 4617315517961601024 0] (fun k_ => some k_ ≠ (u9 : Value).ownBlock ∧ some k_ ≠ (.slice Ao70 t171.length co70 : Value).ownBlock ∧ some k_ ≠ (v177 : Value).ownBlock) (fun _ => False) rfl rfl ?aP (fun _ hk => hk.elim) ?aF ?aO ?aB ?aS ?aL ?_; (case aP => exact rfl); (case aB => exact (by repeat (first | (with_reducible first | exact HB.out | apply below_alloc | apply pw_below_drewN | apply below_drew1) | exact HB.out))); (case aF => exact (fun k_ hk => ⟨Kd.fresh' (Kd.R_lt (by (with_reducible repeat (first | apply Kd.R_alloc | apply Kd.R_drewN | apply Kd.R_drew)); exact HO_9.out)) k_ hk, Kd.fresh' (Kd.R_lt (by (with_reducible repeat (first | apply Kd.R_alloc | apply Kd.R_drewN | apply Kd.R_drew)); exact HO_11.out)) k_ hk, Kd.fresh' (Kd.R_lt (by (with_reducible repeat (first | apply Kd.R_alloc | apply Kd.R_drewN | apply Kd.R_drew)); exact HO_13.out)) k_ hk⟩)); (case aO => exact (by (with_reducible repeat (first | apply Kd.R_alloc | apply Kd.R_drewN | apply Kd.R_drew)); exact HO191.out)); (case aS => exact (below_size (by repeat (first | (with_reducible first | exact HB.out | apply below_alloc | apply pw_below_drewN | apply below_drew1) | exact HB.out)))); (case aL => have := LMc47.out; omega); intro v193 w71 ho hb hg hat; rw [← Ny192.out] at ho; have n0_ := Aside0.mk (Kd.R_after (ok := (fun k_ => some k_ ≠ (.slice Ao70 t171.length co70 : Value).ownBlock ∧ some k_ ≠ (v177 : Value).ownBlock)) (by (with_reducible repeat (first | apply Kd.R_alloc | apply Kd.R_drewN | apply Kd.R_drew)); exact HO_9.out) hg hat); have n1_ := Aside0.mk (Kd.R_after (ok := (fun k_ => some k_ ≠ (u9 : Value).ownBlock ∧ some k_ ≠ (v177 : Value).ownBlock)) (by (with_reducible repeat (first | apply Kd.R_alloc | apply Kd.R_drewN | apply Kd.R_drew)); exact HO_11.out) hg hat); have n2_ := Aside0.mk (Kd.R_after (ok := (fun k_ => some k_ ≠ (u9 : Value).ownBlock ∧ some k_ ≠ (.slice Ao70 t171.length co70 : Value).ownBlock)) (by (with_reducible repeat (first | apply Kd.R_alloc | apply Kd.R_drewN | apply Kd.R_drew)); exact HO_13.out) hg hat); have n3_ := Aside0.mk (hb); have n4_ := Aside0.mk (ho); clear HO_9; clear HO_11; clear HO_13; clear HB; clear HO191; have HO_9 := n0_; have HO_11 := n1_; have HO_13 := n2_; have HB := n3_; have HO194 := n4_; clear n0_ n1_ n2_ n3_ n4_; clear ho hb hg hat; obtain ⟨Ao73, co73, eo73⟩ := Kd.R_slice HO194.out; subst eo73; have q72 : ((t171.length : Int) : Int) ≤ ((y192.length : Int) : Int) := of_decide_eq_true (by first | (with_reducible assumption) | assumption); obtain ⟨i072, hi072, _, hsz72, _⟩ := info_parts info31; have hroom72 : y192.length ≤ co73 := (Kd.R_reads' HO194.out).2.1; have hC72 : Kd.C Kd.c128 _ Ao73 y192.length y192 := (Kd.R_reads' HO194.out).2.2; have hcut72 := cut_to (P := Try.prog) 26 31 .i64 Try.underlying26 hi072 Ao73 y192.length co73 (t171.length : Int) (of_decide_eq_true (by first | (with_reducible assumption) | assumption)) q72 hroom72; have hr72 := Kd.C_take (m := ((t171.length : Int) : Int).toNat) hC72 (by omega); have hy72 : y195.length = ((t171.length : Int) : Int).toNat := (by rw [Ny195.out, List.length_take]; omega); rw [← Ny195.out] at hr72; rw [← hy72] at hcut72; have HR198 := Aside0.mk hr72; have HC198 := Aside0.mk (show y195.length ≤ co73 from by omega); clear hr72 hC72 hroom72 hi072 hsz72; have KY72 := Aside0.mk hy72; clear hy72; have KL72 := Aside0.mk (show ((t171.length : Int) : Int).toNat ≤ y192.length from by omega); replace q72 := eq_true q72) | ((with_reducible refine gate_callee (f := 38) rfl ?_); refine goesL_ (some 93) rfl rfl Try.func38 (by kernel_rfl) rfl #[.slice Ao73 y195.length co73] rfl (by (try simp only [List.map_toArray, List.map_cons, List.map_nil]); first | done | rfl | (simp only [List.length_drop, List.length_take]; rfl)) ?_; (with_reducible refine (meter_Total.calls k3 _ _ y195 t199 t200 _ ?side1 ?side2 A50.out).mono ?_); (case side1 => repeat (first | exact (by repeat (first | (with_reducible exact HR198.out) | (with_reducible refine Kd.C_alloc ?_ _) | (with_reducible refine Kd.C_drewN ?_ _) | (with_reducible refine Kd.C_drew ?_) | exact HR198.out)) | (with_reducible refine Kd.C_alloc ?_ _) | (with_reducible refine Kd.C_drewN ?_ _) | (with_reducible refine Kd.C_drew ?_))); (case side2 => exact HC198.out); rintro e w74 ⟨rfl, hb⟩; refine ⟨_, rfl, ?_⟩; have n0_ := Aside0.mk (Kd.R_below (by (with_reducible repeat (first | apply Kd.R_alloc | apply Kd.R_drewN | apply Kd.R_drew)); exact HO_9.out) hb); have n1_ := Aside0.mk (Kd.R_below (by (with_reducible repeat (first | apply Kd.R_alloc | apply Kd.R_drewN | apply Kd.R_drew)); exact HO_11.out) hb); have n2_ := Aside0.mk (Kd.R_below (by (with_reducible repeat (first | apply Kd.R_alloc | apply Kd.R_drewN | apply Kd.R_drew)); exact HO_13.out) hb); have n3_ := Aside0.mk (Kd.R_below (by (with_reducible repeat (first | apply Kd.R_alloc | apply Kd.R_drewN | apply Kd.R_drew)); exact HO194.out) hb); have n4_ := Aside0.mk (Kd.C_below (by repeat (first | (with_reducible exact HR198.out) | (with_reducible refine Kd.C_alloc ?_ _) | (with_reducible refine Kd.C_drewN ?_ _) | (with_reducible refine Kd.C_drew ?_) | exact HR198.out)) hb); have n5_ := Aside0.mk (below_step (by repeat (first | (with_reducible first | exact HB.out | apply below_alloc | apply pw_below_drewN | apply below_drew1) | exact HB.out)) hb); clear HO_9; clear HO_11; clear HO_13; clear HO194; clear HR198; clear HB; have HO_9 := n0_; have HO_11 := n1_; have HO_13 := n2_; have HO194 := n3_; have HR198 := n4_; have HB := n5_; clear n0_ n1_ n2_ n3_ n4_ n5_; (try clear hb); (try clear hb2); (try clear hk); (try clear hi)) | ((with_reducible refine gate_callee (f := 39) rfl ?_); refine goesL_ (some 98) rfl rfl Try.func39 (by kernel_rfl) rfl #[.slice Ao73 y195.length co73] rfl (by (try simp only [List.map_toArray, List.map_cons, List.map_nil]); first | done | rfl | (simp only [List.length_drop, List.length_take]; rfl)) ?_; (with_reducible refine (meter_Energy.calls k3 _ _ y195 t201 t202 t203 _ ?side1 ?side2 A51.out).mono ?_); (case side1 => repeat (first | exact (by repeat (first | (with_reducible exact HR198.out) | (with_reducible refine Kd.C_alloc ?_ _) | (with_reducible refine Kd.C_drewN ?_ _) | (with_reducible refine Kd.C_drew ?_) | exact HR198.out)) | (with_reducible refine Kd.C_alloc ?_ _) | (with_reducible refine Kd.C_drewN ?_ _) | (with_reducible refine Kd.C_drew ?_))); (case side2 => exact HC198.out); rintro e w75 ⟨rfl, hb⟩; refine ⟨_, rfl, ?_⟩; have n0_ := Aside0.mk (Kd.R_below (by (with_reducible repeat (first | apply Kd.R_alloc | apply Kd.R_drewN | apply Kd.R_drew)); exact HO_9.out) hb); have n1_ := Aside0.mk (Kd.R_below (by (with_reducible repeat (first | apply Kd.R_alloc | apply Kd.R_drewN | apply Kd.R_drew)); exact HO_11.out) hb); have n2_ := Aside0.mk (Kd.R_below (by (with_reducible repeat (first | apply Kd.R_alloc | apply Kd.R_drewN | apply Kd.R_drew)); exact HO_13.out) hb); have n3_ := Aside0.mk (Kd.R_below (by (with_reducible repeat (first | apply Kd.R_alloc | apply Kd.R_drewN | apply Kd.R_drew)); exact HO194.out) hb); have n4_ := Aside0.mk (Kd.C_below (by repeat (first | (with_reducible exact HR198.out) | (with_reducible refine Kd.C_alloc ?_ _) | (with_reducible refine Kd.C_drewN ?_ _) | (with_reducible refine Kd.C_drew ?_) | exact HR198.out)) hb); have n5_ := Aside0.mk (below_step (by repeat (first | (with_reducible first | exact HB.out | apply below_alloc | apply pw_below_drewN | apply below_drew1) | exact HB.out)) hb); clear HO_9; clear HO_11; clear HO_13; clear HO194; clear HR198; clear HB; have HO_9 := n0_; have HO_11 := n1_; have HO_13 := n2_; have HO194 := n3_; have HR198 := n4_; have HB := n5_; clear n0_ n1_ n2_ n3_ n4_ n5_; (try clear hb); (try clear hb2); (try clear hk); (try clear hi); obtain ⟨Ao76, co76, eo76⟩ := Kd.R_slice HO_13.out; subst eo76) | ((with_reducible refine gate_callee (f := 22) rfl ?_); refine goesL_ (some 101) rfl rfl Try.func22 (by kernel_rfl) rfl #[.slice Ao70 t171.length co70, .slice Ao76 t175.length co76] rfl (by (try simp only [List.map_toArray, List.map_cons, List.map_nil]); first | done | rfl | (simp only [List.length_drop, List.length_take]; rfl)) ?_; (with_reducible refine (pylonref12_SameSeries.calls k3 _ _ t171 _ _ t175 true _ ?side1 ?side2 ?side3 ?side4 A52.out).mono ?_); (case side1 => repeat (first | exact (Kd.R_reads' HO_11.out).2.2 | (with_reducible refine Kd.C_alloc ?_ _) | (with_reducible refine Kd.C_drewN ?_ _) | (with_reducible refine Kd.C_drew ?_))); (case side2 => exact (Kd.R_reads' HO_11.out).2.1); (case side3 => repeat (first | exact (Kd.R_reads' HO_13.out).2.2 | (with_reducible refine Kd.C_alloc ?_ _) | (with_reducible refine Kd.C_drewN ?_ _) | (with_reducible refine Kd.C_drew ?_))); (case side4 => exact (Kd.R_reads' HO_13.out).2.1); rintro e w' ⟨rfl, ⟨nd, rfl⟩⟩; refine ⟨_, rfl, ?_⟩) | (go_at_call 22; (with_reducible refine (pylonref12_SameSeries.calls k3 _ _ y195 _ _ t175 false _ ?side1 ?side2 ?side3 ?side4 A54.out).mono ?_); (case side1 => repeat (first | exact (by repeat (first | (with_reducible exact HR198.out) | (with_reducible refine Kd.C_alloc ?_ _) | (with_reducible refine Kd.C_drewN ?_ _) | (with_reducible refine Kd.C_drew ?_) | exact HR198.out)) | (with_reducible refine Kd.C_alloc ?_ _) | (with_reducible refine Kd.C_drewN ?_ _) | (with_reducible refine Kd.C_drew ?_))); (case side2 => exact HC198.out); (case side3 => repeat (first | exact (Kd.R_reads' HO_13.out).2.2 | (with_reducible refine Kd.C_alloc ?_ _) | (with_reducible refine Kd.C_drewN ?_ _) | (with_reducible refine Kd.C_drew ?_))); (case side4 => exact (Kd.R_reads' HO_13.out).2.1); rintro e w' ⟨rfl, ⟨nd, rfl⟩⟩))
                                          go_ret
                                          exact ⟨by first | rfl | (simp [errW_none, errW_some] <;> rfl) | (simp [*, errW_none, errW_some] <;> rfl), by repeat (first | (with_reducible first | exact HB.out | apply below_alloc | apply pw_below_drewN | apply below_drew1) | exact HB.out)⟩
                                      · replace c53 := Bool.eq_false_iff.mpr c53
                                        subst c53
                                        have H1 : (some false) = some r := by rw [if_neg (show ¬ (false = true) by decide)] at H; exact H
                                        clear H
                                        have H := H1
                                        clear H1
                                        obtain rfl := Option.some.inj H
                                        go_wp2_with (first | ((with_reducible refine gate_dst (N := 84) rfl ?_); (try (refine gate_guard (by rfl) ?_; dsimp only)); refine Kd.R_lit Kd.c128 _ 31 ?hg (N := 84) ?hd (xs := ([] : List Cx)) (inner := []) (ok := fun _ => True) (okp := fun _ => True) ?hr ?hp (fun _ hk => hk) trivial (Below.refl _ _) (Nat.le_refl _) (by simp) ?_; (case hd => rfl); (case hg => rfl); (case hr => first | (go_simp; done) | (go_simp; rfl)); (case hp => exact (Reps.none _ _)); intro v187 w77 ho78 hb hg_ hnew_; clear hg_ hnew_; (first | rw [← Ny186.out] at ho78 | (simp only [Int.reduceToNat] at ho78; rw [← Ny186.out] at ho78)); have n0_ := Aside0.mk (Kd.R_elder' (by (with_reducible repeat (first | apply Kd.R_alloc | apply Kd.R_drewN | apply Kd.R_drew)); exact HO_9.out) (Kd.R_base ho78) hb); have n1_ := Aside0.mk (Kd.R_elder' (by (with_reducible repeat (first | apply Kd.R_alloc | apply Kd.R_drewN | apply Kd.R_drew)); exact HO_11.out) (Kd.R_base ho78) hb); have n2_ := Aside0.mk (Kd.R_elder' (by (with_reducible repeat (first | apply Kd.R_alloc | apply Kd.R_drewN | apply Kd.R_drew)); exact HO_13.out) (Kd.R_base ho78) hb); have n3_ := Aside0.mk (Kd.R_lower (Kd.R_new' (Kd.R_new' (Kd.R_new' ho78 (Kd.R_lt (by (with_reducible repeat (first | apply Kd.R_alloc | apply Kd.R_drewN | apply Kd.R_drew)); exact HO_9.out))) (Kd.R_lt (by (with_reducible repeat (first | apply Kd.R_alloc | apply Kd.R_drewN | apply Kd.R_drew)); exact HO_11.out))) (Kd.R_lt (by (with_reducible repeat (first | apply Kd.R_alloc | apply Kd.R_drewN | apply Kd.R_drew)); exact HO_13.out))) (below_size (by repeat (first | (with_reducible first | exact HB.out | apply below_alloc | apply pw_below_drewN | apply below_drew1) | exact HB.out)))); have n4_ := Aside0.mk (below_step (by repeat (first | (with_reducible first | exact HB.out | apply below_alloc | apply pw_below_drewN | apply below_drew1) | exact HB.out)) hb); clear HO_9; clear HO_11; clear HO_13; clear HB; have HO_9 := n0_; have HO_11 := n1_; have HO_13 := n2_; have HO188 := n3_; have HB := n4_; clear n0_ n1_ n2_ n3_ n4_; clear hb ho78; obtain ⟨Ao80, co80, eo80⟩ := Kd.R_slice HO_11.out; subst eo80) | ((with_reducible refine gate_builtin (b := .append) (xs := #[.tmp 84, .tmp 85]) rfl ?_); (try (refine gate_guard (by rfl) ?_; dsimp only)); at_builtin; refine Kd.R_append_rows Kd.c128 (w0 := w) w.heap.size rfl (.tmp 84) (.tmp 85) 26 31 (.complex .f64 0 0) 16 rfl Try.underlying26 info31 rfl (by decide) (by omega) v187 y186 t171 _ _ _ (fun k_ => some k_ ≠ (u9 : Value).ownBlock ∧ some k_ ≠ (.slice Ao80 t171.length co80 : Value).ownBlock ∧ some k_ ≠ (v177 : Value).ownBlock) (fun _ => False) rfl rfl ?aO ?aR (fun _ _ h => h) (fun _ h => h.elim) ?aF ?aB ?aS ?aL ?_; (case aR => repeat (first | exact (Kd.R_reads' HO_11.out).2.2 | (with_reducible refine Kd.C_alloc ?_ _) | (with_reducible refine Kd.C_drewN ?_ _) | (with_reducible refine Kd.C_drew ?_))); (case aB => exact (by repeat (first | (with_reducible first | exact HB.out | apply below_alloc | apply pw_below_drewN | apply below_drew1) | exact HB.out))); (case aF => exact (fun k_ hk => ⟨Kd.fresh' (Kd.R_lt (by (with_reducible repeat (first | apply Kd.R_alloc | apply Kd.R_drewN | apply Kd.R_drew)); exact HO_9.out)) k_ hk, Kd.fresh' (Kd.R_lt (by (with_reducible repeat (first | apply Kd.R_alloc | apply Kd.R_drewN | apply Kd.R_drew)); exact HO_11.out)) k_ hk, Kd.fresh' (Kd.R_lt (by (with_reducible repeat (first | apply Kd.R_alloc | apply Kd.R_drewN | apply Kd.R_drew)); exact HO_13.out)) k_ hk⟩)); (case aO => exact (by (with_reducible repeat (first | apply Kd.R_alloc | apply Kd.R_drewN | apply Kd.R_drew)); exact Kd.R_mono HO188.out (fun _ hk => ⟨hk.1.1.2, ⟨hk.1.2, hk.2⟩⟩))); (case aS => exact (below_size (by repeat (first | (with_reducible first | exact HB.out | apply below_alloc | apply pw_below_drewN | apply below_drew1) | exact HB.out)))); (case aL => have := LMc46.out; omega); intro v190 w79 ho hb hg hat; rw [← Ny189.out] at ho; have n0_ := Aside0.mk (Kd.R_after (ok := (fun k_ => some k_ ≠ (.slice Ao80 t171.length co80 : Value).ownBlock ∧ some k_ ≠ (v177 : Value).ownBlock)) (by (with_reducible repeat (first | apply Kd.R_alloc | apply Kd.R_drewN | apply Kd.R_drew)); exact HO_9.out) hg hat); have n1_ := Aside0.mk (Kd.R_after (ok := (fun k_ => some k_ ≠ (u9 : Value).ownBlock ∧ some k_ ≠ (v177 : Value).ownBlock)) (by (with_reducible repeat (first | apply Kd.R_alloc | apply Kd.R_drewN | apply Kd.R_drew)); exact HO_11.out) hg hat); have n2_ := Aside0.mk (Kd.R_after (ok := (fun k_ => some k_ ≠ (u9 : Value).ownBlock ∧ some k_ ≠ (.slice Ao80 t171.length co80 : Value).ownBlock)) (by (with_reducible repeat (first | apply Kd.R_alloc | apply Kd.R_drewN | apply Kd.R_drew)); exact HO_13.out) hg hat); have n3_ := Aside0.mk (hb); have n4_ := Aside0.mk (ho); clear HO_9; clear HO_11; clear HO_13; clear HB; clear HO188; have HO_9 := n0_; have HO_11 := n1_; have HO_13 := n2_; have HB := n3_; have HO191 := n4_; clear n0_ n1_ n2_ n3_ n4_; clear ho hb hg hat) | ((with_reducible refine gate_builtin (b := .append) (xs := #[.tmp 86, .tmp 87]) rfl ?_); (try (refine gate_guard (by rfl) ?_; dsimp only)); at_builtin; refine Kd.R_append Kd.c128 (w0 := w) w.heap.size rfl (.tmp 86) (.tmp 87) 26 31 (.complex .f64 0 0) 16 rfl Try.underlying26 info31 rfl (by decide) (by omega) v190 y189 (cx 4617315517961601024 0) [.complex .f64 4617315517961601024 0] (fun k_ => some k_ ≠ (u9 : Value).ownBlock ∧ some k_ ≠ (.slice Ao80 t171.length co80 : Value).ownBlock ∧ some k_ ≠ (v177 : Value).ownBlock) (fun _ => False) rfl rfl ?aP (fun _ hk => hk.elim) ?aF ?aO ?aB ?aS ?aL ?_; (case aP => exact rfl); (case aB => exact (by repeat (first | (with_reducible first | exact HB.out | apply below_alloc | apply pw_below_drewN | apply below_drew1) | exact HB.out))); (case aF => exact (fun k_ hk => ⟨Kd.fresh' (Kd.R_lt (by (with_reducible repeat (first | apply Kd.R_alloc | apply Kd.R_drewN | apply Kd.R_drew)); exact HO_9.out)) k_ hk, Kd.fresh' (Kd.R_lt (by (with_reducible repeat (first | apply Kd.R_alloc | apply Kd.R_drewN | apply Kd.R_drew)); exact HO_11.out)) k_ hk, Kd.fresh' (Kd.R_lt (by (with_reducible repeat (first | apply Kd.R_alloc | apply Kd.R_drewN | apply Kd.R_drew)); exact HO_13.out)) k_ hk⟩)); (case aO => exact (by (with_reducible repeat (first | apply Kd.R_alloc | apply Kd.R_drewN | apply Kd.R_drew)); exact HO191.out)); (case aS => exact (below_size (by repeat (first | (with_reducible first | exact HB.out | apply below_alloc | apply pw_below_drewN | apply below_drew1) | exact HB.out)))); (case aL => have := LMc47.out; omega); intro v193 w81 ho hb hg hat; rw [← Ny192.out] at ho; have n0_ := Aside0.mk (Kd.R_after (ok := (fun k_ => some k_ ≠ (.slice Ao80 t171.length co80 : Value).ownBlock ∧ some k_ ≠ (v177 : Value).ownBlock)) (by (with_reducible repeat (first | apply Kd.R_alloc | apply Kd.R_drewN | apply Kd.R_drew)); exact HO_9.out) hg hat); have n1_ := Aside0.mk (Kd.R_after (ok := (fun k_ => some k_ ≠ (u9 : Value).ownBlock ∧ some k_ ≠ (v177 : Value).ownBlock)) (by (with_reducible repeat (first | apply Kd.R_alloc | apply Kd.R_drewN | apply Kd.R_drew)); exact HO_11.out) hg hat); have n2_ := Aside0.mk (Kd.R_after (ok := (fun k_ => some k_ ≠ (u9 : Value).ownBlock ∧ some k_ ≠ (.slice Ao80 t171.length co80 : Value).ownBlock)) (by (with_reducible repeat (first | apply Kd.R_alloc | apply Kd.R_drewN | apply Kd.R_drew)); exact HO_13.out) hg hat); have n3_ := Aside0.mk (hb); have n4_ := Aside0.mk (ho); clear HO_9; clear HO_11; clear HO_13; clear HB; clear HO191; have HO_9 := n0_; have HO_11 := n1_; have HO_13 := n2_; have HB := n3_; have HO194 := n4_; clear n0_ n1_ n2_ n3_ n4_; clear ho hb hg hat; obtain ⟨Ao83, co83, eo83⟩ := Kd.R_slice HO194.out; subst eo83; have q82 : ((t171.length : Int) : Int) ≤ ((y192.length : Int) : Int) := of_decide_eq_true (by first | (with_reducible assumption) | assumption); obtain ⟨i082, hi082, _, hsz82, _⟩ := info_parts info31; have hroom82 : y192.length ≤ co83 := (Kd.R_reads' HO194.out).2.1; have hC82 : Kd.C Kd.c128 _ Ao83 y192.length y192 := (Kd.R_reads' HO194.out).2.2; have hcut82 := cut_to (P := Try.prog) 26 31 .i64 Try.underlying26 hi082 Ao83 y192.length co83 (t171.length : Int) (of_decide_eq_true (by first | (with_reducible assumption) | assumption)) q82 hroom82; have hr82 := Kd.C_take (m := ((t171.length : Int) : Int).toNat) hC82 (by omega); have hy82 : y195.length = ((t171.length : Int) : Int).toNat := (by rw [Ny195.out, List.length_take]; omega); rw [← Ny195.out] at hr82; rw [← hy82] at hcut82; have HR198 := Aside0.mk hr82; have HC198 := Aside0.mk (show y195.length ≤ co83 from by omega); clear hr82 hC82 hroom82 hi082 hsz82; have KY82 := Aside0.mk hy82; clear hy82; have KL82 := Aside0.mk (show ((t171.length : Int) : Int).toNat ≤ y192.length from by omega); replace q82 := eq_true q82) | ((with_reducible refine gate_callee (f := 38) rfl ?_); refine goesL_ (some 93) rfl rfl Try.func38 (by kernel_rfl) rfl #[.slice Ao83 y195.length co83] rfl (by (try simp only [List.map_toArray, List.map_cons, List.map_nil]); first | done | rfl | (simp only [List.length_drop, List.length_take]; rfl)) ?_; (with_reducible refine (meter_Total.calls k3 _ _ y195 t199 t200 _ ?side1 ?side2 A50.out).mono ?_); (case side1 => repeat (first | exact (by repeat (first | (with_reducible exact HR198.out) | (with_reducible refine Kd.C_alloc ?_ _) | (with_reducible refine Kd.C_drewN ?_ _) | (with_reducible refine Kd.C_drew ?_) | exact HR198.out)) | (with_reducible refine Kd.C_alloc ?_ _) | (with_reducible refine Kd.C_drewN ?_ _) | (with_reducible refine Kd.C_drew ?_))); (case side2 => exact HC198.out); rintro e w84 ⟨rfl, hb⟩; refine ⟨_, rfl, ?_⟩; have n0_ := Aside0.mk (Kd.R_below (by (with_reducible repeat (first | apply Kd.R_alloc | apply Kd.R_drewN | apply Kd.R_drew)); exact HO_9.out) hb); have n1_ := Aside0.mk (Kd.R_below (by (with_reducible repeat (first | apply Kd.R_alloc | apply Kd.R_drewN | apply Kd.R_drew)); exact HO_11.out) hb); have n2_ := Aside0.mk (Kd.R_below (by (with_reducible repeat (first | apply Kd.R_alloc | apply Kd.R_drewN | apply Kd.R_drew)); exact HO_13.out) hb); have n3_ := Aside0.mk (Kd.R_below (by (with_reducible repeat (first | apply Kd.R_alloc | apply Kd.R_drewN | apply Kd.R_drew)); exact HO194.out) hb); have n4_ := Aside0.mk (Kd.C_below (by repeat (first | (with_reducible exact HR198.out) | (with_reducible refine Kd.C_alloc ?_ _) | (with_reducible refine Kd.C_drewN ?_ _) | (with_reducible refine Kd.C_drew ?_) | exact HR198.out)) hb); have n5_ := Aside0.mk (below_step (by repeat (first | (with_reducible first | exact HB.out | apply below_alloc | apply pw_below_drewN | apply below_drew1) | exact HB.out)) hb); clear HO_9; clear HO_11; clear HO_13; clear HO194; clear HR198; clear HB; have HO_9 := n0_; have HO_11 := n1_; have HO_13 := n2_; have HO194 := n3_; have HR198 := n4_; have HB := n5_; clear n0_ n1_ n2_ n3_ n4_ n5_; (try clear hb); (try clear hb2); (try clear hk); (try clear hi)) | ((with_reducible refine gate_callee (f := 39) rfl ?_); refine goesL_ (some 98) rfl rfl Try.func39 (by kernel_rfl) rfl #[.slice Ao83 y195.length co83] rfl (by (try simp only [List.map_toArray, List.map_cons, List.map_nil]); first | done | rfl | (simp only [List.length_drop, List.length_take]; rfl)) ?_; (with_reducible refine (meter_Energy.calls k3 _ _ y195 t201 t202 t203 _ ?side1 ?side2 A51.out).mono ?_); (case side1 => repeat (first | exact (by repeat (first | (with_reducible exact HR198.out) | (with_reducible refine Kd.C_alloc ?_ _) | (with_reducible refine Kd.C_drewN ?_ _) | (with_reducible refine Kd.C_drew ?_) | exact HR198.out)) | (with_reducible refine Kd.C_alloc ?_ _) | (with_reducible refine Kd.C_drewN ?_ _) | (with_reducible refine Kd.C_drew ?_))); (case side2 => exact HC198.out); rintro e w85 ⟨rfl, hb⟩; refine ⟨_, rfl, ?_⟩; have n0_ := Aside0.mk (Kd.R_below (by (with_reducible repeat (first | apply Kd.R_alloc | apply Kd.R_drewN | apply Kd.R_drew)); exact HO_9.out) hb); have n1_ := Aside0.mk (Kd.R_below (by (with_reducible repeat (first | apply Kd.R_alloc | apply Kd.R_drewN | apply Kd.R_drew)); exact HO_11.out) hb); have n2_ := Aside0.mk (Kd.R_below (by (with_reducible repeat (first | apply Kd.R_alloc | apply Kd.R_drewN | apply Kd.R_drew)); exact HO_13.out) hb); have n3_ := Aside0.mk (Kd.R_below (by (with_reducible repeat (first | apply Kd.R_alloc | apply Kd.R_drewN | apply Kd.R_drew)); exact HO194.out) hb); have n4_ := Aside0.mk (Kd.C_below (by repeat (first | (with_reducible exact HR198.out) | (with_reducible refine Kd.C_alloc ?_ _) | (with_reducible refine Kd.C_drewN ?_ _) | (with_reducible refine Kd.C_drew ?_) | exact HR198.out)) hb); have n5_ := Aside0.mk (below_step (by repeat (first | (with_reducible first | exact HB.out | apply below_alloc | apply pw_below_drewN | apply below_drew1) | exact HB.out)) hb); clear HO_9; clear HO_11; clear HO_13; clear HO194; clear HR198; clear HB; have HO_9 := n0_; have HO_11 := n1_; have HO_13 := n2_; have HO194 := n3_; have HR198 := n4_; have HB := n5_; clear n0_ n1_ n2_ n3_ n4_ n5_; (try clear hb); (try clear hb2); (try clear hk); (try clear hi); obtain ⟨Ao86, co86, eo86⟩ := Kd.R_slice HO_13.out; subst eo86) | ((with_reducible refine gate_callee (f := 22) rfl ?_); refine goesL_ (some 101) rfl rfl Try.func22 (by kernel_rfl) rfl #[.slice Ao80 t171.length co80, .slice Ao86 t175.length co86] rfl (by (try simp only [List.map_toArray, List.map_cons, List.map_nil]); first | done | rfl | (simp only [List.length_drop, List.length_take]; rfl)) ?_; (with_reducible refine (pylonref12_SameSeries.calls k3 _ _ t171 _ _ t175 false _ ?side1 ?side2 ?side3 ?side4 A52.out).mono ?_); (case side1 => repeat (first | exact (Kd.R_reads' HO_11.out).2.2 | (with_reducible refine Kd.C_alloc ?_ _) | (with_reducible refine Kd.C_drewN ?_ _) | (with_reducible refine Kd.C_drew ?_))); (case side2 => exact (Kd.R_reads' HO_11.out).2.1); (case side3 => repeat (first | exact (Kd.R_reads' HO_13.out).2.2 | (with_reducible refine Kd.C_alloc ?_ _) | (with_reducible refine Kd.C_drewN ?_ _) | (with_reducible refine Kd.C_drew ?_))); (case side4 => exact (Kd.R_reads' HO_13.out).2.1); rintro e w' ⟨rfl, ⟨nd, rfl⟩⟩; refine ⟨_, rfl, ?_⟩))
                                        go_ret
                                        exact ⟨by first | rfl | (simp [errW_none, errW_some] <;> rfl) | (simp [*, errW_none, errW_some] <;> rfl), by repeat (first | (with_reducible first | exact HB.out | apply below_alloc | apply pw_below_drewN | apply below_drew1) | exact HB.out)⟩
                                    · rw [if_neg c49] at H
                                      exact absurd H (by simp)
                                  · rw [if_neg c48] at H
                                    exact absurd H (by simp)
                                · rw [if_neg c47] at H
                                  exact absurd H (by simp)
                              · rw [if_neg c46] at H
                                exact absurd H (by simp)
          · rw [if_neg c9] at H
            exact absurd H (by simp)
        · rw [if_neg c8] at H
          exact absurd H (by simp)
      · rw [if_neg c7] at H
        exact absurd H (by simp)
    · rw [if_neg c6] at H
      exact absurd H (by simp)
  · replace c5 := Bool.eq_false_iff.mpr c5
    subst c5
    have H1 : (some false) = some r := by rw [if_neg (show ¬ (false = true) by decide)] at H; exact H
    clear H
    have H := H1
    clear H1
    obtain rfl := Option.some.inj H
    go_enter Try.func11, Try.ntmps11
    go_wp2_with (first | ((with_reducible refine gate_callee (f := 20) rfl ?_); refine goesL_ (some 17) rfl rfl Try.func20 (by kernel_rfl) rfl #[] rfl (by (try simp only [List.map_toArray, List.map_cons, List.map_nil]); first | done | rfl | (simp only [List.length_drop, List.length_take]; rfl)) ?_; (with_reducible refine (pylonlaw12_awake.calls k  false _ A4.out).mono ?_); rintro e w87 ⟨rfl, hb⟩; refine ⟨_, rfl, ?_⟩; have n0_ := Aside0.mk (below_step (by repeat (first | (with_reducible first | exact HB.out | apply below_alloc | apply pw_below_drewN | apply below_drew1) | exact HB.out)) hb); clear HB; have HB := n0_; clear n0_; (try clear hb); (try clear hb2); (try clear hk); (try clear hi)))
    go_ret
    exact ⟨by first | rfl | (simp [errW_none, errW_some] <;> rfl) | (simp [*, errW_none, errW_some] <;> rfl), by repeat (first | (with_reducible first | exact HB.out | apply below_alloc | apply pw_below_drewN | apply below_drew1) | exact HB.out)⟩
/-- THE ONE PURE STATEMENT of pylonlaw12_MeterKeeps. -/
def pylonlaw12_MeterKeeps.Pure : Prop := ∀ (l0 : List (S25)) (a1 : Int) (a2 : Int), (l0.length * 40 ≤ 140737488351232 ∧ ∀ y_ ∈ l0, okS25 y_) → ((Lit.int .i64 a1).wf = true) → ((Lit.int .i64 a2).wf = true) → ∃ k, pylonlaw12_MeterKeeps.f k l0 a1 a2 = some true

end Go.Proofs.Ytapimggcnneabaa.PMK
