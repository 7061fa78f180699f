-- Written by a program of this session for this claim (wip/print2.sh). Lean checks it.
import Derived.Test.YtbjkjakilpifhaaPCx0
import Derived.Test.YtbjkjakilpifhaaPCx1
namespace Go.Proofs.Ytbjkjakilpifhaa.PC
open Go.Proofs.YtbjkjakilpifhaaW.PrintWords
attribute [local go_sem high] fx_eql fx_neq fx_lss fx_leq fx_gtr fx_geq fx_add fx_sub fx_mul fx_neg fx_toint cxx_add cxx_sub cxx_mul cxx_eql cxx_neq cxx_pick st_float st_complex
open Go.RowKit Go.Proofs.YtbjkjakilpifhaaW.PrintWords Go.Proofs.YtbjkjakilpifhaaW.PrintLast Go.Proofs.YtbjkjakilpifhaaW.PrintMore
attribute [local go_sem] max2_int min2_int max_two min_two max_three min_three max_four min_four   -- for this text's walks alone
set_option linter.unusedVariables false
set_option linter.unusedSimpArgs false

/-! ### vee_Check: function 15 -/
mutual
def vee_Check.l0 : Nat → Int → Int → Bool → List (S32) → Int → Int → ByteArray → Int → Int → Int → Int → Int → List (S32) → Option (Int × Int)
  | 0, _, _, _, _, _, _, _, _, _, _, _, _, _ => none
  | k + 1, x1, x2, x8, x15, x16, x17, x105000, x105001, x105002, x105003, x105004, x105005, x105006 => if x17 < x16 then (if 0 ≤ x17 then (if x17 < (x15.length : Int) then ((vee_Good.f ((rd_T32 x15 x17).f0) ((rd_T32 x15 x17).f1) ((rd_T32 x15 x17).f2) ((rd_T32 x15 x17).f3) ((rd_T32 x15 x17).f4)).bind fun t107 => (if x8 = true then (vee_Check.j1 k x1 x2 true x17 t107 x15 x16 x17 x105000 x105001 x105002 x105003 x105004 x105005 x105006 ((rd_T32 x15 x17).f0) ((rd_T32 x15 x17).f1) ((rd_T32 x15 x17).f2) ((rd_T32 x15 x17).f3) ((rd_T32 x15 x17).f4)) else (vee_Check.j1 k x1 x2 t107 x17 t107 x15 x16 x17 x105000 x105001 x105002 x105003 x105004 x105005 x105006 ((rd_T32 x15 x17).f0) ((rd_T32 x15 x17).f1) ((rd_T32 x15 x17).f2) ((rd_T32 x15 x17).f3) ((rd_T32 x15 x17).f4)))) else (none)) else (none)) else (if x8 = true then (some (0, 0)) else (some ((x105006.length : Int), 3)))
def vee_Check.j1 : Nat → Int → Int → Bool → Int → Bool → List (S32) → Int → Int → ByteArray → Int → Int → Int → Int → Int → List (S32) → Int → Int → Int → Int → Int → Option (Int × Int)
  | 0, _, _, _, _, _, _, _, _, _, _, _, _, _, _, _, _, _, _, _, _ => none
  | k + 1, x1, x2, x8, x9, x11, x15, x16, x17, x105000, x105001, x105002, x105003, x105004, x105005, x105006, x107000, x107001, x107002, x107003, x107004 => if x9 > 0 then (if 0 ≤ (wrap64 (x9 - 1)) then (if (wrap64 (x9 - 1)) < (x105006.length : Int) then (if x11 = true then (if x2 > 0 then ((vee_Good.f ((rd_T32 x105006 (wrap64 (x9 - 1))).f0) ((rd_T32 x105006 (wrap64 (x9 - 1))).f1) ((rd_T32 x105006 (wrap64 (x9 - 1))).f2) ((rd_T32 x105006 (wrap64 (x9 - 1))).f3) ((rd_T32 x105006 (wrap64 (x9 - 1))).f4)).bind fun t110 => (if t110 = true then (vee_Check.j2 k x1 x2 x8 x9 x11 ((wrap64 (((rd_T32 x105006 (wrap64 (x9 - 1))).f0) + 1)) == x107000) x15 x16 x17 x105000 x105001 x105002 x105003 x105004 x105005 x105006 x107000 x107001 x107002 x107003 x107004 ((rd_T32 x105006 (wrap64 (x9 - 1))).f0) ((rd_T32 x105006 (wrap64 (x9 - 1))).f1) ((rd_T32 x105006 (wrap64 (x9 - 1))).f2) ((rd_T32 x105006 (wrap64 (x9 - 1))).f3) ((rd_T32 x105006 (wrap64 (x9 - 1))).f4)) else (vee_Check.j2 k x1 x2 x8 x9 x11 false x15 x16 x17 x105000 x105001 x105002 x105003 x105004 x105005 x105006 x107000 x107001 x107002 x107003 x107004 ((rd_T32 x105006 (wrap64 (x9 - 1))).f0) ((rd_T32 x105006 (wrap64 (x9 - 1))).f1) ((rd_T32 x105006 (wrap64 (x9 - 1))).f2) ((rd_T32 x105006 (wrap64 (x9 - 1))).f3) ((rd_T32 x105006 (wrap64 (x9 - 1))).f4)))) else (vee_Check.j2 k x1 x2 x8 x9 x11 false x15 x16 x17 x105000 x105001 x105002 x105003 x105004 x105005 x105006 x107000 x107001 x107002 x107003 x107004 ((rd_T32 x105006 (wrap64 (x9 - 1))).f0) ((rd_T32 x105006 (wrap64 (x9 - 1))).f1) ((rd_T32 x105006 (wrap64 (x9 - 1))).f2) ((rd_T32 x105006 (wrap64 (x9 - 1))).f3) ((rd_T32 x105006 (wrap64 (x9 - 1))).f4))) else (vee_Check.j2 k x1 x2 x8 x9 x11 false x15 x16 x17 x105000 x105001 x105002 x105003 x105004 x105005 x105006 x107000 x107001 x107002 x107003 x107004 ((rd_T32 x105006 (wrap64 (x9 - 1))).f0) ((rd_T32 x105006 (wrap64 (x9 - 1))).f1) ((rd_T32 x105006 (wrap64 (x9 - 1))).f2) ((rd_T32 x105006 (wrap64 (x9 - 1))).f3) ((rd_T32 x105006 (wrap64 (x9 - 1))).f4))) else (none)) else (none)) else (vee_Check.j2 k x1 x2 x8 x9 x11 false x15 x16 x17 x105000 x105001 x105002 x105003 x105004 x105005 x105006 x107000 x107001 x107002 x107003 x107004 0 0 0 0 0)
def vee_Check.j2 : Nat → Int → Int → Bool → Int → Bool → Bool → List (S32) → Int → Int → ByteArray → Int → Int → Int → Int → Int → List (S32) → Int → Int → Int → Int → Int → Int → Int → Int → Int → Int → Option (Int × Int)
  | 0, _, _, _, _, _, _, _, _, _, _, _, _, _, _, _, _, _, _, _, _, _, _, _, _, _, _ => none
  | k + 1, x1, x2, x8, x9, x11, x13, x15, x16, x17, x105000, x105001, x105002, x105003, x105004, x105005, x105006, x107000, x107001, x107002, x107003, x107004, x109000, x109001, x109002, x109003, x109004 => if x107000 < 0 then (some (x9, 3)) else (if x107000 ≥ x105003 then (some (x9, 3)) else (if x9 > 0 then (vee_Check.j3 k x1 x2 x8 x9 x11 x13 x15 x16 x17 (decide (x107000 ≤ x109000)) x105000 x105001 x105002 x105003 x105004 x105005 x105006 x107000 x107001 x107002 x107003 x107004 x109000 x109001 x109002 x109003 x109004) else (vee_Check.j3 k x1 x2 x8 x9 x11 x13 x15 x16 x17 false x105000 x105001 x105002 x105003 x105004 x105005 x105006 x107000 x107001 x107002 x107003 x107004 x109000 x109001 x109002 x109003 x109004)))
def vee_Check.j3 : Nat → Int → Int → Bool → Int → Bool → Bool → List (S32) → Int → Int → Bool → ByteArray → Int → Int → Int → Int → Int → List (S32) → Int → Int → Int → Int → Int → Int → Int → Int → Int → Int → Option (Int × Int)
  | 0, _, _, _, _, _, _, _, _, _, _, _, _, _, _, _, _, _, _, _, _, _, _, _, _, _, _, _ => none
  | k + 1, x1, x2, x8, x9, x11, x13, x15, x16, x17, x53, x105000, x105001, x105002, x105003, x105004, x105005, x105006, x107000, x107001, x107002, x107003, x107004, x109000, x109001, x109002, x109003, x109004 => if x53 = true then (some (x9, 3)) else (if x11 = true then (vee_Check.j4 k x1 x2 x8 x9 x11 x13 x15 x16 x17 false x105000 x105001 x105002 x105003 x105004 x105005 x105006 x107000 x107001 x107002 x107003 x107004 x109000 x109001 x109002 x109003 x109004) else (vee_Check.j4 k x1 x2 x8 x9 x11 x13 x15 x16 x17 (x107004 != 83) x105000 x105001 x105002 x105003 x105004 x105005 x105006 x107000 x107001 x107002 x107003 x107004 x109000 x109001 x109002 x109003 x109004))
def vee_Check.j4 : Nat → Int → Int → Bool → Int → Bool → Bool → List (S32) → Int → Int → Bool → ByteArray → Int → Int → Int → Int → Int → List (S32) → Int → Int → Int → Int → Int → Int → Int → Int → Int → Int → Option (Int × Int)
  | 0, _, _, _, _, _, _, _, _, _, _, _, _, _, _, _, _, _, _, _, _, _, _, _, _, _, _, _ => none
  | k + 1, x1, x2, x8, x9, x11, x13, x15, x16, x17, x53, x105000, x105001, x105002, x105003, x105004, x105005, x105006, x107000, x107001, x107002, x107003, x107004, x109000, x109001, x109002, x109003, x109004 => if x53 = true then (some (x9, 3)) else (if x11 = true then (if (mn x107001 x107002) < 0 then (vee_Check.j5 k x1 x2 x8 x9 x13 x15 x16 x17 true x105000 x105001 x105002 x105003 x105004 x105005 x105006 x107000 x107001 x107002 x107003 x107004 x109000 x109001 x109002 x109003 x109004) else (if (mx x107001 x107002) > x1 then (vee_Check.j5 k x1 x2 x8 x9 x13 x15 x16 x17 true x105000 x105001 x105002 x105003 x105004 x105005 x105006 x107000 x107001 x107002 x107003 x107004 x109000 x109001 x109002 x109003 x109004) else ((vee_apart.f x107003 0 x1).bind fun t111 => (vee_Check.j5 k x1 x2 x8 x9 x13 x15 x16 x17 t111 x105000 x105001 x105002 x105003 x105004 x105005 x105006 x107000 x107001 x107002 x107003 x107004 x109000 x109001 x109002 x109003 x109004)))) else (vee_Check.j5 k x1 x2 x8 x9 x13 x15 x16 x17 false x105000 x105001 x105002 x105003 x105004 x105005 x105006 x107000 x107001 x107002 x107003 x107004 x109000 x109001 x109002 x109003 x109004))
def vee_Check.j5 : Nat → Int → Int → Bool → Int → Bool → List (S32) → Int → Int → Bool → ByteArray → Int → Int → Int → Int → Int → List (S32) → Int → Int → Int → Int → Int → Int → Int → Int → Int → Int → Option (Int × Int)
  | 0, _, _, _, _, _, _, _, _, _, _, _, _, _, _, _, _, _, _, _, _, _, _, _, _, _, _ => none
  | k + 1, x1, x2, x8, x9, x13, x15, x16, x17, x53, x105000, x105001, x105002, x105003, x105004, x105005, x105006, x107000, x107001, x107002, x107003, x107004, x109000, x109001, x109002, x109003, x109004 => if x53 = true then (some (x9, 3)) else (if x13 = true then ((vee_apart.f x107001 x109001 x2).bind fun t112 => (if t112 = true then (some (x9, 3)) else ((vee_apart.f x107002 x109002 x2).bind fun t113 => (if t113 = true then (some (x9, 3)) else (vee_Check.l0 k x1 x2 x8 x15 x16 (wrap64 (x17 + 1)) x105000 x105001 x105002 x105003 x105004 x105005 x105006))))) else (vee_Check.l0 k x1 x2 x8 x15 x16 (wrap64 (x17 + 1)) x105000 x105001 x105002 x105003 x105004 x105005 x105006))
end
def vee_Check.f (k : Nat) (a0_0 : ByteArray) (a0_1 : Int) (a0_2 : Int) (a0_3 : Int) (a0_4 : Int) (a0_5 : Int) (l0_6 : List (S32)) (a1 : Int) (a2 : Int) : Option (Int × Int) := vee_Check.l0 k a1 a2 false l0_6 (l0_6.length : Int) 0 a0_0 a0_1 a0_2 a0_3 a0_4 a0_5 l0_6
theorem vee_Check.mono_l : ∀ k, (∀ y0 y1 y2 y3 y4 y5 y6 y7 y8 y9 y10 y11 y12, LeO (vee_Check.l0 k y0 y1 y2 y3 y4 y5 y6 y7 y8 y9 y10 y11 y12) (vee_Check.l0 (k + 1) y0 y1 y2 y3 y4 y5 y6 y7 y8 y9 y10 y11 y12)) ∧ (∀ y0 y1 y2 y3 y4 y5 y6 y7 y8 y9 y10 y11 y12 y13 y14 y15 y16 y17 y18 y19, LeO (vee_Check.j1 k y0 y1 y2 y3 y4 y5 y6 y7 y8 y9 y10 y11 y12 y13 y14 y15 y16 y17 y18 y19) (vee_Check.j1 (k + 1) y0 y1 y2 y3 y4 y5 y6 y7 y8 y9 y10 y11 y12 y13 y14 y15 y16 y17 y18 y19)) ∧ (∀ y0 y1 y2 y3 y4 y5 y6 y7 y8 y9 y10 y11 y12 y13 y14 y15 y16 y17 y18 y19 y20 y21 y22 y23 y24 y25, LeO (vee_Check.j2 k y0 y1 y2 y3 y4 y5 y6 y7 y8 y9 y10 y11 y12 y13 y14 y15 y16 y17 y18 y19 y20 y21 y22 y23 y24 y25) (vee_Check.j2 (k + 1) y0 y1 y2 y3 y4 y5 y6 y7 y8 y9 y10 y11 y12 y13 y14 y15 y16 y17 y18 y19 y20 y21 y22 y23 y24 y25)) ∧ (∀ y0 y1 y2 y3 y4 y5 y6 y7 y8 y9 y10 y11 y12 y13 y14 y15 y16 y17 y18 y19 y20 y21 y22 y23 y24 y25 y26, LeO (vee_Check.j3 k y0 y1 y2 y3 y4 y5 y6 y7 y8 y9 y10 y11 y12 y13 y14 y15 y16 y17 y18 y19 y20 y21 y22 y23 y24 y25 y26) (vee_Check.j3 (k + 1) y0 y1 y2 y3 y4 y5 y6 y7 y8 y9 y10 y11 y12 y13 y14 y15 y16 y17 y18 y19 y20 y21 y22 y23 y24 y25 y26)) ∧ (∀ y0 y1 y2 y3 y4 y5 y6 y7 y8 y9 y10 y11 y12 y13 y14 y15 y16 y17 y18 y19 y20 y21 y22 y23 y24 y25 y26, LeO (vee_Check.j4 k y0 y1 y2 y3 y4 y5 y6 y7 y8 y9 y10 y11 y12 y13 y14 y15 y16 y17 y18 y19 y20 y21 y22 y23 y24 y25 y26) (vee_Check.j4 (k + 1) y0 y1 y2 y3 y4 y5 y6 y7 y8 y9 y10 y11 y12 y13 y14 y15 y16 y17 y18 y19 y20 y21 y22 y23 y24 y25 y26)) ∧ (∀ y0 y1 y2 y3 y4 y5 y6 y7 y8 y9 y10 y11 y12 y13 y14 y15 y16 y17 y18 y19 y20 y21 y22 y23 y24 y25, LeO (vee_Check.j5 k y0 y1 y2 y3 y4 y5 y6 y7 y8 y9 y10 y11 y12 y13 y14 y15 y16 y17 y18 y19 y20 y21 y22 y23 y24 y25) (vee_Check.j5 (k + 1) y0 y1 y2 y3 y4 y5 y6 y7 y8 y9 y10 y11 y12 y13 y14 y15 y16 y17 y18 y19 y20 y21 y22 y23 y24 y25))
  | 0 => ⟨fun _ _ _ _ _ _ _ _ _ _ _ _ _ r h => by simp [vee_Check.l0] at h, fun _ _ _ _ _ _ _ _ _ _ _ _ _ _ _ _ _ _ _ _ r h => by simp [vee_Check.j1] at h, fun _ _ _ _ _ _ _ _ _ _ _ _ _ _ _ _ _ _ _ _ _ _ _ _ _ _ r h => by simp [vee_Check.j2] at h, fun _ _ _ _ _ _ _ _ _ _ _ _ _ _ _ _ _ _ _ _ _ _ _ _ _ _ _ r h => by simp [vee_Check.j3] at h, fun _ _ _ _ _ _ _ _ _ _ _ _ _ _ _ _ _ _ _ _ _ _ _ _ _ _ _ r h => by simp [vee_Check.j4] at h, fun _ _ _ _ _ _ _ _ _ _ _ _ _ _ _ _ _ _ _ _ _ _ _ _ _ _ r h => by simp [vee_Check.j5] at h⟩
  | k + 1 => by
    obtain ⟨ih0, ih1, ih2, ih3, ih4, ih5⟩ := vee_Check.mono_l k
    refine ⟨?_, ?_, ?_, ?_, ?_, ?_⟩
    · intro y0 y1 y2 y3 y4 y5 y6 y7 y8 y9 y10 y11 y12
      unfold vee_Check.l0
      repeat' first
      | (with_reducible exact ih0 _ _ _ _ _ _ _ _ _ _ _ _ _)
      | (with_reducible exact ih1 _ _ _ _ _ _ _ _ _ _ _ _ _ _ _ _ _ _ _ _)
      | (with_reducible exact ih2 _ _ _ _ _ _ _ _ _ _ _ _ _ _ _ _ _ _ _ _ _ _ _ _ _ _)
      | (with_reducible exact ih3 _ _ _ _ _ _ _ _ _ _ _ _ _ _ _ _ _ _ _ _ _ _ _ _ _ _ _)
      | (with_reducible exact ih4 _ _ _ _ _ _ _ _ _ _ _ _ _ _ _ _ _ _ _ _ _ _ _ _ _ _ _)
      | (with_reducible exact ih5 _ _ _ _ _ _ _ _ _ _ _ _ _ _ _ _ _ _ _ _ _ _ _ _ _ _)
      | (with_reducible exact LeO.refl _)
      | (with_reducible exact LeO.none _)
      | (with_reducible refine LeO.ite ?_ ?_)
      | (with_reducible refine LeO.bind ?_ (fun _ => ?_))
      | exact ih0 _ _ _ _ _ _ _ _ _ _ _ _ _
      | exact ih1 _ _ _ _ _ _ _ _ _ _ _ _ _ _ _ _ _ _ _ _
      | exact ih2 _ _ _ _ _ _ _ _ _ _ _ _ _ _ _ _ _ _ _ _ _ _ _ _ _ _
      | exact ih3 _ _ _ _ _ _ _ _ _ _ _ _ _ _ _ _ _ _ _ _ _ _ _ _ _ _ _
      | exact ih4 _ _ _ _ _ _ _ _ _ _ _ _ _ _ _ _ _ _ _ _ _ _ _ _ _ _ _
      | exact ih5 _ _ _ _ _ _ _ _ _ _ _ _ _ _ _ _ _ _ _ _ _ _ _ _ _ _
      | exact LeO.none _
      | refine LeO.ite ?_ ?_
      | refine LeO.bind ?_ (fun _ => ?_)
    · intro y0 y1 y2 y3 y4 y5 y6 y7 y8 y9 y10 y11 y12 y13 y14 y15 y16 y17 y18 y19
      unfold vee_Check.j1
      repeat' first
      | (with_reducible exact ih0 _ _ _ _ _ _ _ _ _ _ _ _ _)
      | (with_reducible exact ih1 _ _ _ _ _ _ _ _ _ _ _ _ _ _ _ _ _ _ _ _)
      | (with_reducible exact ih2 _ _ _ _ _ _ _ _ _ _ _ _ _ _ _ _ _ _ _ _ _ _ _ _ _ _)
      | (with_reducible exact ih3 _ _ _ _ _ _ _ _ _ _ _ _ _ _ _ _ _ _ _ _ _ _ _ _ _ _ _)
      | (with_reducible exact ih4 _ _ _ _ _ _ _ _ _ _ _ _ _ _ _ _ _ _ _ _ _ _ _ _ _ _ _)
      | (with_reducible exact ih5 _ _ _ _ _ _ _ _ _ _ _ _ _ _ _ _ _ _ _ _ _ _ _ _ _ _)
      | (with_reducible exact LeO.refl _)
      | (with_reducible exact LeO.none _)
      | (with_reducible refine LeO.ite ?_ ?_)
      | (with_reducible refine LeO.bind ?_ (fun _ => ?_))
      | exact ih0 _ _ _ _ _ _ _ _ _ _ _ _ _
      | exact ih1 _ _ _ _ _ _ _ _ _ _ _ _ _ _ _ _ _ _ _ _
      | exact ih2 _ _ _ _ _ _ _ _ _ _ _ _ _ _ _ _ _ _ _ _ _ _ _ _ _ _
      | exact ih3 _ _ _ _ _ _ _ _ _ _ _ _ _ _ _ _ _ _ _ _ _ _ _ _ _ _ _
      | exact ih4 _ _ _ _ _ _ _ _ _ _ _ _ _ _ _ _ _ _ _ _ _ _ _ _ _ _ _
      | exact ih5 _ _ _ _ _ _ _ _ _ _ _ _ _ _ _ _ _ _ _ _ _ _ _ _ _ _
      | exact LeO.none _
      | refine LeO.ite ?_ ?_
      | refine LeO.bind ?_ (fun _ => ?_)
    · intro y0 y1 y2 y3 y4 y5 y6 y7 y8 y9 y10 y11 y12 y13 y14 y15 y16 y17 y18 y19 y20 y21 y22 y23 y24 y25
      unfold vee_Check.j2
      repeat' first
      | (with_reducible exact ih0 _ _ _ _ _ _ _ _ _ _ _ _ _)
      | (with_reducible exact ih1 _ _ _ _ _ _ _ _ _ _ _ _ _ _ _ _ _ _ _ _)
      | (with_reducible exact ih2 _ _ _ _ _ _ _ _ _ _ _ _ _ _ _ _ _ _ _ _ _ _ _ _ _ _)
      | (with_reducible exact ih3 _ _ _ _ _ _ _ _ _ _ _ _ _ _ _ _ _ _ _ _ _ _ _ _ _ _ _)
      | (with_reducible exact ih4 _ _ _ _ _ _ _ _ _ _ _ _ _ _ _ _ _ _ _ _ _ _ _ _ _ _ _)
      | (with_reducible exact ih5 _ _ _ _ _ _ _ _ _ _ _ _ _ _ _ _ _ _ _ _ _ _ _ _ _ _)
      | (with_reducible exact LeO.refl _)
      | (with_reducible exact LeO.none _)
      | (with_reducible refine LeO.ite ?_ ?_)
      | (with_reducible refine LeO.bind ?_ (fun _ => ?_))
      | exact ih0 _ _ _ _ _ _ _ _ _ _ _ _ _
      | exact ih1 _ _ _ _ _ _ _ _ _ _ _ _ _ _ _ _ _ _ _ _
      | exact ih2 _ _ _ _ _ _ _ _ _ _ _ _ _ _ _ _ _ _ _ _ _ _ _ _ _ _
      | exact ih3 _ _ _ _ _ _ _ _ _ _ _ _ _ _ _ _ _ _ _ _ _ _ _ _ _ _ _
      | exact ih4 _ _ _ _ _ _ _ _ _ _ _ _ _ _ _ _ _ _ _ _ _ _ _ _ _ _ _
      | exact ih5 _ _ _ _ _ _ _ _ _ _ _ _ _ _ _ _ _ _ _ _ _ _ _ _ _ _
      | exact LeO.none _
      | refine LeO.ite ?_ ?_
      | refine LeO.bind ?_ (fun _ => ?_)
    · intro y0 y1 y2 y3 y4 y5 y6 y7 y8 y9 y10 y11 y12 y13 y14 y15 y16 y17 y18 y19 y20 y21 y22 y23 y24 y25 y26
      unfold vee_Check.j3
      repeat' first
      | (with_reducible exact ih0 _ _ _ _ _ _ _ _ _ _ _ _ _)
      | (with_reducible exact ih1 _ _ _ _ _ _ _ _ _ _ _ _ _ _ _ _ _ _ _ _)
      | (with_reducible exact ih2 _ _ _ _ _ _ _ _ _ _ _ _ _ _ _ _ _ _ _ _ _ _ _ _ _ _)
      | (with_reducible exact ih3 _ _ _ _ _ _ _ _ _ _ _ _ _ _ _ _ _ _ _ _ _ _ _ _ _ _ _)
      | (with_reducible exact ih4 _ _ _ _ _ _ _ _ _ _ _ _ _ _ _ _ _ _ _ _ _ _ _ _ _ _ _)
      | (with_reducible exact ih5 _ _ _ _ _ _ _ _ _ _ _ _ _ _ _ _ _ _ _ _ _ _ _ _ _ _)
      | (with_reducible exact LeO.refl _)
      | (with_reducible exact LeO.none _)
      | (with_reducible refine LeO.ite ?_ ?_)
      | (with_reducible refine LeO.bind ?_ (fun _ => ?_))
      | exact ih0 _ _ _ _ _ _ _ _ _ _ _ _ _
      | exact ih1 _ _ _ _ _ _ _ _ _ _ _ _ _ _ _ _ _ _ _ _
      | exact ih2 _ _ _ _ _ _ _ _ _ _ _ _ _ _ _ _ _ _ _ _ _ _ _ _ _ _
      | exact ih3 _ _ _ _ _ _ _ _ _ _ _ _ _ _ _ _ _ _ _ _ _ _ _ _ _ _ _
      | exact ih4 _ _ _ _ _ _ _ _ _ _ _ _ _ _ _ _ _ _ _ _ _ _ _ _ _ _ _
      | exact ih5 _ _ _ _ _ _ _ _ _ _ _ _ _ _ _ _ _ _ _ _ _ _ _ _ _ _
      | exact LeO.none _
      | refine LeO.ite ?_ ?_
      | refine LeO.bind ?_ (fun _ => ?_)
    · intro y0 y1 y2 y3 y4 y5 y6 y7 y8 y9 y10 y11 y12 y13 y14 y15 y16 y17 y18 y19 y20 y21 y22 y23 y24 y25 y26
      unfold vee_Check.j4
      repeat' first
      | (with_reducible exact ih0 _ _ _ _ _ _ _ _ _ _ _ _ _)
      | (with_reducible exact ih1 _ _ _ _ _ _ _ _ _ _ _ _ _ _ _ _ _ _ _ _)
      | (with_reducible exact ih2 _ _ _ _ _ _ _ _ _ _ _ _ _ _ _ _ _ _ _ _ _ _ _ _ _ _)
      | (with_reducible exact ih3 _ _ _ _ _ _ _ _ _ _ _ _ _ _ _ _ _ _ _ _ _ _ _ _ _ _ _)
      | (with_reducible exact ih4 _ _ _ _ _ _ _ _ _ _ _ _ _ _ _ _ _ _ _ _ _ _ _ _ _ _ _)
      | (with_reducible exact ih5 _ _ _ _ _ _ _ _ _ _ _ _ _ _ _ _ _ _ _ _ _ _ _ _ _ _)
      | (with_reducible exact LeO.refl _)
      | (with_reducible exact LeO.none _)
      | (with_reducible refine LeO.ite ?_ ?_)
      | (with_reducible refine LeO.bind ?_ (fun _ => ?_))
      | exact ih0 _ _ _ _ _ _ _ _ _ _ _ _ _
      | exact ih1 _ _ _ _ _ _ _ _ _ _ _ _ _ _ _ _ _ _ _ _
      | exact ih2 _ _ _ _ _ _ _ _ _ _ _ _ _ _ _ _ _ _ _ _ _ _ _ _ _ _
      | exact ih3 _ _ _ _ _ _ _ _ _ _ _ _ _ _ _ _ _ _ _ _ _ _ _ _ _ _ _
      | exact ih4 _ _ _ _ _ _ _ _ _ _ _ _ _ _ _ _ _ _ _ _ _ _ _ _ _ _ _
      | exact ih5 _ _ _ _ _ _ _ _ _ _ _ _ _ _ _ _ _ _ _ _ _ _ _ _ _ _
      | exact LeO.none _
      | refine LeO.ite ?_ ?_
      | refine LeO.bind ?_ (fun _ => ?_)
    · intro y0 y1 y2 y3 y4 y5 y6 y7 y8 y9 y10 y11 y12 y13 y14 y15 y16 y17 y18 y19 y20 y21 y22 y23 y24 y25
      unfold vee_Check.j5
      repeat' first
      | (with_reducible exact ih0 _ _ _ _ _ _ _ _ _ _ _ _ _)
      | (with_reducible exact ih1 _ _ _ _ _ _ _ _ _ _ _ _ _ _ _ _ _ _ _ _)
      | (with_reducible exact ih2 _ _ _ _ _ _ _ _ _ _ _ _ _ _ _ _ _ _ _ _ _ _ _ _ _ _)
      | (with_reducible exact ih3 _ _ _ _ _ _ _ _ _ _ _ _ _ _ _ _ _ _ _ _ _ _ _ _ _ _ _)
      | (with_reducible exact ih4 _ _ _ _ _ _ _ _ _ _ _ _ _ _ _ _ _ _ _ _ _ _ _ _ _ _ _)
      | (with_reducible exact ih5 _ _ _ _ _ _ _ _ _ _ _ _ _ _ _ _ _ _ _ _ _ _ _ _ _ _)
      | (with_reducible exact LeO.refl _)
      | (with_reducible exact LeO.none _)
      | (with_reducible refine LeO.ite ?_ ?_)
      | (with_reducible refine LeO.bind ?_ (fun _ => ?_))
      | exact ih0 _ _ _ _ _ _ _ _ _ _ _ _ _
      | exact ih1 _ _ _ _ _ _ _ _ _ _ _ _ _ _ _ _ _ _ _ _
      | exact ih2 _ _ _ _ _ _ _ _ _ _ _ _ _ _ _ _ _ _ _ _ _ _ _ _ _ _
      | exact ih3 _ _ _ _ _ _ _ _ _ _ _ _ _ _ _ _ _ _ _ _ _ _ _ _ _ _ _
      | exact ih4 _ _ _ _ _ _ _ _ _ _ _ _ _ _ _ _ _ _ _ _ _ _ _ _ _ _ _
      | exact ih5 _ _ _ _ _ _ _ _ _ _ _ _ _ _ _ _ _ _ _ _ _ _ _ _ _ _
      | exact LeO.none _
      | refine LeO.ite ?_ ?_
      | refine LeO.bind ?_ (fun _ => ?_)
theorem vee_Check.mono : ∀ a0 a1 a2 a3 a4 a5 a6 a7 a8 k, LeO (vee_Check.f k a0 a1 a2 a3 a4 a5 a6 a7 a8) (vee_Check.f (k + 1) a0 a1 a2 a3 a4 a5 a6 a7 a8) := by
  intro a0 a1 a2 a3 a4 a5 a6 a7 a8 k
  obtain ⟨ih0, ih1, ih2, ih3, ih4, ih5⟩ := vee_Check.mono_l k
  unfold vee_Check.f
  repeat' first
      | (with_reducible exact ih0 _ _ _ _ _ _ _ _ _ _ _ _ _)
      | (with_reducible exact ih1 _ _ _ _ _ _ _ _ _ _ _ _ _ _ _ _ _ _ _ _)
      | (with_reducible exact ih2 _ _ _ _ _ _ _ _ _ _ _ _ _ _ _ _ _ _ _ _ _ _ _ _ _ _)
      | (with_reducible exact ih3 _ _ _ _ _ _ _ _ _ _ _ _ _ _ _ _ _ _ _ _ _ _ _ _ _ _ _)
      | (with_reducible exact ih4 _ _ _ _ _ _ _ _ _ _ _ _ _ _ _ _ _ _ _ _ _ _ _ _ _ _ _)
      | (with_reducible exact ih5 _ _ _ _ _ _ _ _ _ _ _ _ _ _ _ _ _ _ _ _ _ _ _ _ _ _)
      | (with_reducible exact LeO.refl _)
      | (with_reducible exact LeO.none _)
      | (with_reducible refine LeO.ite ?_ ?_)
      | (with_reducible refine LeO.bind ?_ (fun _ => ?_))
      | exact ih0 _ _ _ _ _ _ _ _ _ _ _ _ _
      | exact ih1 _ _ _ _ _ _ _ _ _ _ _ _ _ _ _ _ _ _ _ _
      | exact ih2 _ _ _ _ _ _ _ _ _ _ _ _ _ _ _ _ _ _ _ _ _ _ _ _ _ _
      | exact ih3 _ _ _ _ _ _ _ _ _ _ _ _ _ _ _ _ _ _ _ _ _ _ _ _ _ _ _
      | exact ih4 _ _ _ _ _ _ _ _ _ _ _ _ _ _ _ _ _ _ _ _ _ _ _ _ _ _ _
      | exact ih5 _ _ _ _ _ _ _ _ _ _ _ _ _ _ _ _ _ _ _ _ _ _ _ _ _ _
      | exact LeO.none _
      | refine LeO.ite ?_ ?_
      | refine LeO.bind ?_ (fun _ => ?_)
set_option maxHeartbeats 8000000 in
set_option maxRecDepth 100000 in
theorem vee_Check.calls (k : Nat) (a0_0 : ByteArray) (a0_1 : Int) (a0_2 : Int) (a0_3 : Int) (a0_4 : Int) (a0_5 : Int) (A0_6 : Option Addr) (c0_6 : Nat) (l0_6 : List (S32)) (a1 : Int) (a2 : Int) (r1 : Int) (r2 : Int) (w : World) (hr0_6 : Kd.C k32 w A0_6 l0_6.length l0_6) (hc0_6 : l0_6.length ≤ c0_6) (h : vee_Check.f k a0_0 a0_1 a0_2 a0_3 a0_4 a0_5 l0_6 a1 a2 = some (r1, r2)) :
    Calls Try.prog 15 #[.agg #[.string a0_0, .int .i64 a0_1, .int .i64 a0_2, .int .i64 a0_3, .int .i64 a0_4, .int .i64 a0_5, .slice A0_6 l0_6.length c0_6], .int .i64 a1, .int .i64 a2] w fun e w' => e = .returned (.tuple #[.int .i64 r1, .int .i64 r2]) ∧ Below w.heap.size w w' := by
  have hu24 := Try.underlying24
  have hu32 := Try.underlying32
  have HR0_6 := Aside0.mk hr0_6
  have HC0_6 := Aside0.mk hc0_6
  clear hr0_6 hc0_6
  have HB := Aside0.mk (Below.refl w.heap.size w)
  have H : (vee_Check.l0 k a1 a2 false l0_6 (l0_6.length : Int) 0 a0_0 a0_1 a0_2 a0_3 a0_4 a0_5 l0_6) = some (r1, r2) := h
  clear h
  have H' := Aside0.mk H
  clear H
  go_enter Try.func15, Try.ntmps15
  go_wp2_with (first | ((with_reducible refine gate_dst (N := 3) rfl ?_); (try (refine gate_guard (by rfl) ?_; dsimp only)); refine box_event ?hg (N := 3) ?hd (cs := #[.string a0_0, .int .i64 a0_1, .int .i64 a0_2, .int .i64 a0_3, .int .i64 a0_4, .int .i64 a0_5, .slice A0_6 l0_6.length c0_6]) (t := 24) ?hr ?_; (case hd => rfl); (case hg => rfl); (case hr => first | (go_simp; done) | (go_simp; rfl)); intro gb104 hg w4 hbox hb; have n0_ := Aside0.mk (below_step (by repeat (first | (with_reducible first | exact HB.out | apply below_alloc | apply pw_below_drewN | apply below_drew1) | exact HB.out)) hb); have n1_ := Aside0.mk (hbox); have n2_ := Aside0.mk ((by rw [hg]; exact (below_size (by repeat (first | (with_reducible first | exact HB.out | apply below_alloc | apply pw_below_drewN | apply below_drew1) | exact HB.out))) : w.heap.size ≤ gb104)); have n3_ := Aside0.mk ((by rw [hg]; exact (below_size (by repeat (first | (with_reducible first | exact HB.out | apply below_alloc | apply pw_below_drewN | apply below_drew1) | exact HB.out))) : w.heap.size ≤ gb104)); clear HB; have HB := n0_; have BK104 := n1_; have GW104 := n2_; have GE104 := n3_; clear n0_ n1_ n2_ n3_; clear hb hbox hg; have hcz5_0 : w4.cell? ⟨gb104, 0, none⟩ = some (.string a0_0) := (blk_cell BK104.out 0).trans rfl; have hcz5_1 : w4.cell? ⟨gb104, 1, none⟩ = some (.int .i64 a0_1) := (blk_cell BK104.out 1).trans rfl; have hcz5_2 : w4.cell? ⟨gb104, 2, none⟩ = some (.int .i64 a0_2) := (blk_cell BK104.out 2).trans rfl; have hcz5_3 : w4.cell? ⟨gb104, 3, none⟩ = some (.int .i64 a0_3) := (blk_cell BK104.out 3).trans rfl; have hcz5_4 : w4.cell? ⟨gb104, 4, none⟩ = some (.int .i64 a0_4) := (blk_cell BK104.out 4).trans rfl; have hcz5_5 : w4.cell? ⟨gb104, 5, none⟩ = some (.int .i64 a0_5) := (blk_cell BK104.out 5).trans rfl; have hcz5_6 : w4.cell? ⟨gb104, 6, none⟩ = some (.slice A0_6 l0_6.length c0_6) := (blk_cell BK104.out 6).trans rfl; have hfz5_0 := blk_frozen BK104.out 0; have hfz5_1 := blk_frozen BK104.out 1; have hfz5_2 := blk_frozen BK104.out 2; have hfz5_3 := blk_frozen BK104.out 3; have hfz5_4 := blk_frozen BK104.out 4; have hfz5_5 := blk_frozen BK104.out 5; have hfz5_6 := blk_frozen BK104.out 6))
  go_loopg [8, 17] k (fun kq v8 v17 w' => ∃ (x8_1 : Bool) (x17_1 : Int), v8 = .bool x8_1 ∧ v17 = .int .i64 x17_1 ∧ Aside0 (vee_Check.l0 kq a1 a2 x8_1 l0_6 (l0_6.length : Int) x17_1 a0_0 a0_1 a0_2 a0_3 a0_4 a0_5 l0_6 = some (r1, r2)) ∧ Aside0 (kq ≤ k) ∧ Aside0 (w'.heap[gb104]? = some (.cells #[.string a0_0, .int .i64 a0_1, .int .i64 a0_2, .int .i64 a0_3, .int .i64 a0_4, .int .i64 a0_5, (.slice A0_6 l0_6.length c0_6)] 24 (0, 0))) ∧ Aside0 (Below w.heap.size w w'))
  case atStart => exact ⟨(false), (0), (by first | rfl | (simp; done) | (simp [*]; done)), (by first | rfl | (simp; done) | (simp [*]; done)), H', ⟨Nat.le_refl _⟩, ⟨by (with_reducible repeat (first | refine blk_drewN ?_ _ | refine blk_drew ?_ | refine blk_alloc ?_ _)); exact BK104.out⟩, ⟨by repeat (first | (with_reducible first | exact HB.out | apply below_alloc | apply pw_below_drewN | apply below_drew1 | refine below_set ?_ GE104.out) | exact HB.out)⟩⟩
  case round =>
    clear H'
    try clear c1
    try clear p2
    try clear hcz5_0
    try clear hcz5_1
    try clear hcz5_2
    try clear hcz5_3
    try clear hcz5_4
    try clear hcz5_5
    try clear hcz5_6
    try clear hfz5_0
    try clear hfz5_1
    try clear hfz5_2
    try clear hfz5_3
    try clear hfz5_4
    try clear hfz5_5
    try clear hfz5_6
    obtain ⟨x8_1, x17_1, rfl, rfl, HA, HK1, BK104, HB⟩ := hrel
    cases gk with
    | zero => exact absurd HA.out (by simp [vee_Check.l0])
    | succ k1 =>
      have H := HA.out
      clear HA
      simp only [vee_Check.l0] at H
      by_cases c6 : x17_1 < (l0_6.length : Int)
      · rw [if_pos c6] at H
        have c6b0 : decide (x17_1 < (l0_6.length : Int)) = true := decide_eq_true c6
        clear c6
        by_cases c7 : 0 ≤ x17_1
        · rw [if_pos c7] at H
          have c7b0 : decide (0 ≤ x17_1) = true := decide_eq_true c7
          clear c7
          by_cases c8 : x17_1 < (l0_6.length : Int)
          · rw [if_pos c8] at H
            have c8b0 : decide (x17_1 < (l0_6.length : Int)) = true := decide_eq_true c8
            clear c8
            replace H := Option.bind_eq_some_iff.mp H
            obtain ⟨t107, A90, H⟩ := H
            replace H : (if x8_1 = true then (vee_Check.j1 k1 a1 a2 true x17_1 t107 l0_6 (l0_6.length : Int) x17_1 a0_0 a0_1 a0_2 a0_3 a0_4 a0_5 l0_6 ((rd_T32 l0_6 x17_1).f0) ((rd_T32 l0_6 x17_1).f1) ((rd_T32 l0_6 x17_1).f2) ((rd_T32 l0_6 x17_1).f3) ((rd_T32 l0_6 x17_1).f4)) else (vee_Check.j1 k1 a1 a2 t107 x17_1 t107 l0_6 (l0_6.length : Int) x17_1 a0_0 a0_1 a0_2 a0_3 a0_4 a0_5 l0_6 ((rd_T32 l0_6 x17_1).f0) ((rd_T32 l0_6 x17_1).f1) ((rd_T32 l0_6 x17_1).f2) ((rd_T32 l0_6 x17_1).f3) ((rd_T32 l0_6 x17_1).f4))) = some (r1, r2) := H
            have A9 := Aside0.mk A90
            clear A90
            have HC10 := Aside0.mk H
            clear H
            have p105 : 0 ≤ (x17_1 : Int) := of_decide_eq_true (by first | (with_reducible assumption) | assumption)
            have q105 : x17_1 < (l0_6.length : Int) := of_decide_eq_true (by first | (with_reducible assumption) | assumption)
            obtain ⟨ad105, e105, hx105_0, hx105_1, hx105_2, hx105_3, hx105_4⟩ := at_T32 HR0_6.out x17_1 p105 q105
            cases e105
            replace hx105_0 := (HB.out.cell (World.block_lt_of_cell? w _ hx105_0)).trans hx105_0
            replace hx105_1 := (HB.out.cell (World.block_lt_of_cell? w _ hx105_1)).trans hx105_1
            replace hx105_2 := (HB.out.cell (World.block_lt_of_cell? w _ hx105_2)).trans hx105_2
            replace hx105_3 := (HB.out.cell (World.block_lt_of_cell? w _ hx105_3)).trans hx105_3
            replace hx105_4 := (HB.out.cell (World.block_lt_of_cell? w _ hx105_4)).trans hx105_4
            replace p105 := eq_true p105
            replace q105 := eq_true q105
            go_upto_region 6 with (first | ((with_reducible refine gate_dst (N := 10) rfl ?_); (try (refine gate_guard (by rfl) ?_; dsimp only)); refine box_event ?hg (N := 10) ?hd (cs := #[.int .i64 0, .int .i64 0, .int .i64 0, .int .i64 0, .int .u8 0]) (t := 32) ?hr ?_; (case hd => rfl); (case hg => rfl); (case hr => first | (go_simp; done) | (go_simp; rfl)); intro gb106 hg w11 hbox hb; have n0_ := Aside0.mk (blk_below (g := gb104) (o := .cells #[.string a0_0, .int .i64 a0_1, .int .i64 a0_2, .int .i64 a0_3, .int .i64 a0_4, .int .i64 a0_5, .slice (some ad105) l0_6.length c0_6] 24 (0, 0)) (by (with_reducible repeat (first | refine blk_drewN ?_ _ | refine blk_drew ?_ | refine blk_alloc ?_ _)); exact BK104.out) hb); have n1_ := Aside0.mk (below_step (by repeat (first | (with_reducible first | exact HB.out | apply below_alloc | apply pw_below_drewN | apply below_drew1 | refine below_set ?_ GE104.out) | exact HB.out)) hb); have n2_ := Aside0.mk (hbox); have n3_ := Aside0.mk ((by rw [hg]; exact (below_size (by repeat (first | (with_reducible first | exact HB.out | apply below_alloc | apply pw_below_drewN | apply below_drew1 | refine below_set ?_ GE104.out) | exact HB.out))) : w.heap.size ≤ gb106)); have n4_ := Aside0.mk ((by rw [hg]; exact (below_size (by repeat (first | (with_reducible first | exact HB.out | apply below_alloc | apply pw_below_drewN | apply below_drew1 | refine below_set ?_ GE104.out) | exact HB.out))) : w.heap.size ≤ gb106)); have n5_ := Aside0.mk ((by rw [hg]; exact Nat.ne_of_lt (blk_lt (g := gb104) (o := .cells #[.string a0_0, .int .i64 a0_1, .int .i64 a0_2, .int .i64 a0_3, .int .i64 a0_4, .int .i64 a0_5, .slice (some ad105) l0_6.length c0_6] 24 (0, 0)) (by (with_reducible repeat (first | refine blk_drewN ?_ _ | refine blk_drew ?_ | refine blk_alloc ?_ _)); exact BK104.out)) : gb104 ≠ gb106)); have n6_ := Aside0.mk ((by rw [hg]; exact Nat.ne_of_gt (blk_lt (g := gb104) (o := .cells #[.string a0_0, .int .i64 a0_1, .int .i64 a0_2, .int .i64 a0_3, .int .i64 a0_4, .int .i64 a0_5, .slice (some ad105) l0_6.length c0_6] 24 (0, 0)) (by (with_reducible repeat (first | refine blk_drewN ?_ _ | refine blk_drew ?_ | refine blk_alloc ?_ _)); exact BK104.out)) : gb106 ≠ gb104)); clear BK104; clear HB; have BK104 := n0_; have HB := n1_; have BK106 := n2_; have GW106 := n3_; have GE106 := n4_; have NB104_106 := n5_; have NB106_104 := n6_; clear n0_ n1_ n2_ n3_ n4_ n5_ n6_; clear hb hbox hg; have hnb12 := NB106_104.out; have hnc12 := NB104_106.out; have hcz13_0 : w11.cell? ⟨gb106, 0, none⟩ = some (.int .i64 0) := (blk_cell BK106.out 0).trans rfl; have hcz13_1 : w11.cell? ⟨gb106, 1, none⟩ = some (.int .i64 0) := (blk_cell BK106.out 1).trans rfl; have hcz13_2 : w11.cell? ⟨gb106, 2, none⟩ = some (.int .i64 0) := (blk_cell BK106.out 2).trans rfl; have hcz13_3 : w11.cell? ⟨gb106, 3, none⟩ = some (.int .i64 0) := (blk_cell BK106.out 3).trans rfl; have hcz13_4 : w11.cell? ⟨gb106, 4, none⟩ = some (.int .u8 0) := (blk_cell BK106.out 4).trans rfl; have hfz13_0 := blk_frozen BK106.out 0; have hfz13_1 := blk_frozen BK106.out 1; have hfz13_2 := blk_frozen BK106.out 2; have hfz13_3 := blk_frozen BK106.out 3; have hfz13_4 := blk_frozen BK106.out 4) | ((with_reducible refine gate_callee (f := 17) rfl ?_); refine goesL_ (some 23) rfl rfl Try.func17 (by kernel_rfl) rfl #[.agg #[.int .i64 ((rd_T32 l0_6 x17_1).f0), .int .i64 ((rd_T32 l0_6 x17_1).f1), .int .i64 ((rd_T32 l0_6 x17_1).f2), .int .i64 ((rd_T32 l0_6 x17_1).f3), .int .u8 ((rd_T32 l0_6 x17_1).f4)]] rfl (by (try simp only [List.map_toArray, List.map_cons, List.map_nil]); first | done | rfl | (simp only [List.length_drop, List.length_take]; rfl)) ?_; (with_reducible refine (vee_Good.calls ((rd_T32 l0_6 x17_1).f0) ((rd_T32 l0_6 x17_1).f1) ((rd_T32 l0_6 x17_1).f2) ((rd_T32 l0_6 x17_1).f3) ((rd_T32 l0_6 x17_1).f4) t107 _ A9.out).mono ?_); rintro e w14 ⟨rfl, hb⟩; refine ⟨_, rfl, ?_⟩; have n0_ := Aside0.mk (blk_below (g := gb104) (o := .cells #[.string a0_0, .int .i64 a0_1, .int .i64 a0_2, .int .i64 a0_3, .int .i64 a0_4, .int .i64 a0_5, .slice (some ad105) l0_6.length c0_6] 24 (0, 0)) (by (with_reducible repeat (first | refine blk_drewN ?_ _ | refine blk_drew ?_ | refine blk_alloc ?_ _)); refine blk_far ?_ NB104_106.out _; (with_reducible repeat (first | refine blk_drewN ?_ _ | refine blk_drew ?_ | refine blk_alloc ?_ _)); refine blk_far ?_ NB104_106.out _; (with_reducible repeat (first | refine blk_drewN ?_ _ | refine blk_drew ?_ | refine blk_alloc ?_ _)); refine blk_far ?_ NB104_106.out _; (with_reducible repeat (first | refine blk_drewN ?_ _ | refine blk_drew ?_ | refine blk_alloc ?_ _)); refine blk_far ?_ NB104_106.out _; (with_reducible repeat (first | refine blk_drewN ?_ _ | refine blk_drew ?_ | refine blk_alloc ?_ _)); refine blk_far ?_ NB104_106.out _; (with_reducible repeat (first | refine blk_drewN ?_ _ | refine blk_drew ?_ | refine blk_alloc ?_ _)); exact BK104.out) hb); have n1_ := Aside0.mk (blk_below (g := gb106) (o := .cells #[.int .i64 ((rd_T32 l0_6 x17_1).f0), .int .i64 ((rd_T32 l0_6 x17_1).f1), .int .i64 ((rd_T32 l0_6 x17_1).f2), .int .i64 ((rd_T32 l0_6 x17_1).f3), .int .u8 ((rd_T32 l0_6 x17_1).f4)] 32 (0, 0)) (by (with_reducible repeat (first | refine blk_drewN ?_ _ | refine blk_drew ?_ | refine blk_alloc ?_ _)); refine blk_put (cs := #[.int .i64 ((rd_T32 l0_6 x17_1).f0), .int .i64 ((rd_T32 l0_6 x17_1).f1), .int .i64 ((rd_T32 l0_6 x17_1).f2), .int .i64 ((rd_T32 l0_6 x17_1).f3), .int .u8 0]) ?_ 4 _ rfl; (with_reducible repeat (first | refine blk_drewN ?_ _ | refine blk_drew ?_ | refine blk_alloc ?_ _)); refine blk_put (cs := #[.int .i64 ((rd_T32 l0_6 x17_1).f0), .int .i64 ((rd_T32 l0_6 x17_1).f1), .int .i64 ((rd_T32 l0_6 x17_1).f2), .int .i64 0, .int .u8 0]) ?_ 3 _ rfl; (with_reducible repeat (first | refine blk_drewN ?_ _ | refine blk_drew ?_ | refine blk_alloc ?_ _)); refine blk_put (cs := #[.int .i64 ((rd_T32 l0_6 x17_1).f0), .int .i64 ((rd_T32 l0_6 x17_1).f1), .int .i64 0, .int .i64 0, .int .u8 0]) ?_ 2 _ rfl; (with_reducible repeat (first | refine blk_drewN ?_ _ | refine blk_drew ?_ | refine blk_alloc ?_ _)); refine blk_put (cs := #[.int .i64 ((rd_T32 l0_6 x17_1).f0), .int .i64 0, .int .i64 0, .int .i64 0, .int .u8 0]) ?_ 1 _ rfl; (with_reducible repeat (first | refine blk_drewN ?_ _ | refine blk_drew ?_ | refine blk_alloc ?_ _)); refine blk_put (cs := #[.int .i64 0, .int .i64 0, .int .i64 0, .int .i64 0, .int .u8 0]) ?_ 0 _ rfl; (with_reducible repeat (first | refine blk_drewN ?_ _ | refine blk_drew ?_ | refine blk_alloc ?_ _)); exact BK106.out) hb); have n2_ := Aside0.mk (below_step (by repeat (first | (with_reducible first | exact HB.out | apply below_alloc | apply pw_below_drewN | apply below_drew1 | refine below_set ?_ GE104.out | refine below_set ?_ GE106.out) | exact HB.out)) hb); clear BK104; clear BK106; clear HB; have BK104 := n0_; have BK106 := n1_; have HB := n2_; clear n0_ n1_ n2_; (try clear hb); (try clear hb2); (try clear hk); (try clear hi)))
            (try simp only [Act.put, List.setIfInBounds_toArray, List.set_cons_zero, List.set_cons_succ])
            go_cut [8] (fun v8 wc => ∃ (kq : Nat) (x8_9 : Bool), v8 = .bool x8_9 ∧ Aside0 (vee_Check.j1 kq a1 a2 x8_9 x17_1 t107 l0_6 (l0_6.length : Int) x17_1 a0_0 a0_1 a0_2 a0_3 a0_4 a0_5 l0_6 ((rd_T32 l0_6 x17_1).f0) ((rd_T32 l0_6 x17_1).f1) ((rd_T32 l0_6 x17_1).f2) ((rd_T32 l0_6 x17_1).f3) ((rd_T32 l0_6 x17_1).f4) = some (r1, r2)) ∧ Aside0 (kq ≤ k1) ∧ Aside0 (wc.heap[gb104]? = some (.cells #[.string a0_0, .int .i64 a0_1, .int .i64 a0_2, .int .i64 a0_3, .int .i64 a0_4, .int .i64 a0_5, (.slice (some ad105) l0_6.length c0_6)] 24 (0, 0))) ∧ Aside0 (wc.heap[gb106]? = some (.cells #[.int .i64 ((rd_T32 l0_6 x17_1).f0), .int .i64 ((rd_T32 l0_6 x17_1).f1), .int .i64 ((rd_T32 l0_6 x17_1).f2), .int .i64 ((rd_T32 l0_6 x17_1).f3), .int .u8 ((rd_T32 l0_6 x17_1).f4)] 32 (0, 0))) ∧ Aside0 (Below w.heap.size w wc))
            case first =>
              have H := HC10.out
              clear HC10
              by_cases c15 : x8_1 = true
              · subst c15
                have H1 : (vee_Check.j1 k1 a1 a2 true x17_1 t107 l0_6 (l0_6.length : Int) x17_1 a0_0 a0_1 a0_2 a0_3 a0_4 a0_5 l0_6 ((rd_T32 l0_6 x17_1).f0) ((rd_T32 l0_6 x17_1).f1) ((rd_T32 l0_6 x17_1).f2) ((rd_T32 l0_6 x17_1).f3) ((rd_T32 l0_6 x17_1).f4)) = some (r1, r2) := by rw [if_pos rfl] at H; exact H
                clear H
                have H := H1
                clear H1
                have H' := Aside0.mk H
                clear H
                go_wp2
                go_meet
                case rel => exact ⟨_, (true), (by first | rfl | (simp; done) | (simp [*]; done)), H', ⟨by have := HK1.out; first | omega | exact Nat.le_refl _⟩, ⟨by (with_reducible repeat (first | refine blk_drewN ?_ _ | refine blk_drew ?_ | refine blk_alloc ?_ _)); exact BK104.out⟩, ⟨by (with_reducible repeat (first | refine blk_drewN ?_ _ | refine blk_drew ?_ | refine blk_alloc ?_ _)); exact BK106.out⟩, ⟨by repeat (first | (with_reducible first | exact HB.out | apply below_alloc | apply pw_below_drewN | apply below_drew1 | refine below_set ?_ GE104.out | refine below_set ?_ GE106.out) | exact HB.out)⟩⟩
              · replace c15 := Bool.eq_false_iff.mpr c15
                subst c15
                have H1 : (vee_Check.j1 k1 a1 a2 t107 x17_1 t107 l0_6 (l0_6.length : Int) x17_1 a0_0 a0_1 a0_2 a0_3 a0_4 a0_5 l0_6 ((rd_T32 l0_6 x17_1).f0) ((rd_T32 l0_6 x17_1).f1) ((rd_T32 l0_6 x17_1).f2) ((rd_T32 l0_6 x17_1).f3) ((rd_T32 l0_6 x17_1).f4)) = some (r1, r2) := by rw [if_neg (show ¬ (false = true) by decide)] at H; exact H
                clear H
                have H := H1
                clear H1
                have H' := Aside0.mk H
                clear H
                go_wp2
                go_meet
                case rel => exact ⟨_, (t107), (by first | rfl | (simp; done) | (simp [*]; done)), H', ⟨by have := HK1.out; first | omega | exact Nat.le_refl _⟩, ⟨by (with_reducible repeat (first | refine blk_drewN ?_ _ | refine blk_drew ?_ | refine blk_alloc ?_ _)); exact BK104.out⟩, ⟨by (with_reducible repeat (first | refine blk_drewN ?_ _ | refine blk_drew ?_ | refine blk_alloc ?_ _)); exact BK106.out⟩, ⟨by repeat (first | (with_reducible first | exact HB.out | apply below_alloc | apply pw_below_drewN | apply below_drew1 | refine below_set ?_ GE104.out | refine below_set ?_ GE106.out) | exact HB.out)⟩⟩
            case rest =>
              clear HC10
              try clear c1
              try clear p1
              try clear q1
              try clear hx1
              try clear p2
              try clear c6
              try clear c6b0
              try clear c7
              try clear c7b0
              try clear c8
              try clear c8b0
              try clear p10
              try clear q10
              try clear hx10
              try clear c12
              try clear c15
              try clear hcz13_0
              try clear hcz13_1
              try clear hcz13_2
              try clear hcz13_3
              try clear hcz13_4
              try clear hcz5_0
              try clear hcz5_1
              try clear hcz5_2
              try clear hcz5_3
              try clear hcz5_4
              try clear hcz5_5
              try clear hcz5_6
              try clear hfz13_0
              try clear hfz13_1
              try clear hfz13_2
              try clear hfz13_3
              try clear hfz13_4
              try clear hfz5_0
              try clear hfz5_1
              try clear hfz5_2
              try clear hfz5_3
              try clear hfz5_4
              try clear hfz5_5
              try clear hfz5_6
              try clear hx105_0
              try clear hx105_1
              try clear hx105_2
              try clear hx105_3
              try clear hx105_4
              try clear p105
              try clear p2
              try clear q105
              obtain ⟨kq, x8_9, rfl, HA, HJ9, BK104, BK106, HB⟩ := hcut
              cases kq with
              | zero => exact absurd HA.out (by simp [vee_Check.j1])
              | succ kj9 =>
                have H := HA.out
                clear HA
                simp only [vee_Check.j1] at H
                have HC16 := Aside0.mk H
                clear H
                go_upto_if 29 with (first | ((with_reducible refine gate_dst (N := 12) rfl ?_); (try (refine gate_guard (by rfl) ?_; dsimp only)); refine box_event ?hg (N := 12) ?hd (cs := #[.int .i64 0, .int .i64 0, .int .i64 0, .int .i64 0, .int .u8 0]) (t := 32) ?hr ?_; (case hd => rfl); (case hg => rfl); (case hr => first | (go_simp; done) | (go_simp; rfl)); intro gb108 hg w17 hbox hb; have n0_ := Aside0.mk (blk_below (g := gb104) (o := .cells #[.string a0_0, .int .i64 a0_1, .int .i64 a0_2, .int .i64 a0_3, .int .i64 a0_4, .int .i64 a0_5, .slice (some ad105) l0_6.length c0_6] 24 (0, 0)) (by (with_reducible repeat (first | refine blk_drewN ?_ _ | refine blk_drew ?_ | refine blk_alloc ?_ _)); exact BK104.out) hb); have n1_ := Aside0.mk (blk_below (g := gb106) (o := .cells #[.int .i64 ((rd_T32 l0_6 x17_1).f0), .int .i64 ((rd_T32 l0_6 x17_1).f1), .int .i64 ((rd_T32 l0_6 x17_1).f2), .int .i64 ((rd_T32 l0_6 x17_1).f3), .int .u8 ((rd_T32 l0_6 x17_1).f4)] 32 (0, 0)) (by (with_reducible repeat (first | refine blk_drewN ?_ _ | refine blk_drew ?_ | refine blk_alloc ?_ _)); exact BK106.out) hb); have n2_ := Aside0.mk (below_step (by repeat (first | (with_reducible first | exact HB.out | apply below_alloc | apply pw_below_drewN | apply below_drew1 | refine below_set ?_ GE104.out | refine below_set ?_ GE106.out) | exact HB.out)) hb); have n3_ := Aside0.mk (hbox); have n4_ := Aside0.mk ((by rw [hg]; exact (below_size (by repeat (first | (with_reducible first | exact HB.out | apply below_alloc | apply pw_below_drewN | apply below_drew1 | refine below_set ?_ GE104.out | refine below_set ?_ GE106.out) | exact HB.out))) : w.heap.size ≤ gb108)); have n5_ := Aside0.mk ((by rw [hg]; exact (below_size (by repeat (first | (with_reducible first | exact HB.out | apply below_alloc | apply pw_below_drewN | apply below_drew1 | refine below_set ?_ GE104.out | refine below_set ?_ GE106.out) | exact HB.out))) : w.heap.size ≤ gb108)); have n6_ := Aside0.mk ((by rw [hg]; exact Nat.ne_of_lt (blk_lt (g := gb104) (o := .cells #[.string a0_0, .int .i64 a0_1, .int .i64 a0_2, .int .i64 a0_3, .int .i64 a0_4, .int .i64 a0_5, .slice (some ad105) l0_6.length c0_6] 24 (0, 0)) (by (with_reducible repeat (first | refine blk_drewN ?_ _ | refine blk_drew ?_ | refine blk_alloc ?_ _)); exact BK104.out)) : gb104 ≠ gb108)); have n7_ := Aside0.mk ((by rw [hg]; exact Nat.ne_of_gt (blk_lt (g := gb104) (o := .cells #[.string a0_0, .int .i64 a0_1, .int .i64 a0_2, .int .i64 a0_3, .int .i64 a0_4, .int .i64 a0_5, .slice (some ad105) l0_6.length c0_6] 24 (0, 0)) (by (with_reducible repeat (first | refine blk_drewN ?_ _ | refine blk_drew ?_ | refine blk_alloc ?_ _)); exact BK104.out)) : gb108 ≠ gb104)); have n8_ := Aside0.mk ((by rw [hg]; exact Nat.ne_of_lt (blk_lt (g := gb106) (o := .cells #[.int .i64 ((rd_T32 l0_6 x17_1).f0), .int .i64 ((rd_T32 l0_6 x17_1).f1), .int .i64 ((rd_T32 l0_6 x17_1).f2), .int .i64 ((rd_T32 l0_6 x17_1).f3), .int .u8 ((rd_T32 l0_6 x17_1).f4)] 32 (0, 0)) (by (with_reducible repeat (first | refine blk_drewN ?_ _ | refine blk_drew ?_ | refine blk_alloc ?_ _)); exact BK106.out)) : gb106 ≠ gb108)); have n9_ := Aside0.mk ((by rw [hg]; exact Nat.ne_of_gt (blk_lt (g := gb106) (o := .cells #[.int .i64 ((rd_T32 l0_6 x17_1).f0), .int .i64 ((rd_T32 l0_6 x17_1).f1), .int .i64 ((rd_T32 l0_6 x17_1).f2), .int .i64 ((rd_T32 l0_6 x17_1).f3), .int .u8 ((rd_T32 l0_6 x17_1).f4)] 32 (0, 0)) (by (with_reducible repeat (first | refine blk_drewN ?_ _ | refine blk_drew ?_ | refine blk_alloc ?_ _)); exact BK106.out)) : gb108 ≠ gb106)); clear BK104; clear BK106; clear HB; have BK104 := n0_; have BK106 := n1_; have HB := n2_; have BK108 := n3_; have GW108 := n4_; have GE108 := n5_; have NB104_108 := n6_; have NB108_104 := n7_; have NB106_108 := n8_; have NB108_106 := n9_; clear n0_ n1_ n2_ n3_ n4_ n5_ n6_ n7_ n8_ n9_; clear hb hbox hg))
                (try simp only [Act.put, List.setIfInBounds_toArray, List.set_cons_zero, List.set_cons_succ])
                go_cut [13] (fun v13 wc => ∃ (kq : Nat) (x13_15 : Bool) (x109000_15 : Int) (x109001_15 : Int) (x109002_15 : Int) (x109003_15 : Int) (x109004_15 : Int), v13 = .bool x13_15 ∧ Aside0 (vee_Check.j2 kq a1 a2 x8_9 x17_1 t107 x13_15 l0_6 (l0_6.length : Int) x17_1 a0_0 a0_1 a0_2 a0_3 a0_4 a0_5 l0_6 ((rd_T32 l0_6 x17_1).f0) ((rd_T32 l0_6 x17_1).f1) ((rd_T32 l0_6 x17_1).f2) ((rd_T32 l0_6 x17_1).f3) ((rd_T32 l0_6 x17_1).f4) x109000_15 x109001_15 x109002_15 x109003_15 x109004_15 = some (r1, r2)) ∧ Aside0 (kq ≤ kj9) ∧ Aside0 (wc.heap[gb104]? = some (.cells #[.string a0_0, .int .i64 a0_1, .int .i64 a0_2, .int .i64 a0_3, .int .i64 a0_4, .int .i64 a0_5, (.slice (some ad105) l0_6.length c0_6)] 24 (0, 0))) ∧ Aside0 (wc.heap[gb106]? = some (.cells #[.int .i64 ((rd_T32 l0_6 x17_1).f0), .int .i64 ((rd_T32 l0_6 x17_1).f1), .int .i64 ((rd_T32 l0_6 x17_1).f2), .int .i64 ((rd_T32 l0_6 x17_1).f3), .int .u8 ((rd_T32 l0_6 x17_1).f4)] 32 (0, 0))) ∧ Aside0 (wc.heap[gb108]? = some (.cells #[.int .i64 x109000_15, .int .i64 x109001_15, .int .i64 x109002_15, .int .i64 x109003_15, .int .u8 x109004_15] 32 (0, 0))) ∧ Aside0 (Below w.heap.size w wc))
                case first =>
                  have H := HC16.out
                  clear HC16
                  by_cases c18 : x17_1 > 0
                  · rw [if_pos c18] at H
                    have c18b0 : decide (0 < x17_1) = true := decide_eq_true c18
                    clear c18
                    (first | rw [c18b0] | (simp only [i64_w, i32_w]; rw [c18b0]) | skip)
                    obtain ⟨ji19, hji19⟩ : ∃ j_ : Int, (wrap64 (x17_1 - 1)) = j_ := ⟨_, rfl⟩
                    replace H : (if 0 ≤ (ji19) then (if (ji19) < (l0_6.length : Int) then (if t107 = true then (if a2 > 0 then ((vee_Good.f ((rd_T32 l0_6 (ji19)).f0) ((rd_T32 l0_6 (ji19)).f1) ((rd_T32 l0_6 (ji19)).f2) ((rd_T32 l0_6 (ji19)).f3) ((rd_T32 l0_6 (ji19)).f4)).bind fun t110 => (if t110 = true then (vee_Check.j2 kj9 a1 a2 x8_9 x17_1 t107 ((wrap64 (((rd_T32 l0_6 (ji19)).f0) + 1)) == ((rd_T32 l0_6 x17_1).f0)) l0_6 (l0_6.length : Int) x17_1 a0_0 a0_1 a0_2 a0_3 a0_4 a0_5 l0_6 ((rd_T32 l0_6 x17_1).f0) ((rd_T32 l0_6 x17_1).f1) ((rd_T32 l0_6 x17_1).f2) ((rd_T32 l0_6 x17_1).f3) ((rd_T32 l0_6 x17_1).f4) ((rd_T32 l0_6 (ji19)).f0) ((rd_T32 l0_6 (ji19)).f1) ((rd_T32 l0_6 (ji19)).f2) ((rd_T32 l0_6 (ji19)).f3) ((rd_T32 l0_6 (ji19)).f4)) else (vee_Check.j2 kj9 a1 a2 x8_9 x17_1 t107 false l0_6 (l0_6.length : Int) x17_1 a0_0 a0_1 a0_2 a0_3 a0_4 a0_5 l0_6 ((rd_T32 l0_6 x17_1).f0) ((rd_T32 l0_6 x17_1).f1) ((rd_T32 l0_6 x17_1).f2) ((rd_T32 l0_6 x17_1).f3) ((rd_T32 l0_6 x17_1).f4) ((rd_T32 l0_6 (ji19)).f0) ((rd_T32 l0_6 (ji19)).f1) ((rd_T32 l0_6 (ji19)).f2) ((rd_T32 l0_6 (ji19)).f3) ((rd_T32 l0_6 (ji19)).f4)))) else (vee_Check.j2 kj9 a1 a2 x8_9 x17_1 t107 false l0_6 (l0_6.length : Int) x17_1 a0_0 a0_1 a0_2 a0_3 a0_4 a0_5 l0_6 ((rd_T32 l0_6 x17_1).f0) ((rd_T32 l0_6 x17_1).f1) ((rd_T32 l0_6 x17_1).f2) ((rd_T32 l0_6 x17_1).f3) ((rd_T32 l0_6 x17_1).f4) ((rd_T32 l0_6 (ji19)).f0) ((rd_T32 l0_6 (ji19)).f1) ((rd_T32 l0_6 (ji19)).f2) ((rd_T32 l0_6 (ji19)).f3) ((rd_T32 l0_6 (ji19)).f4))) else (vee_Check.j2 kj9 a1 a2 x8_9 x17_1 t107 false l0_6 (l0_6.length : Int) x17_1 a0_0 a0_1 a0_2 a0_3 a0_4 a0_5 l0_6 ((rd_T32 l0_6 x17_1).f0) ((rd_T32 l0_6 x17_1).f1) ((rd_T32 l0_6 x17_1).f2) ((rd_T32 l0_6 x17_1).f3) ((rd_T32 l0_6 x17_1).f4) ((rd_T32 l0_6 (ji19)).f0) ((rd_T32 l0_6 (ji19)).f1) ((rd_T32 l0_6 (ji19)).f2) ((rd_T32 l0_6 (ji19)).f3) ((rd_T32 l0_6 (ji19)).f4))) else (none)) else (none)) = some (r1, r2) := by first | (rw [hji19] at H; exact H) | (simp only [hji19] at H ⊢; exact H)
                    have hji19w : (IntKind.i64.wrap (x17_1 - 1)) = ji19 := (i64_w _).trans hji19
                    by_cases c20 : 0 ≤ (ji19)
                    · rw [if_pos c20] at H
                      have c20b0 : decide (0 ≤ (ji19)) = true := decide_eq_true c20
                      clear c20
                      by_cases c21 : (ji19) < (l0_6.length : Int)
                      · rw [if_pos c21] at H
                        have c21b0 : decide ((ji19) < (l0_6.length : Int)) = true := decide_eq_true c21
                        clear c21
                        by_cases c22 : t107 = true
                        · subst c22
                          have H1 : (if a2 > 0 then ((vee_Good.f ((rd_T32 l0_6 (ji19)).f0) ((rd_T32 l0_6 (ji19)).f1) ((rd_T32 l0_6 (ji19)).f2) ((rd_T32 l0_6 (ji19)).f3) ((rd_T32 l0_6 (ji19)).f4)).bind fun t110 => (if t110 = true then (vee_Check.j2 kj9 a1 a2 x8_9 x17_1 true ((wrap64 (((rd_T32 l0_6 (ji19)).f0) + 1)) == ((rd_T32 l0_6 x17_1).f0)) l0_6 (l0_6.length : Int) x17_1 a0_0 a0_1 a0_2 a0_3 a0_4 a0_5 l0_6 ((rd_T32 l0_6 x17_1).f0) ((rd_T32 l0_6 x17_1).f1) ((rd_T32 l0_6 x17_1).f2) ((rd_T32 l0_6 x17_1).f3) ((rd_T32 l0_6 x17_1).f4) ((rd_T32 l0_6 (ji19)).f0) ((rd_T32 l0_6 (ji19)).f1) ((rd_T32 l0_6 (ji19)).f2) ((rd_T32 l0_6 (ji19)).f3) ((rd_T32 l0_6 (ji19)).f4)) else (vee_Check.j2 kj9 a1 a2 x8_9 x17_1 true false l0_6 (l0_6.length : Int) x17_1 a0_0 a0_1 a0_2 a0_3 a0_4 a0_5 l0_6 ((rd_T32 l0_6 x17_1).f0) ((rd_T32 l0_6 x17_1).f1) ((rd_T32 l0_6 x17_1).f2) ((rd_T32 l0_6 x17_1).f3) ((rd_T32 l0_6 x17_1).f4) ((rd_T32 l0_6 (ji19)).f0) ((rd_T32 l0_6 (ji19)).f1) ((rd_T32 l0_6 (ji19)).f2) ((rd_T32 l0_6 (ji19)).f3) ((rd_T32 l0_6 (ji19)).f4)))) else (vee_Check.j2 kj9 a1 a2 x8_9 x17_1 true false l0_6 (l0_6.length : Int) x17_1 a0_0 a0_1 a0_2 a0_3 a0_4 a0_5 l0_6 ((rd_T32 l0_6 x17_1).f0) ((rd_T32 l0_6 x17_1).f1) ((rd_T32 l0_6 x17_1).f2) ((rd_T32 l0_6 x17_1).f3) ((rd_T32 l0_6 x17_1).f4) ((rd_T32 l0_6 (ji19)).f0) ((rd_T32 l0_6 (ji19)).f1) ((rd_T32 l0_6 (ji19)).f2) ((rd_T32 l0_6 (ji19)).f3) ((rd_T32 l0_6 (ji19)).f4))) = some (r1, r2) := by rw [if_pos rfl] at H; exact H
                          clear H
                          have H := H1
                          clear H1
                          by_cases c23 : a2 > 0
                          · rw [if_pos c23] at H
                            have c23b0 : decide (0 < a2) = true := decide_eq_true c23
                            clear c23
                            replace H := Option.bind_eq_some_iff.mp H
                            obtain ⟨t110, A240, H⟩ := H
                            replace H : (if t110 = true then (vee_Check.j2 kj9 a1 a2 x8_9 x17_1 true ((wrap64 (((rd_T32 l0_6 (ji19)).f0) + 1)) == ((rd_T32 l0_6 x17_1).f0)) l0_6 (l0_6.length : Int) x17_1 a0_0 a0_1 a0_2 a0_3 a0_4 a0_5 l0_6 ((rd_T32 l0_6 x17_1).f0) ((rd_T32 l0_6 x17_1).f1) ((rd_T32 l0_6 x17_1).f2) ((rd_T32 l0_6 x17_1).f3) ((rd_T32 l0_6 x17_1).f4) ((rd_T32 l0_6 (ji19)).f0) ((rd_T32 l0_6 (ji19)).f1) ((rd_T32 l0_6 (ji19)).f2) ((rd_T32 l0_6 (ji19)).f3) ((rd_T32 l0_6 (ji19)).f4)) else (vee_Check.j2 kj9 a1 a2 x8_9 x17_1 true false l0_6 (l0_6.length : Int) x17_1 a0_0 a0_1 a0_2 a0_3 a0_4 a0_5 l0_6 ((rd_T32 l0_6 x17_1).f0) ((rd_T32 l0_6 x17_1).f1) ((rd_T32 l0_6 x17_1).f2) ((rd_T32 l0_6 x17_1).f3) ((rd_T32 l0_6 x17_1).f4) ((rd_T32 l0_6 (ji19)).f0) ((rd_T32 l0_6 (ji19)).f1) ((rd_T32 l0_6 (ji19)).f2) ((rd_T32 l0_6 (ji19)).f3) ((rd_T32 l0_6 (ji19)).f4))) = some (r1, r2) := H
                            have A24 := Aside0.mk A240
                            clear A240
                            by_cases c25 : t110 = true
                            · subst c25
                              have H1 : (vee_Check.j2 kj9 a1 a2 x8_9 x17_1 true ((wrap64 (((rd_T32 l0_6 (ji19)).f0) + 1)) == ((rd_T32 l0_6 x17_1).f0)) l0_6 (l0_6.length : Int) x17_1 a0_0 a0_1 a0_2 a0_3 a0_4 a0_5 l0_6 ((rd_T32 l0_6 x17_1).f0) ((rd_T32 l0_6 x17_1).f1) ((rd_T32 l0_6 x17_1).f2) ((rd_T32 l0_6 x17_1).f3) ((rd_T32 l0_6 x17_1).f4) ((rd_T32 l0_6 (ji19)).f0) ((rd_T32 l0_6 (ji19)).f1) ((rd_T32 l0_6 (ji19)).f2) ((rd_T32 l0_6 (ji19)).f3) ((rd_T32 l0_6 (ji19)).f4)) = some (r1, r2) := by rw [if_pos rfl] at H; exact H
                              clear H
                              have H := H1
                              clear H1
                              have H' := Aside0.mk H
                              clear H
                              have hnb26 := NB104_106.out
                              have hnc26 := NB106_104.out
                              have hnb27 := NB104_108.out
                              have hnc27 := NB108_104.out
                              have hcz28_0 : w17.cell? ⟨gb104, 0, none⟩ = some (.string a0_0) := (blk_cell BK104.out 0).trans rfl
                              have hcz28_1 : w17.cell? ⟨gb104, 1, none⟩ = some (.int .i64 a0_1) := (blk_cell BK104.out 1).trans rfl
                              have hcz28_2 : w17.cell? ⟨gb104, 2, none⟩ = some (.int .i64 a0_2) := (blk_cell BK104.out 2).trans rfl
                              have hcz28_3 : w17.cell? ⟨gb104, 3, none⟩ = some (.int .i64 a0_3) := (blk_cell BK104.out 3).trans rfl
                              have hcz28_4 : w17.cell? ⟨gb104, 4, none⟩ = some (.int .i64 a0_4) := (blk_cell BK104.out 4).trans rfl
                              have hcz28_5 : w17.cell? ⟨gb104, 5, none⟩ = some (.int .i64 a0_5) := (blk_cell BK104.out 5).trans rfl
                              have hcz28_6 : w17.cell? ⟨gb104, 6, none⟩ = some (.slice (some ad105) l0_6.length c0_6) := (blk_cell BK104.out 6).trans rfl
                              have hfz28_0 := blk_frozen BK104.out 0
                              have hfz28_1 := blk_frozen BK104.out 1
                              have hfz28_2 := blk_frozen BK104.out 2
                              have hfz28_3 := blk_frozen BK104.out 3
                              have hfz28_4 := blk_frozen BK104.out 4
                              have hfz28_5 := blk_frozen BK104.out 5
                              have hfz28_6 := blk_frozen BK104.out 6
                              have p109 : 0 ≤ ((ji19) : Int) := of_decide_eq_true (by first | (with_reducible assumption) | assumption)
                              have q109 : (ji19) < (l0_6.length : Int) := of_decide_eq_true (by first | (with_reducible assumption) | assumption)
                              obtain ⟨ad109, e109, hx109_0, hx109_1, hx109_2, hx109_3, hx109_4⟩ := at_T32 HR0_6.out (ji19) p109 q109
                              obtain rfl : ad105 = ad109 := (by injection e109)
                              replace hx109_0 := (HB.out.cell (World.block_lt_of_cell? w _ hx109_0)).trans hx109_0
                              replace hx109_1 := (HB.out.cell (World.block_lt_of_cell? w _ hx109_1)).trans hx109_1
                              replace hx109_2 := (HB.out.cell (World.block_lt_of_cell? w _ hx109_2)).trans hx109_2
                              replace hx109_3 := (HB.out.cell (World.block_lt_of_cell? w _ hx109_3)).trans hx109_3
                              replace hx109_4 := (HB.out.cell (World.block_lt_of_cell? w _ hx109_4)).trans hx109_4
                              replace p109 := eq_true p109
                              replace q109 := eq_true q109
                              have hnb29 := NB108_106.out
                              have hnc29 := NB106_108.out
                              have hcz30_0 : w17.cell? ⟨gb108, 0, none⟩ = some (.int .i64 0) := (blk_cell BK108.out 0).trans rfl
                              have hcz30_1 : w17.cell? ⟨gb108, 1, none⟩ = some (.int .i64 0) := (blk_cell BK108.out 1).trans rfl
                              have hcz30_2 : w17.cell? ⟨gb108, 2, none⟩ = some (.int .i64 0) := (blk_cell BK108.out 2).trans rfl
                              have hcz30_3 : w17.cell? ⟨gb108, 3, none⟩ = some (.int .i64 0) := (blk_cell BK108.out 3).trans rfl
                              have hcz30_4 : w17.cell? ⟨gb108, 4, none⟩ = some (.int .u8 0) := (blk_cell BK108.out 4).trans rfl
                              have hfz30_0 := blk_frozen BK108.out 0
                              have hfz30_1 := blk_frozen BK108.out 1
                              have hfz30_2 := blk_frozen BK108.out 2
                              have hfz30_3 := blk_frozen BK108.out 3
                              have hfz30_4 := blk_frozen BK108.out 4
                              go_wp2_with (first | (go_at_call 17; (with_reducible refine (vee_Good.calls ((rd_T32 l0_6 (ji19)).f0) ((rd_T32 l0_6 (ji19)).f1) ((rd_T32 l0_6 (ji19)).f2) ((rd_T32 l0_6 (ji19)).f3) ((rd_T32 l0_6 (ji19)).f4) true _ A24.out).mono ?_); rintro e w31 ⟨rfl, hb⟩; have n0_ := Aside0.mk (blk_below (g := gb104) (o := .cells #[.string a0_0, .int .i64 a0_1, .int .i64 a0_2, .int .i64 a0_3, .int .i64 a0_4, .int .i64 a0_5, .slice (some ad105) l0_6.length c0_6] 24 (0, 0)) (by (with_reducible repeat (first | refine blk_drewN ?_ _ | refine blk_drew ?_ | refine blk_alloc ?_ _)); refine blk_far ?_ NB104_108.out _; (with_reducible repeat (first | refine blk_drewN ?_ _ | refine blk_drew ?_ | refine blk_alloc ?_ _)); refine blk_far ?_ NB104_108.out _; (with_reducible repeat (first | refine blk_drewN ?_ _ | refine blk_drew ?_ | refine blk_alloc ?_ _)); refine blk_far ?_ NB104_108.out _; (with_reducible repeat (first | refine blk_drewN ?_ _ | refine blk_drew ?_ | refine blk_alloc ?_ _)); refine blk_far ?_ NB104_108.out _; (with_reducible repeat (first | refine blk_drewN ?_ _ | refine blk_drew ?_ | refine blk_alloc ?_ _)); refine blk_far ?_ NB104_108.out _; (with_reducible repeat (first | refine blk_drewN ?_ _ | refine blk_drew ?_ | refine blk_alloc ?_ _)); exact BK104.out) hb); have n1_ := Aside0.mk (blk_below (g := gb106) (o := .cells #[.int .i64 ((rd_T32 l0_6 x17_1).f0), .int .i64 ((rd_T32 l0_6 x17_1).f1), .int .i64 ((rd_T32 l0_6 x17_1).f2), .int .i64 ((rd_T32 l0_6 x17_1).f3), .int .u8 ((rd_T32 l0_6 x17_1).f4)] 32 (0, 0)) (by (with_reducible repeat (first | refine blk_drewN ?_ _ | refine blk_drew ?_ | refine blk_alloc ?_ _)); refine blk_far ?_ NB106_108.out _; (with_reducible repeat (first | refine blk_drewN ?_ _ | refine blk_drew ?_ | refine blk_alloc ?_ _)); refine blk_far ?_ NB106_108.out _; (with_reducible repeat (first | refine blk_drewN ?_ _ | refine blk_drew ?_ | refine blk_alloc ?_ _)); refine blk_far ?_ NB106_108.out _; (with_reducible repeat (first | refine blk_drewN ?_ _ | refine blk_drew ?_ | refine blk_alloc ?_ _)); refine blk_far ?_ NB106_108.out _; (with_reducible repeat (first | refine blk_drewN ?_ _ | refine blk_drew ?_ | refine blk_alloc ?_ _)); refine blk_far ?_ NB106_108.out _; (with_reducible repeat (first | refine blk_drewN ?_ _ | refine blk_drew ?_ | refine blk_alloc ?_ _)); exact BK106.out) hb); have n2_ := Aside0.mk (blk_below (g := gb108) (o := .cells #[.int .i64 ((rd_T32 l0_6 (ji19)).f0), .int .i64 ((rd_T32 l0_6 (ji19)).f1), .int .i64 ((rd_T32 l0_6 (ji19)).f2), .int .i64 ((rd_T32 l0_6 (ji19)).f3), .int .u8 ((rd_T32 l0_6 (ji19)).f4)] 32 (0, 0)) (by (with_reducible repeat (first | refine blk_drewN ?_ _ | refine blk_drew ?_ | refine blk_alloc ?_ _)); refine blk_put (cs := #[.int .i64 ((rd_T32 l0_6 (ji19)).f0), .int .i64 ((rd_T32 l0_6 (ji19)).f1), .int .i64 ((rd_T32 l0_6 (ji19)).f2), .int .i64 ((rd_T32 l0_6 (ji19)).f3), .int .u8 0]) ?_ 4 _ rfl; (with_reducible repeat (first | refine blk_drewN ?_ _ | refine blk_drew ?_ | refine blk_alloc ?_ _)); refine blk_put (cs := #[.int .i64 ((rd_T32 l0_6 (ji19)).f0), .int .i64 ((rd_T32 l0_6 (ji19)).f1), .int .i64 ((rd_T32 l0_6 (ji19)).f2), .int .i64 0, .int .u8 0]) ?_ 3 _ rfl; (with_reducible repeat (first | refine blk_drewN ?_ _ | refine blk_drew ?_ | refine blk_alloc ?_ _)); refine blk_put (cs := #[.int .i64 ((rd_T32 l0_6 (ji19)).f0), .int .i64 ((rd_T32 l0_6 (ji19)).f1), .int .i64 0, .int .i64 0, .int .u8 0]) ?_ 2 _ rfl; (with_reducible repeat (first | refine blk_drewN ?_ _ | refine blk_drew ?_ | refine blk_alloc ?_ _)); refine blk_put (cs := #[.int .i64 ((rd_T32 l0_6 (ji19)).f0), .int .i64 0, .int .i64 0, .int .i64 0, .int .u8 0]) ?_ 1 _ rfl; (with_reducible repeat (first | refine blk_drewN ?_ _ | refine blk_drew ?_ | refine blk_alloc ?_ _)); refine blk_put (cs := #[.int .i64 0, .int .i64 0, .int .i64 0, .int .i64 0, .int .u8 0]) ?_ 0 _ rfl; (with_reducible repeat (first | refine blk_drewN ?_ _ | refine blk_drew ?_ | refine blk_alloc ?_ _)); exact BK108.out) hb); have n3_ := Aside0.mk (below_step (by repeat (first | (with_reducible first | exact HB.out | apply below_alloc | apply pw_below_drewN | apply below_drew1 | refine below_set ?_ GE104.out | refine below_set ?_ GE106.out | refine below_set ?_ GE108.out) | exact HB.out)) hb); clear BK104; clear BK106; clear BK108; clear HB; have BK104 := n0_; have BK106 := n1_; have BK108 := n2_; have HB := n3_; clear n0_ n1_ n2_ n3_; (try clear hb); (try clear hb2); (try clear hk); (try clear hi); have hcz32_0 : w31.cell? ⟨gb108, 0, none⟩ = some (.int .i64 ((rd_T32 l0_6 (ji19)).f0)) := (blk_cell BK108.out 0).trans rfl; have hcz32_1 : w31.cell? ⟨gb108, 1, none⟩ = some (.int .i64 ((rd_T32 l0_6 (ji19)).f1)) := (blk_cell BK108.out 1).trans rfl; have hcz32_2 : w31.cell? ⟨gb108, 2, none⟩ = some (.int .i64 ((rd_T32 l0_6 (ji19)).f2)) := (blk_cell BK108.out 2).trans rfl; have hcz32_3 : w31.cell? ⟨gb108, 3, none⟩ = some (.int .i64 ((rd_T32 l0_6 (ji19)).f3)) := (blk_cell BK108.out 3).trans rfl; have hcz32_4 : w31.cell? ⟨gb108, 4, none⟩ = some (.int .u8 ((rd_T32 l0_6 (ji19)).f4)) := (blk_cell BK108.out 4).trans rfl; have hfz32_0 := blk_frozen BK108.out 0; have hfz32_1 := blk_frozen BK108.out 1; have hfz32_2 := blk_frozen BK108.out 2; have hfz32_3 := blk_frozen BK108.out 3; have hfz32_4 := blk_frozen BK108.out 4; have hcz33_0 : w31.cell? ⟨gb106, 0, none⟩ = some (.int .i64 ((rd_T32 l0_6 x17_1).f0)) := (blk_cell BK106.out 0).trans rfl; have hcz33_1 : w31.cell? ⟨gb106, 1, none⟩ = some (.int .i64 ((rd_T32 l0_6 x17_1).f1)) := (blk_cell BK106.out 1).trans rfl; have hcz33_2 : w31.cell? ⟨gb106, 2, none⟩ = some (.int .i64 ((rd_T32 l0_6 x17_1).f2)) := (blk_cell BK106.out 2).trans rfl; have hcz33_3 : w31.cell? ⟨gb106, 3, none⟩ = some (.int .i64 ((rd_T32 l0_6 x17_1).f3)) := (blk_cell BK106.out 3).trans rfl; have hcz33_4 : w31.cell? ⟨gb106, 4, none⟩ = some (.int .u8 ((rd_T32 l0_6 x17_1).f4)) := (blk_cell BK106.out 4).trans rfl; have hfz33_0 := blk_frozen BK106.out 0; have hfz33_1 := blk_frozen BK106.out 1; have hfz33_2 := blk_frozen BK106.out 2; have hfz33_3 := blk_frozen BK106.out 3; have hfz33_4 := blk_frozen BK106.out 4))
                              go_meet
                              case rel => exact ⟨_, (((wrap64 (((rd_T32 l0_6 (ji19)).f0) + 1)) == ((rd_T32 l0_6 x17_1).f0))), ((rd_T32 l0_6 (ji19)).f0), ((rd_T32 l0_6 (ji19)).f1), ((rd_T32 l0_6 (ji19)).f2), ((rd_T32 l0_6 (ji19)).f3), ((rd_T32 l0_6 (ji19)).f4), (by first | rfl | (simp; done) | (simp only [← hji19] <;> (first | rfl | simp)) | (simp [*]; done)), H', ⟨by have := HK1.out; have := HJ9.out; first | omega | exact Nat.le_refl _⟩, ⟨by (with_reducible repeat (first | refine blk_drewN ?_ _ | refine blk_drew ?_ | refine blk_alloc ?_ _)); exact BK104.out⟩, ⟨by (with_reducible repeat (first | refine blk_drewN ?_ _ | refine blk_drew ?_ | refine blk_alloc ?_ _)); exact BK106.out⟩, ⟨by (with_reducible repeat (first | refine blk_drewN ?_ _ | refine blk_drew ?_ | refine blk_alloc ?_ _)); exact BK108.out⟩, ⟨by repeat (first | (with_reducible first | exact HB.out | apply below_alloc | apply pw_below_drewN | apply below_drew1 | refine below_set ?_ GE104.out | refine below_set ?_ GE106.out | refine below_set ?_ GE108.out) | exact HB.out)⟩⟩
                            · replace c25 := Bool.eq_false_iff.mpr c25
                              subst c25
                              have H1 : (vee_Check.j2 kj9 a1 a2 x8_9 x17_1 true false l0_6 (l0_6.length : Int) x17_1 a0_0 a0_1 a0_2 a0_3 a0_4 a0_5 l0_6 ((rd_T32 l0_6 x17_1).f0) ((rd_T32 l0_6 x17_1).f1) ((rd_T32 l0_6 x17_1).f2) ((rd_T32 l0_6 x17_1).f3) ((rd_T32 l0_6 x17_1).f4) ((rd_T32 l0_6 (ji19)).f0) ((rd_T32 l0_6 (ji19)).f1) ((rd_T32 l0_6 (ji19)).f2) ((rd_T32 l0_6 (ji19)).f3) ((rd_T32 l0_6 (ji19)).f4)) = some (r1, r2) := by rw [if_neg (show ¬ (false = true) by decide)] at H; exact H
                              clear H
                              have H := H1
                              clear H1
                              have H' := Aside0.mk H
                              clear H
                              have hnb34 := NB104_106.out
                              have hnc34 := NB106_104.out
                              have hnb35 := NB104_108.out
                              have hnc35 := NB108_104.out
                              have hcz36_0 : w17.cell? ⟨gb104, 0, none⟩ = some (.string a0_0) := (blk_cell BK104.out 0).trans rfl
                              have hcz36_1 : w17.cell? ⟨gb104, 1, none⟩ = some (.int .i64 a0_1) := (blk_cell BK104.out 1).trans rfl
                              have hcz36_2 : w17.cell? ⟨gb104, 2, none⟩ = some (.int .i64 a0_2) := (blk_cell BK104.out 2).trans rfl
                              have hcz36_3 : w17.cell? ⟨gb104, 3, none⟩ = some (.int .i64 a0_3) := (blk_cell BK104.out 3).trans rfl
                              have hcz36_4 : w17.cell? ⟨gb104, 4, none⟩ = some (.int .i64 a0_4) := (blk_cell BK104.out 4).trans rfl
                              have hcz36_5 : w17.cell? ⟨gb104, 5, none⟩ = some (.int .i64 a0_5) := (blk_cell BK104.out 5).trans rfl
                              have hcz36_6 : w17.cell? ⟨gb104, 6, none⟩ = some (.slice (some ad105) l0_6.length c0_6) := (blk_cell BK104.out 6).trans rfl
                              have hfz36_0 := blk_frozen BK104.out 0
                              have hfz36_1 := blk_frozen BK104.out 1
                              have hfz36_2 := blk_frozen BK104.out 2
                              have hfz36_3 := blk_frozen BK104.out 3
                              have hfz36_4 := blk_frozen BK104.out 4
                              have hfz36_5 := blk_frozen BK104.out 5
                              have hfz36_6 := blk_frozen BK104.out 6
                              have p109 : 0 ≤ ((ji19) : Int) := of_decide_eq_true (by first | (with_reducible assumption) | assumption)
                              have q109 : (ji19) < (l0_6.length : Int) := of_decide_eq_true (by first | (with_reducible assumption) | assumption)
                              obtain ⟨ad109, e109, hx109_0, hx109_1, hx109_2, hx109_3, hx109_4⟩ := at_T32 HR0_6.out (ji19) p109 q109
                              obtain rfl : ad105 = ad109 := (by injection e109)
                              replace hx109_0 := (HB.out.cell (World.block_lt_of_cell? w _ hx109_0)).trans hx109_0
                              replace hx109_1 := (HB.out.cell (World.block_lt_of_cell? w _ hx109_1)).trans hx109_1
                              replace hx109_2 := (HB.out.cell (World.block_lt_of_cell? w _ hx109_2)).trans hx109_2
                              replace hx109_3 := (HB.out.cell (World.block_lt_of_cell? w _ hx109_3)).trans hx109_3
                              replace hx109_4 := (HB.out.cell (World.block_lt_of_cell? w _ hx109_4)).trans hx109_4
                              replace p109 := eq_true p109
                              replace q109 := eq_true q109
                              have hnb37 := NB108_106.out
                              have hnc37 := NB106_108.out
                              have hcz38_0 : w17.cell? ⟨gb108, 0, none⟩ = some (.int .i64 0) := (blk_cell BK108.out 0).trans rfl
                              have hcz38_1 : w17.cell? ⟨gb108, 1, none⟩ = some (.int .i64 0) := (blk_cell BK108.out 1).trans rfl
                              have hcz38_2 : w17.cell? ⟨gb108, 2, none⟩ = some (.int .i64 0) := (blk_cell BK108.out 2).trans rfl
                              have hcz38_3 : w17.cell? ⟨gb108, 3, none⟩ = some (.int .i64 0) := (blk_cell BK108.out 3).trans rfl
                              have hcz38_4 : w17.cell? ⟨gb108, 4, none⟩ = some (.int .u8 0) := (blk_cell BK108.out 4).trans rfl
                              have hfz38_0 := blk_frozen BK108.out 0
                              have hfz38_1 := blk_frozen BK108.out 1
                              have hfz38_2 := blk_frozen BK108.out 2
                              have hfz38_3 := blk_frozen BK108.out 3
                              have hfz38_4 := blk_frozen BK108.out 4
                              go_wp2_with (first | (go_at_call 17; (with_reducible refine (vee_Good.calls ((rd_T32 l0_6 (ji19)).f0) ((rd_T32 l0_6 (ji19)).f1) ((rd_T32 l0_6 (ji19)).f2) ((rd_T32 l0_6 (ji19)).f3) ((rd_T32 l0_6 (ji19)).f4) false _ A24.out).mono ?_); rintro e w39 ⟨rfl, hb⟩; have n0_ := Aside0.mk (blk_below (g := gb104) (o := .cells #[.string a0_0, .int .i64 a0_1, .int .i64 a0_2, .int .i64 a0_3, .int .i64 a0_4, .int .i64 a0_5, .slice (some ad105) l0_6.length c0_6] 24 (0, 0)) (by (with_reducible repeat (first | refine blk_drewN ?_ _ | refine blk_drew ?_ | refine blk_alloc ?_ _)); refine blk_far ?_ NB104_108.out _; (with_reducible repeat (first | refine blk_drewN ?_ _ | refine blk_drew ?_ | refine blk_alloc ?_ _)); refine blk_far ?_ NB104_108.out _; (with_reducible repeat (first | refine blk_drewN ?_ _ | refine blk_drew ?_ | refine blk_alloc ?_ _)); refine blk_far ?_ NB104_108.out _; (with_reducible repeat (first | refine blk_drewN ?_ _ | refine blk_drew ?_ | refine blk_alloc ?_ _)); refine blk_far ?_ NB104_108.out _; (with_reducible repeat (first | refine blk_drewN ?_ _ | refine blk_drew ?_ | refine blk_alloc ?_ _)); refine blk_far ?_ NB104_108.out _; (with_reducible repeat (first | refine blk_drewN ?_ _ | refine blk_drew ?_ | refine blk_alloc ?_ _)); exact BK104.out) hb); have n1_ := Aside0.mk (blk_below (g := gb106) (o := .cells #[.int .i64 ((rd_T32 l0_6 x17_1).f0), .int .i64 ((rd_T32 l0_6 x17_1).f1), .int .i64 ((rd_T32 l0_6 x17_1).f2), .int .i64 ((rd_T32 l0_6 x17_1).f3), .int .u8 ((rd_T32 l0_6 x17_1).f4)] 32 (0, 0)) (by (with_reducible repeat (first | refine blk_drewN ?_ _ | refine blk_drew ?_ | refine blk_alloc ?_ _)); refine blk_far ?_ NB106_108.out _; (with_reducible repeat (first | refine blk_drewN ?_ _ | refine blk_drew ?_ | refine blk_alloc ?_ _)); refine blk_far ?_ NB106_108.out _; (with_reducible repeat (first | refine blk_drewN ?_ _ | refine blk_drew ?_ | refine blk_alloc ?_ _)); refine blk_far ?_ NB106_108.out _; (with_reducible repeat (first | refine blk_drewN ?_ _ | refine blk_drew ?_ | refine blk_alloc ?_ _)); refine blk_far ?_ NB106_108.out _; (with_reducible repeat (first | refine blk_drewN ?_ _ | refine blk_drew ?_ | refine blk_alloc ?_ _)); refine blk_far ?_ NB106_108.out _; (with_reducible repeat (first | refine blk_drewN ?_ _ | refine blk_drew ?_ | refine blk_alloc ?_ _)); exact BK106.out) hb); have n2_ := Aside0.mk (blk_below (g := gb108) (o := .cells #[.int .i64 ((rd_T32 l0_6 (ji19)).f0), .int .i64 ((rd_T32 l0_6 (ji19)).f1), .int .i64 ((rd_T32 l0_6 (ji19)).f2), .int .i64 ((rd_T32 l0_6 (ji19)).f3), .int .u8 ((rd_T32 l0_6 (ji19)).f4)] 32 (0, 0)) (by (with_reducible repeat (first | refine blk_drewN ?_ _ | refine blk_drew ?_ | refine blk_alloc ?_ _)); refine blk_put (cs := #[.int .i64 ((rd_T32 l0_6 (ji19)).f0), .int .i64 ((rd_T32 l0_6 (ji19)).f1), .int .i64 ((rd_T32 l0_6 (ji19)).f2), .int .i64 ((rd_T32 l0_6 (ji19)).f3), .int .u8 0]) ?_ 4 _ rfl; (with_reducible repeat (first | refine blk_drewN ?_ _ | refine blk_drew ?_ | refine blk_alloc ?_ _)); refine blk_put (cs := #[.int .i64 ((rd_T32 l0_6 (ji19)).f0), .int .i64 ((rd_T32 l0_6 (ji19)).f1), .int .i64 ((rd_T32 l0_6 (ji19)).f2), .int .i64 0, .int .u8 0]) ?_ 3 _ rfl; (with_reducible repeat (first | refine blk_drewN ?_ _ | refine blk_drew ?_ | refine blk_alloc ?_ _)); refine blk_put (cs := #[.int .i64 ((rd_T32 l0_6 (ji19)).f0), .int .i64 ((rd_T32 l0_6 (ji19)).f1), .int .i64 0, .int .i64 0, .int .u8 0]) ?_ 2 _ rfl; (with_reducible repeat (first | refine blk_drewN ?_ _ | refine blk_drew ?_ | refine blk_alloc ?_ _)); refine blk_put (cs := #[.int .i64 ((rd_T32 l0_6 (ji19)).f0), .int .i64 0, .int .i64 0, .int .i64 0, .int .u8 0]) ?_ 1 _ rfl; (with_reducible repeat (first | refine blk_drewN ?_ _ | refine blk_drew ?_ | refine blk_alloc ?_ _)); refine blk_put (cs := #[.int .i64 0, .int .i64 0, .int .i64 0, .int .i64 0, .int .u8 0]) ?_ 0 _ rfl; (with_reducible repeat (first | refine blk_drewN ?_ _ | refine blk_drew ?_ | refine blk_alloc ?_ _)); exact BK108.out) hb); have n3_ := Aside0.mk (below_step (by repeat (first | (with_reducible first | exact HB.out | apply below_alloc | apply pw_below_drewN | apply below_drew1 | refine below_set ?_ GE104.out | refine below_set ?_ GE106.out | refine below_set ?_ GE108.out) | exact HB.out)) hb); clear BK104; clear BK106; clear BK108; clear HB; have BK104 := n0_; have BK106 := n1_; have BK108 := n2_; have HB := n3_; clear n0_ n1_ n2_ n3_; (try clear hb); (try clear hb2); (try clear hk); (try clear hi)))
                              go_meet
                              case rel => exact ⟨_, (false), ((rd_T32 l0_6 (ji19)).f0), ((rd_T32 l0_6 (ji19)).f1), ((rd_T32 l0_6 (ji19)).f2), ((rd_T32 l0_6 (ji19)).f3), ((rd_T32 l0_6 (ji19)).f4), (by first | rfl | (simp; done) | (simp [*]; done)), H', ⟨by have := HK1.out; have := HJ9.out; first | omega | exact Nat.le_refl _⟩, ⟨by (with_reducible repeat (first | refine blk_drewN ?_ _ | refine blk_drew ?_ | refine blk_alloc ?_ _)); exact BK104.out⟩, ⟨by (with_reducible repeat (first | refine blk_drewN ?_ _ | refine blk_drew ?_ | refine blk_alloc ?_ _)); exact BK106.out⟩, ⟨by (with_reducible repeat (first | refine blk_drewN ?_ _ | refine blk_drew ?_ | refine blk_alloc ?_ _)); exact BK108.out⟩, ⟨by repeat (first | (with_reducible first | exact HB.out | apply below_alloc | apply pw_below_drewN | apply below_drew1 | refine below_set ?_ GE104.out | refine below_set ?_ GE106.out | refine below_set ?_ GE108.out) | exact HB.out)⟩⟩
                          · rw [if_neg c23] at H
                            have c23b0 : decide (0 < a2) = false := decide_eq_false c23
                            clear c23
                            have H' := Aside0.mk H
                            clear H
                            have hnb40 := NB104_106.out
                            have hnc40 := NB106_104.out
                            have hnb41 := NB104_108.out
                            have hnc41 := NB108_104.out
                            have hcz42_0 : w17.cell? ⟨gb104, 0, none⟩ = some (.string a0_0) := (blk_cell BK104.out 0).trans rfl
                            have hcz42_1 : w17.cell? ⟨gb104, 1, none⟩ = some (.int .i64 a0_1) := (blk_cell BK104.out 1).trans rfl
                            have hcz42_2 : w17.cell? ⟨gb104, 2, none⟩ = some (.int .i64 a0_2) := (blk_cell BK104.out 2).trans rfl
                            have hcz42_3 : w17.cell? ⟨gb104, 3, none⟩ = some (.int .i64 a0_3) := (blk_cell BK104.out 3).trans rfl
                            have hcz42_4 : w17.cell? ⟨gb104, 4, none⟩ = some (.int .i64 a0_4) := (blk_cell BK104.out 4).trans rfl
                            have hcz42_5 : w17.cell? ⟨gb104, 5, none⟩ = some (.int .i64 a0_5) := (blk_cell BK104.out 5).trans rfl
                            have hcz42_6 : w17.cell? ⟨gb104, 6, none⟩ = some (.slice (some ad105) l0_6.length c0_6) := (blk_cell BK104.out 6).trans rfl
                            have hfz42_0 := blk_frozen BK104.out 0
                            have hfz42_1 := blk_frozen BK104.out 1
                            have hfz42_2 := blk_frozen BK104.out 2
                            have hfz42_3 := blk_frozen BK104.out 3
                            have hfz42_4 := blk_frozen BK104.out 4
                            have hfz42_5 := blk_frozen BK104.out 5
                            have hfz42_6 := blk_frozen BK104.out 6
                            have p109 : 0 ≤ ((ji19) : Int) := of_decide_eq_true (by first | (with_reducible assumption) | assumption)
                            have q109 : (ji19) < (l0_6.length : Int) := of_decide_eq_true (by first | (with_reducible assumption) | assumption)
                            obtain ⟨ad109, e109, hx109_0, hx109_1, hx109_2, hx109_3, hx109_4⟩ := at_T32 HR0_6.out (ji19) p109 q109
                            obtain rfl : ad105 = ad109 := (by injection e109)
                            replace hx109_0 := (HB.out.cell (World.block_lt_of_cell? w _ hx109_0)).trans hx109_0
                            replace hx109_1 := (HB.out.cell (World.block_lt_of_cell? w _ hx109_1)).trans hx109_1
                            replace hx109_2 := (HB.out.cell (World.block_lt_of_cell? w _ hx109_2)).trans hx109_2
                            replace hx109_3 := (HB.out.cell (World.block_lt_of_cell? w _ hx109_3)).trans hx109_3
                            replace hx109_4 := (HB.out.cell (World.block_lt_of_cell? w _ hx109_4)).trans hx109_4
                            replace p109 := eq_true p109
                            replace q109 := eq_true q109
                            have hnb43 := NB108_106.out
                            have hnc43 := NB106_108.out
                            have hcz44_0 : w17.cell? ⟨gb108, 0, none⟩ = some (.int .i64 0) := (blk_cell BK108.out 0).trans rfl
                            have hcz44_1 : w17.cell? ⟨gb108, 1, none⟩ = some (.int .i64 0) := (blk_cell BK108.out 1).trans rfl
                            have hcz44_2 : w17.cell? ⟨gb108, 2, none⟩ = some (.int .i64 0) := (blk_cell BK108.out 2).trans rfl
                            have hcz44_3 : w17.cell? ⟨gb108, 3, none⟩ = some (.int .i64 0) := (blk_cell BK108.out 3).trans rfl
                            have hcz44_4 : w17.cell? ⟨gb108, 4, none⟩ = some (.int .u8 0) := (blk_cell BK108.out 4).trans rfl
                            have hfz44_0 := blk_frozen BK108.out 0
                            have hfz44_1 := blk_frozen BK108.out 1
                            have hfz44_2 := blk_frozen BK108.out 2
                            have hfz44_3 := blk_frozen BK108.out 3
                            have hfz44_4 := blk_frozen BK108.out 4
                            go_wp2
                            go_meet
                            case rel => exact ⟨_, (false), ((rd_T32 l0_6 (ji19)).f0), ((rd_T32 l0_6 (ji19)).f1), ((rd_T32 l0_6 (ji19)).f2), ((rd_T32 l0_6 (ji19)).f3), ((rd_T32 l0_6 (ji19)).f4), (by first | rfl | (simp; done) | (simp [*]; done)), H', ⟨by have := HK1.out; have := HJ9.out; first | omega | exact Nat.le_refl _⟩, ⟨by (with_reducible repeat (first | refine blk_drewN ?_ _ | refine blk_drew ?_ | refine blk_alloc ?_ _)); refine blk_far ?_ NB104_108.out _; (with_reducible repeat (first | refine blk_drewN ?_ _ | refine blk_drew ?_ | refine blk_alloc ?_ _)); refine blk_far ?_ NB104_108.out _; (with_reducible repeat (first | refine blk_drewN ?_ _ | refine blk_drew ?_ | refine blk_alloc ?_ _)); refine blk_far ?_ NB104_108.out _; (with_reducible repeat (first | refine blk_drewN ?_ _ | refine blk_drew ?_ | refine blk_alloc ?_ _)); refine blk_far ?_ NB104_108.out _; (with_reducible repeat (first | refine blk_drewN ?_ _ | refine blk_drew ?_ | refine blk_alloc ?_ _)); refine blk_far ?_ NB104_108.out _; (with_reducible repeat (first | refine blk_drewN ?_ _ | refine blk_drew ?_ | refine blk_alloc ?_ _)); exact BK104.out⟩, ⟨by (with_reducible repeat (first | refine blk_drewN ?_ _ | refine blk_drew ?_ | refine blk_alloc ?_ _)); refine blk_far ?_ NB106_108.out _; (with_reducible repeat (first | refine blk_drewN ?_ _ | refine blk_drew ?_ | refine blk_alloc ?_ _)); refine blk_far ?_ NB106_108.out _; (with_reducible repeat (first | refine blk_drewN ?_ _ | refine blk_drew ?_ | refine blk_alloc ?_ _)); refine blk_far ?_ NB106_108.out _; (with_reducible repeat (first | refine blk_drewN ?_ _ | refine blk_drew ?_ | refine blk_alloc ?_ _)); refine blk_far ?_ NB106_108.out _; (with_reducible repeat (first | refine blk_drewN ?_ _ | refine blk_drew ?_ | refine blk_alloc ?_ _)); refine blk_far ?_ NB106_108.out _; (with_reducible repeat (first | refine blk_drewN ?_ _ | refine blk_drew ?_ | refine blk_alloc ?_ _)); exact BK106.out⟩, ⟨by (with_reducible repeat (first | refine blk_drewN ?_ _ | refine blk_drew ?_ | refine blk_alloc ?_ _)); refine blk_put (cs := #[.int .i64 ((rd_T32 l0_6 (ji19)).f0), .int .i64 ((rd_T32 l0_6 (ji19)).f1), .int .i64 ((rd_T32 l0_6 (ji19)).f2), .int .i64 ((rd_T32 l0_6 (ji19)).f3), .int .u8 0]) ?_ 4 _ rfl; (with_reducible repeat (first | refine blk_drewN ?_ _ | refine blk_drew ?_ | refine blk_alloc ?_ _)); refine blk_put (cs := #[.int .i64 ((rd_T32 l0_6 (ji19)).f0), .int .i64 ((rd_T32 l0_6 (ji19)).f1), .int .i64 ((rd_T32 l0_6 (ji19)).f2), .int .i64 0, .int .u8 0]) ?_ 3 _ rfl; (with_reducible repeat (first | refine blk_drewN ?_ _ | refine blk_drew ?_ | refine blk_alloc ?_ _)); refine blk_put (cs := #[.int .i64 ((rd_T32 l0_6 (ji19)).f0), .int .i64 ((rd_T32 l0_6 (ji19)).f1), .int .i64 0, .int .i64 0, .int .u8 0]) ?_ 2 _ rfl; (with_reducible repeat (first | refine blk_drewN ?_ _ | refine blk_drew ?_ | refine blk_alloc ?_ _)); refine blk_put (cs := #[.int .i64 ((rd_T32 l0_6 (ji19)).f0), .int .i64 0, .int .i64 0, .int .i64 0, .int .u8 0]) ?_ 1 _ rfl; (with_reducible repeat (first | refine blk_drewN ?_ _ | refine blk_drew ?_ | refine blk_alloc ?_ _)); refine blk_put (cs := #[.int .i64 0, .int .i64 0, .int .i64 0, .int .i64 0, .int .u8 0]) ?_ 0 _ rfl; (with_reducible repeat (first | refine blk_drewN ?_ _ | refine blk_drew ?_ | refine blk_alloc ?_ _)); exact BK108.out⟩, ⟨by repeat (first | (with_reducible first | exact HB.out | apply below_alloc | apply pw_below_drewN | apply below_drew1 | refine below_set ?_ GE104.out | refine below_set ?_ GE106.out | refine below_set ?_ GE108.out) | exact HB.out)⟩⟩
                        · replace c22 := Bool.eq_false_iff.mpr c22
                          subst c22
                          have H1 : (vee_Check.j2 kj9 a1 a2 x8_9 x17_1 false false l0_6 (l0_6.length : Int) x17_1 a0_0 a0_1 a0_2 a0_3 a0_4 a0_5 l0_6 ((rd_T32 l0_6 x17_1).f0) ((rd_T32 l0_6 x17_1).f1) ((rd_T32 l0_6 x17_1).f2) ((rd_T32 l0_6 x17_1).f3) ((rd_T32 l0_6 x17_1).f4) ((rd_T32 l0_6 (ji19)).f0) ((rd_T32 l0_6 (ji19)).f1) ((rd_T32 l0_6 (ji19)).f2) ((rd_T32 l0_6 (ji19)).f3) ((rd_T32 l0_6 (ji19)).f4)) = some (r1, r2) := by rw [if_neg (show ¬ (false = true) by decide)] at H; exact H
                          clear H
                          have H := H1
                          clear H1
                          have H' := Aside0.mk H
                          clear H
                          have hnb45 := NB104_106.out
                          have hnc45 := NB106_104.out
                          have hnb46 := NB104_108.out
                          have hnc46 := NB108_104.out
                          have hcz47_0 : w17.cell? ⟨gb104, 0, none⟩ = some (.string a0_0) := (blk_cell BK104.out 0).trans rfl
                          have hcz47_1 : w17.cell? ⟨gb104, 1, none⟩ = some (.int .i64 a0_1) := (blk_cell BK104.out 1).trans rfl
                          have hcz47_2 : w17.cell? ⟨gb104, 2, none⟩ = some (.int .i64 a0_2) := (blk_cell BK104.out 2).trans rfl
                          have hcz47_3 : w17.cell? ⟨gb104, 3, none⟩ = some (.int .i64 a0_3) := (blk_cell BK104.out 3).trans rfl
                          have hcz47_4 : w17.cell? ⟨gb104, 4, none⟩ = some (.int .i64 a0_4) := (blk_cell BK104.out 4).trans rfl
                          have hcz47_5 : w17.cell? ⟨gb104, 5, none⟩ = some (.int .i64 a0_5) := (blk_cell BK104.out 5).trans rfl
                          have hcz47_6 : w17.cell? ⟨gb104, 6, none⟩ = some (.slice (some ad105) l0_6.length c0_6) := (blk_cell BK104.out 6).trans rfl
                          have hfz47_0 := blk_frozen BK104.out 0
                          have hfz47_1 := blk_frozen BK104.out 1
                          have hfz47_2 := blk_frozen BK104.out 2
                          have hfz47_3 := blk_frozen BK104.out 3
                          have hfz47_4 := blk_frozen BK104.out 4
                          have hfz47_5 := blk_frozen BK104.out 5
                          have hfz47_6 := blk_frozen BK104.out 6
                          have p109 : 0 ≤ ((ji19) : Int) := of_decide_eq_true (by first | (with_reducible assumption) | assumption)
                          have q109 : (ji19) < (l0_6.length : Int) := of_decide_eq_true (by first | (with_reducible assumption) | assumption)
                          obtain ⟨ad109, e109, hx109_0, hx109_1, hx109_2, hx109_3, hx109_4⟩ := at_T32 HR0_6.out (ji19) p109 q109
                          obtain rfl : ad105 = ad109 := (by injection e109)
                          replace hx109_0 := (HB.out.cell (World.block_lt_of_cell? w _ hx109_0)).trans hx109_0
                          replace hx109_1 := (HB.out.cell (World.block_lt_of_cell? w _ hx109_1)).trans hx109_1
                          replace hx109_2 := (HB.out.cell (World.block_lt_of_cell? w _ hx109_2)).trans hx109_2
                          replace hx109_3 := (HB.out.cell (World.block_lt_of_cell? w _ hx109_3)).trans hx109_3
                          replace hx109_4 := (HB.out.cell (World.block_lt_of_cell? w _ hx109_4)).trans hx109_4
                          replace p109 := eq_true p109
                          replace q109 := eq_true q109
                          have hnb48 := NB108_106.out
                          have hnc48 := NB106_108.out
                          have hcz49_0 : w17.cell? ⟨gb108, 0, none⟩ = some (.int .i64 0) := (blk_cell BK108.out 0).trans rfl
                          have hcz49_1 : w17.cell? ⟨gb108, 1, none⟩ = some (.int .i64 0) := (blk_cell BK108.out 1).trans rfl
                          have hcz49_2 : w17.cell? ⟨gb108, 2, none⟩ = some (.int .i64 0) := (blk_cell BK108.out 2).trans rfl
                          have hcz49_3 : w17.cell? ⟨gb108, 3, none⟩ = some (.int .i64 0) := (blk_cell BK108.out 3).trans rfl
                          have hcz49_4 : w17.cell? ⟨gb108, 4, none⟩ = some (.int .u8 0) := (blk_cell BK108.out 4).trans rfl
                          have hfz49_0 := blk_frozen BK108.out 0
                          have hfz49_1 := blk_frozen BK108.out 1
                          have hfz49_2 := blk_frozen BK108.out 2
                          have hfz49_3 := blk_frozen BK108.out 3
                          have hfz49_4 := blk_frozen BK108.out 4
                          go_wp2
                          go_meet
                          case rel => exact ⟨_, (false), ((rd_T32 l0_6 (ji19)).f0), ((rd_T32 l0_6 (ji19)).f1), ((rd_T32 l0_6 (ji19)).f2), ((rd_T32 l0_6 (ji19)).f3), ((rd_T32 l0_6 (ji19)).f4), (by first | rfl | (simp; done) | (simp [*]; done)), H', ⟨by have := HK1.out; have := HJ9.out; first | omega | exact Nat.le_refl _⟩, ⟨by (with_reducible repeat (first | refine blk_drewN ?_ _ | refine blk_drew ?_ | refine blk_alloc ?_ _)); refine blk_far ?_ NB104_108.out _; (with_reducible repeat (first | refine blk_drewN ?_ _ | refine blk_drew ?_ | refine blk_alloc ?_ _)); refine blk_far ?_ NB104_108.out _; (with_reducible repeat (first | refine blk_drewN ?_ _ | refine blk_drew ?_ | refine blk_alloc ?_ _)); refine blk_far ?_ NB104_108.out _; (with_reducible repeat (first | refine blk_drewN ?_ _ | refine blk_drew ?_ | refine blk_alloc ?_ _)); refine blk_far ?_ NB104_108.out _; (with_reducible repeat (first | refine blk_drewN ?_ _ | refine blk_drew ?_ | refine blk_alloc ?_ _)); refine blk_far ?_ NB104_108.out _; (with_reducible repeat (first | refine blk_drewN ?_ _ | refine blk_drew ?_ | refine blk_alloc ?_ _)); exact BK104.out⟩, ⟨by (with_reducible repeat (first | refine blk_drewN ?_ _ | refine blk_drew ?_ | refine blk_alloc ?_ _)); refine blk_far ?_ NB106_108.out _; (with_reducible repeat (first | refine blk_drewN ?_ _ | refine blk_drew ?_ | refine blk_alloc ?_ _)); refine blk_far ?_ NB106_108.out _; (with_reducible repeat (first | refine blk_drewN ?_ _ | refine blk_drew ?_ | refine blk_alloc ?_ _)); refine blk_far ?_ NB106_108.out _; (with_reducible repeat (first | refine blk_drewN ?_ _ | refine blk_drew ?_ | refine blk_alloc ?_ _)); refine blk_far ?_ NB106_108.out _; (with_reducible repeat (first | refine blk_drewN ?_ _ | refine blk_drew ?_ | refine blk_alloc ?_ _)); refine blk_far ?_ NB106_108.out _; (with_reducible repeat (first | refine blk_drewN ?_ _ | refine blk_drew ?_ | refine blk_alloc ?_ _)); exact BK106.out⟩, ⟨by (with_reducible repeat (first | refine blk_drewN ?_ _ | refine blk_drew ?_ | refine blk_alloc ?_ _)); refine blk_put (cs := #[.int .i64 ((rd_T32 l0_6 (ji19)).f0), .int .i64 ((rd_T32 l0_6 (ji19)).f1), .int .i64 ((rd_T32 l0_6 (ji19)).f2), .int .i64 ((rd_T32 l0_6 (ji19)).f3), .int .u8 0]) ?_ 4 _ rfl; (with_reducible repeat (first | refine blk_drewN ?_ _ | refine blk_drew ?_ | refine blk_alloc ?_ _)); refine blk_put (cs := #[.int .i64 ((rd_T32 l0_6 (ji19)).f0), .int .i64 ((rd_T32 l0_6 (ji19)).f1), .int .i64 ((rd_T32 l0_6 (ji19)).f2), .int .i64 0, .int .u8 0]) ?_ 3 _ rfl; (with_reducible repeat (first | refine blk_drewN ?_ _ | refine blk_drew ?_ | refine blk_alloc ?_ _)); refine blk_put (cs := #[.int .i64 ((rd_T32 l0_6 (ji19)).f0), .int .i64 ((rd_T32 l0_6 (ji19)).f1), .int .i64 0, .int .i64 0, .int .u8 0]) ?_ 2 _ rfl; (with_reducible repeat (first | refine blk_drewN ?_ _ | refine blk_drew ?_ | refine blk_alloc ?_ _)); refine blk_put (cs := #[.int .i64 ((rd_T32 l0_6 (ji19)).f0), .int .i64 0, .int .i64 0, .int .i64 0, .int .u8 0]) ?_ 1 _ rfl; (with_reducible repeat (first | refine blk_drewN ?_ _ | refine blk_drew ?_ | refine blk_alloc ?_ _)); refine blk_put (cs := #[.int .i64 0, .int .i64 0, .int .i64 0, .int .i64 0, .int .u8 0]) ?_ 0 _ rfl; (with_reducible repeat (first | refine blk_drewN ?_ _ | refine blk_drew ?_ | refine blk_alloc ?_ _)); exact BK108.out⟩, ⟨by repeat (first | (with_reducible first | exact HB.out | apply below_alloc | apply pw_below_drewN | apply below_drew1 | refine below_set ?_ GE104.out | refine below_set ?_ GE106.out | refine below_set ?_ GE108.out) | exact HB.out)⟩⟩
                      · rw [if_neg c21] at H
                        exact absurd H (by simp)
                    · rw [if_neg c20] at H
                      exact absurd H (by simp)
                  · rw [if_neg c18] at H
                    have c18b0 : decide (0 < x17_1) = false := decide_eq_false c18
                    clear c18
                    (first | rw [c18b0] | (simp only [i64_w, i32_w]; rw [c18b0]) | skip)
                    have H' := Aside0.mk H
                    clear H
                    go_wp2
                    go_meet
                    case rel => exact ⟨_, (false), (0), (0), (0), (0), (0), (by first | rfl | (simp; done) | (simp [*]; done)), H', ⟨by have := HK1.out; have := HJ9.out; first | omega | exact Nat.le_refl _⟩, ⟨by (with_reducible repeat (first | refine blk_drewN ?_ _ | refine blk_drew ?_ | refine blk_alloc ?_ _)); exact BK104.out⟩, ⟨by (with_reducible repeat (first | refine blk_drewN ?_ _ | refine blk_drew ?_ | refine blk_alloc ?_ _)); exact BK106.out⟩, ⟨by (with_reducible repeat (first | refine blk_drewN ?_ _ | refine blk_drew ?_ | refine blk_alloc ?_ _)); exact BK108.out⟩, ⟨by repeat (first | (with_reducible first | exact HB.out | apply below_alloc | apply pw_below_drewN | apply below_drew1 | refine below_set ?_ GE104.out | refine below_set ?_ GE106.out | refine below_set ?_ GE108.out) | exact HB.out)⟩⟩
                case rest =>
                  clear HC16
                  try clear c1
                  try clear p1
                  try clear q1
                  try clear hx1
                  try clear c2
                  try clear p2
                  try clear c3
                  try clear c4
                  try clear c6
                  try clear c6b0
                  try clear p6
                  try clear c7
                  try clear c7b0
                  try clear c8
                  try clear c8b0
                  try clear p10
                  try clear q10
                  try clear hx10
                  try clear c12
                  try clear c15
                  try clear c17
                  try clear c18
                  try clear c18b0
                  try clear c20
                  try clear c20b0
                  try clear c21
                  try clear c21b0
                  try clear c22
                  try clear c23
                  try clear c23b0
                  try clear c25
                  try clear c26
                  try clear c27
                  try clear c29
                  try clear c34
                  try clear c35
                  try clear c37
                  try clear c40
                  try clear c41
                  try clear c43
                  try clear c45
                  try clear c46
                  try clear c48
                  try clear hcz13_0
                  try clear hcz13_1
                  try clear hcz13_2
                  try clear hcz13_3
                  try clear hcz13_4
                  try clear hcz28_0
                  try clear hcz28_1
                  try clear hcz28_2
                  try clear hcz28_3
                  try clear hcz28_4
                  try clear hcz28_5
                  try clear hcz28_6
                  try clear hcz30_0
                  try clear hcz30_1
                  try clear hcz30_2
                  try clear hcz30_3
                  try clear hcz30_4
                  try clear hcz32_0
                  try clear hcz32_1
                  try clear hcz32_2
                  try clear hcz32_3
                  try clear hcz32_4
                  try clear hcz33_0
                  try clear hcz33_1
                  try clear hcz33_2
                  try clear hcz33_3
                  try clear hcz33_4
                  try clear hcz36_0
                  try clear hcz36_1
                  try clear hcz36_2
                  try clear hcz36_3
                  try clear hcz36_4
                  try clear hcz36_5
                  try clear hcz36_6
                  try clear hcz38_0
                  try clear hcz38_1
                  try clear hcz38_2
                  try clear hcz38_3
                  try clear hcz38_4
                  try clear hcz42_0
                  try clear hcz42_1
                  try clear hcz42_2
                  try clear hcz42_3
                  try clear hcz42_4
                  try clear hcz42_5
                  try clear hcz42_6
                  try clear hcz44_0
                  try clear hcz44_1
                  try clear hcz44_2
                  try clear hcz44_3
                  try clear hcz44_4
                  try clear hcz47_0
                  try clear hcz47_1
                  try clear hcz47_2
                  try clear hcz47_3
                  try clear hcz47_4
                  try clear hcz47_5
                  try clear hcz47_6
                  try clear hcz49_0
                  try clear hcz49_1
                  try clear hcz49_2
                  try clear hcz49_3
                  try clear hcz49_4
                  try clear hcz5_0
                  try clear hcz5_1
                  try clear hcz5_2
                  try clear hcz5_3
                  try clear hcz5_4
                  try clear hcz5_5
                  try clear hcz5_6
                  try clear hfz13_0
                  try clear hfz13_1
                  try clear hfz13_2
                  try clear hfz13_3
                  try clear hfz13_4
                  try clear hfz28_0
                  try clear hfz28_1
                  try clear hfz28_2
                  try clear hfz28_3
                  try clear hfz28_4
                  try clear hfz28_5
                  try clear hfz28_6
                  try clear hfz30_0
                  try clear hfz30_1
                  try clear hfz30_2
                  try clear hfz30_3
                  try clear hfz30_4
                  try clear hfz32_0
                  try clear hfz32_1
                  try clear hfz32_2
                  try clear hfz32_3
                  try clear hfz32_4
                  try clear hfz33_0
                  try clear hfz33_1
                  try clear hfz33_2
                  try clear hfz33_3
                  try clear hfz33_4
                  try clear hfz36_0
                  try clear hfz36_1
                  try clear hfz36_2
                  try clear hfz36_3
                  try clear hfz36_4
                  try clear hfz36_5
                  try clear hfz36_6
                  try clear hfz38_0
                  try clear hfz38_1
                  try clear hfz38_2
                  try clear hfz38_3
                  try clear hfz38_4
                  try clear hfz42_0
                  try clear hfz42_1
                  try clear hfz42_2
                  try clear hfz42_3
                  try clear hfz42_4
                  try clear hfz42_5
                  try clear hfz42_6
                  try clear hfz44_0
                  try clear hfz44_1
                  try clear hfz44_2
                  try clear hfz44_3
                  try clear hfz44_4
                  try clear hfz47_0
                  try clear hfz47_1
                  try clear hfz47_2
                  try clear hfz47_3
                  try clear hfz47_4
                  try clear hfz47_5
                  try clear hfz47_6
                  try clear hfz49_0
                  try clear hfz49_1
                  try clear hfz49_2
                  try clear hfz49_3
                  try clear hfz49_4
                  try clear hfz5_0
                  try clear hfz5_1
                  try clear hfz5_2
                  try clear hfz5_3
                  try clear hfz5_4
                  try clear hfz5_5
                  try clear hfz5_6
                  try clear hx105_0
                  try clear hx105_1
                  try clear hx105_2
                  try clear hx105_3
                  try clear hx105_4
                  try clear hx109_0
                  try clear hx109_1
                  try clear hx109_2
                  try clear hx109_3
                  try clear hx109_4
                  try clear p1
                  try clear p10
                  try clear p105
                  try clear p109
                  try clear p2
                  try clear q1
                  try clear q10
                  try clear q105
                  try clear q109
                  obtain ⟨kq, x13_15, x109000_15, x109001_15, x109002_15, x109003_15, x109004_15, rfl, HA, HJ15, BK104, BK106, BK108, HB⟩ := hcut
                  cases kq with
                  | zero => exact absurd HA.out (by simp [vee_Check.j2])
                  | succ kj15 =>
                    have H := HA.out
                    clear HA
                    simp only [vee_Check.j2] at H
                    by_cases c50 : ((rd_T32 l0_6 x17_1).f0) < 0
                    · rw [if_pos c50] at H
                      have c50b0 : decide (((rd_T32 l0_6 x17_1).f0) < 0) = true := decide_eq_true c50
                      clear c50
                      simp only [Option.some.injEq, Prod.mk.injEq] at H
                      obtain ⟨rfl, rfl⟩ := H
                      have hnb51 := NB106_104.out
                      have hnc51 := NB104_106.out
                      have hnb52 := NB106_108.out
                      have hnc52 := NB108_106.out
                      have hcz53_0 : wc.cell? ⟨gb106, 0, none⟩ = some (.int .i64 ((rd_T32 l0_6 x17_1).f0)) := (blk_cell BK106.out 0).trans rfl
                      have hcz53_1 : wc.cell? ⟨gb106, 1, none⟩ = some (.int .i64 ((rd_T32 l0_6 x17_1).f1)) := (blk_cell BK106.out 1).trans rfl
                      have hcz53_2 : wc.cell? ⟨gb106, 2, none⟩ = some (.int .i64 ((rd_T32 l0_6 x17_1).f2)) := (blk_cell BK106.out 2).trans rfl
                      have hcz53_3 : wc.cell? ⟨gb106, 3, none⟩ = some (.int .i64 ((rd_T32 l0_6 x17_1).f3)) := (blk_cell BK106.out 3).trans rfl
                      have hcz53_4 : wc.cell? ⟨gb106, 4, none⟩ = some (.int .u8 ((rd_T32 l0_6 x17_1).f4)) := (blk_cell BK106.out 4).trans rfl
                      have hfz53_0 := blk_frozen BK106.out 0
                      have hfz53_1 := blk_frozen BK106.out 1
                      have hfz53_2 := blk_frozen BK106.out 2
                      have hfz53_3 := blk_frozen BK106.out 3
                      have hfz53_4 := blk_frozen BK106.out 4
                      go_wp2
                      go_ret2
                      exact ⟨by first | rfl | (simp [errW_none, errW_some] <;> rfl) | (simp [*, errW_none, errW_some] <;> rfl), by repeat (first | (with_reducible first | exact HB.out | apply below_alloc | apply pw_below_drewN | apply below_drew1 | refine below_set ?_ GE104.out | refine below_set ?_ GE106.out | refine below_set ?_ GE108.out) | exact HB.out)⟩
                    · rw [if_neg c50] at H
                      have c50b0 : decide (((rd_T32 l0_6 x17_1).f0) < 0) = false := decide_eq_false c50
                      clear c50
                      by_cases c54 : ((rd_T32 l0_6 x17_1).f0) ≥ a0_3
                      · rw [if_pos c54] at H
                        have c54b0 : decide (a0_3 ≤ ((rd_T32 l0_6 x17_1).f0)) = true := decide_eq_true c54
                        clear c54
                        simp only [Option.some.injEq, Prod.mk.injEq] at H
                        obtain ⟨rfl, rfl⟩ := H
                        have hnb55 := NB106_104.out
                        have hnc55 := NB104_106.out
                        have hnb56 := NB106_108.out
                        have hnc56 := NB108_106.out
                        have hcz57_0 : wc.cell? ⟨gb106, 0, none⟩ = some (.int .i64 ((rd_T32 l0_6 x17_1).f0)) := (blk_cell BK106.out 0).trans rfl
                        have hcz57_1 : wc.cell? ⟨gb106, 1, none⟩ = some (.int .i64 ((rd_T32 l0_6 x17_1).f1)) := (blk_cell BK106.out 1).trans rfl
                        have hcz57_2 : wc.cell? ⟨gb106, 2, none⟩ = some (.int .i64 ((rd_T32 l0_6 x17_1).f2)) := (blk_cell BK106.out 2).trans rfl
                        have hcz57_3 : wc.cell? ⟨gb106, 3, none⟩ = some (.int .i64 ((rd_T32 l0_6 x17_1).f3)) := (blk_cell BK106.out 3).trans rfl
                        have hcz57_4 : wc.cell? ⟨gb106, 4, none⟩ = some (.int .u8 ((rd_T32 l0_6 x17_1).f4)) := (blk_cell BK106.out 4).trans rfl
                        have hfz57_0 := blk_frozen BK106.out 0
                        have hfz57_1 := blk_frozen BK106.out 1
                        have hfz57_2 := blk_frozen BK106.out 2
                        have hfz57_3 := blk_frozen BK106.out 3
                        have hfz57_4 := blk_frozen BK106.out 4
                        have hnb58 := NB104_108.out
                        have hnc58 := NB108_104.out
                        have hcz59_0 : wc.cell? ⟨gb104, 0, none⟩ = some (.string a0_0) := (blk_cell BK104.out 0).trans rfl
                        have hcz59_1 : wc.cell? ⟨gb104, 1, none⟩ = some (.int .i64 a0_1) := (blk_cell BK104.out 1).trans rfl
                        have hcz59_2 : wc.cell? ⟨gb104, 2, none⟩ = some (.int .i64 a0_2) := (blk_cell BK104.out 2).trans rfl
                        have hcz59_3 : wc.cell? ⟨gb104, 3, none⟩ = some (.int .i64 a0_3) := (blk_cell BK104.out 3).trans rfl
                        have hcz59_4 : wc.cell? ⟨gb104, 4, none⟩ = some (.int .i64 a0_4) := (blk_cell BK104.out 4).trans rfl
                        have hcz59_5 : wc.cell? ⟨gb104, 5, none⟩ = some (.int .i64 a0_5) := (blk_cell BK104.out 5).trans rfl
                        have hcz59_6 : wc.cell? ⟨gb104, 6, none⟩ = some (.slice (some ad105) l0_6.length c0_6) := (blk_cell BK104.out 6).trans rfl
                        have hfz59_0 := blk_frozen BK104.out 0
                        have hfz59_1 := blk_frozen BK104.out 1
                        have hfz59_2 := blk_frozen BK104.out 2
                        have hfz59_3 := blk_frozen BK104.out 3
                        have hfz59_4 := blk_frozen BK104.out 4
                        have hfz59_5 := blk_frozen BK104.out 5
                        have hfz59_6 := blk_frozen BK104.out 6
                        go_wp2
                        go_ret2
                        exact ⟨by first | rfl | (simp [errW_none, errW_some] <;> rfl) | (simp [*, errW_none, errW_some] <;> rfl), by repeat (first | (with_reducible first | exact HB.out | apply below_alloc | apply pw_below_drewN | apply below_drew1 | refine below_set ?_ GE104.out | refine below_set ?_ GE106.out | refine below_set ?_ GE108.out) | exact HB.out)⟩
                      · rw [if_neg c54] at H
                        have c54b0 : decide (a0_3 ≤ ((rd_T32 l0_6 x17_1).f0)) = false := decide_eq_false c54
                        clear c54
                        have HC60 := Aside0.mk H
                        clear H
                        have hnb61 := NB106_104.out
                        have hnc61 := NB104_106.out
                        have hnb62 := NB106_108.out
                        have hnc62 := NB108_106.out
                        have hcz63_0 : wc.cell? ⟨gb106, 0, none⟩ = some (.int .i64 ((rd_T32 l0_6 x17_1).f0)) := (blk_cell BK106.out 0).trans rfl
                        have hcz63_1 : wc.cell? ⟨gb106, 1, none⟩ = some (.int .i64 ((rd_T32 l0_6 x17_1).f1)) := (blk_cell BK106.out 1).trans rfl
                        have hcz63_2 : wc.cell? ⟨gb106, 2, none⟩ = some (.int .i64 ((rd_T32 l0_6 x17_1).f2)) := (blk_cell BK106.out 2).trans rfl
                        have hcz63_3 : wc.cell? ⟨gb106, 3, none⟩ = some (.int .i64 ((rd_T32 l0_6 x17_1).f3)) := (blk_cell BK106.out 3).trans rfl
                        have hcz63_4 : wc.cell? ⟨gb106, 4, none⟩ = some (.int .u8 ((rd_T32 l0_6 x17_1).f4)) := (blk_cell BK106.out 4).trans rfl
                        have hfz63_0 := blk_frozen BK106.out 0
                        have hfz63_1 := blk_frozen BK106.out 1
                        have hfz63_2 := blk_frozen BK106.out 2
                        have hfz63_3 := blk_frozen BK106.out 3
                        have hfz63_4 := blk_frozen BK106.out 4
                        have hnb64 := NB104_108.out
                        have hnc64 := NB108_104.out
                        have hcz65_0 : wc.cell? ⟨gb104, 0, none⟩ = some (.string a0_0) := (blk_cell BK104.out 0).trans rfl
                        have hcz65_1 : wc.cell? ⟨gb104, 1, none⟩ = some (.int .i64 a0_1) := (blk_cell BK104.out 1).trans rfl
                        have hcz65_2 : wc.cell? ⟨gb104, 2, none⟩ = some (.int .i64 a0_2) := (blk_cell BK104.out 2).trans rfl
                        have hcz65_3 : wc.cell? ⟨gb104, 3, none⟩ = some (.int .i64 a0_3) := (blk_cell BK104.out 3).trans rfl
                        have hcz65_4 : wc.cell? ⟨gb104, 4, none⟩ = some (.int .i64 a0_4) := (blk_cell BK104.out 4).trans rfl
                        have hcz65_5 : wc.cell? ⟨gb104, 5, none⟩ = some (.int .i64 a0_5) := (blk_cell BK104.out 5).trans rfl
                        have hcz65_6 : wc.cell? ⟨gb104, 6, none⟩ = some (.slice (some ad105) l0_6.length c0_6) := (blk_cell BK104.out 6).trans rfl
                        have hfz65_0 := blk_frozen BK104.out 0
                        have hfz65_1 := blk_frozen BK104.out 1
                        have hfz65_2 := blk_frozen BK104.out 2
                        have hfz65_3 := blk_frozen BK104.out 3
                        have hfz65_4 := blk_frozen BK104.out 4
                        have hfz65_5 := blk_frozen BK104.out 5
                        have hfz65_6 := blk_frozen BK104.out 6
                        go_upto_region 14 with (fail)
                        go_cut [53] (fun v53 wc => ∃ (kq : Nat) (x53_59 : Bool), v53 = .bool x53_59 ∧ Aside0 (vee_Check.j3 kq a1 a2 x8_9 x17_1 t107 x13_15 l0_6 (l0_6.length : Int) x17_1 x53_59 a0_0 a0_1 a0_2 a0_3 a0_4 a0_5 l0_6 ((rd_T32 l0_6 x17_1).f0) ((rd_T32 l0_6 x17_1).f1) ((rd_T32 l0_6 x17_1).f2) ((rd_T32 l0_6 x17_1).f3) ((rd_T32 l0_6 x17_1).f4) x109000_15 x109001_15 x109002_15 x109003_15 x109004_15 = some (r1, r2)) ∧ Aside0 (kq ≤ kj15) ∧ Aside0 (wc.heap[gb104]? = some (.cells #[.string a0_0, .int .i64 a0_1, .int .i64 a0_2, .int .i64 a0_3, .int .i64 a0_4, .int .i64 a0_5, (.slice (some ad105) l0_6.length c0_6)] 24 (0, 0))) ∧ Aside0 (wc.heap[gb106]? = some (.cells #[.int .i64 ((rd_T32 l0_6 x17_1).f0), .int .i64 ((rd_T32 l0_6 x17_1).f1), .int .i64 ((rd_T32 l0_6 x17_1).f2), .int .i64 ((rd_T32 l0_6 x17_1).f3), .int .u8 ((rd_T32 l0_6 x17_1).f4)] 32 (0, 0))) ∧ Aside0 (wc.heap[gb108]? = some (.cells #[.int .i64 x109000_15, .int .i64 x109001_15, .int .i64 x109002_15, .int .i64 x109003_15, .int .u8 x109004_15] 32 (0, 0))) ∧ Aside0 (Below w.heap.size w wc))
                        case first =>
                          have H := HC60.out
                          clear HC60
                          by_cases c66 : x17_1 > 0
                          · rw [if_pos c66] at H
                            have c66b0 : decide (0 < x17_1) = true := decide_eq_true c66
                            clear c66
                            (first | rw [c66b0] | (simp only [i64_w, i32_w]; rw [c66b0]) | skip)
                            have H' := Aside0.mk H
                            clear H
                            have hnb67 := NB106_104.out
                            have hnc67 := NB104_106.out
                            have hnb68 := NB106_108.out
                            have hnc68 := NB108_106.out
                            have hcz69_0 : wc.cell? ⟨gb106, 0, none⟩ = some (.int .i64 ((rd_T32 l0_6 x17_1).f0)) := (blk_cell BK106.out 0).trans rfl
                            have hcz69_1 : wc.cell? ⟨gb106, 1, none⟩ = some (.int .i64 ((rd_T32 l0_6 x17_1).f1)) := (blk_cell BK106.out 1).trans rfl
                            have hcz69_2 : wc.cell? ⟨gb106, 2, none⟩ = some (.int .i64 ((rd_T32 l0_6 x17_1).f2)) := (blk_cell BK106.out 2).trans rfl
                            have hcz69_3 : wc.cell? ⟨gb106, 3, none⟩ = some (.int .i64 ((rd_T32 l0_6 x17_1).f3)) := (blk_cell BK106.out 3).trans rfl
                            have hcz69_4 : wc.cell? ⟨gb106, 4, none⟩ = some (.int .u8 ((rd_T32 l0_6 x17_1).f4)) := (blk_cell BK106.out 4).trans rfl
                            have hfz69_0 := blk_frozen BK106.out 0
                            have hfz69_1 := blk_frozen BK106.out 1
                            have hfz69_2 := blk_frozen BK106.out 2
                            have hfz69_3 := blk_frozen BK106.out 3
                            have hfz69_4 := blk_frozen BK106.out 4
                            have hnb70 := NB108_104.out
                            have hnc70 := NB104_108.out
                            have hcz71_0 : wc.cell? ⟨gb108, 0, none⟩ = some (.int .i64 x109000_15) := (blk_cell BK108.out 0).trans rfl
                            have hcz71_1 : wc.cell? ⟨gb108, 1, none⟩ = some (.int .i64 x109001_15) := (blk_cell BK108.out 1).trans rfl
                            have hcz71_2 : wc.cell? ⟨gb108, 2, none⟩ = some (.int .i64 x109002_15) := (blk_cell BK108.out 2).trans rfl
                            have hcz71_3 : wc.cell? ⟨gb108, 3, none⟩ = some (.int .i64 x109003_15) := (blk_cell BK108.out 3).trans rfl
                            have hcz71_4 : wc.cell? ⟨gb108, 4, none⟩ = some (.int .u8 x109004_15) := (blk_cell BK108.out 4).trans rfl
                            have hfz71_0 := blk_frozen BK108.out 0
                            have hfz71_1 := blk_frozen BK108.out 1
                            have hfz71_2 := blk_frozen BK108.out 2
                            have hfz71_3 := blk_frozen BK108.out 3
                            have hfz71_4 := blk_frozen BK108.out 4
                            go_wp2
                            go_meet
                            case rel => exact ⟨_, (decide (((rd_T32 l0_6 x17_1).f0) ≤ x109000_15)), (by first | rfl | (simp; done) | (simp [*]; done) | (by_cases hdp0_ : ((rd_T32 l0_6 x17_1).f0) ≤ x109000_15 <;> simp [*] <;> done)), H', ⟨by have := HK1.out; have := HJ9.out; have := HJ15.out; first | omega | exact Nat.le_refl _⟩, ⟨by (with_reducible repeat (first | refine blk_drewN ?_ _ | refine blk_drew ?_ | refine blk_alloc ?_ _)); exact BK104.out⟩, ⟨by (with_reducible repeat (first | refine blk_drewN ?_ _ | refine blk_drew ?_ | refine blk_alloc ?_ _)); exact BK106.out⟩, ⟨by (with_reducible repeat (first | refine blk_drewN ?_ _ | refine blk_drew ?_ | refine blk_alloc ?_ _)); exact BK108.out⟩, ⟨by repeat (first | (with_reducible first | exact HB.out | apply below_alloc | apply pw_below_drewN | apply below_drew1 | refine below_set ?_ GE104.out | refine below_set ?_ GE106.out | refine below_set ?_ GE108.out) | exact HB.out)⟩⟩
                          · rw [if_neg c66] at H
                            have c66b0 : decide (0 < x17_1) = false := decide_eq_false c66
                            clear c66
                            (first | rw [c66b0] | (simp only [i64_w, i32_w]; rw [c66b0]) | skip)
                            have H' := Aside0.mk H
                            clear H
                            go_wp2
                            go_meet
                            case rel => exact ⟨_, (false), (by first | rfl | (simp; done) | (simp [*]; done)), H', ⟨by have := HK1.out; have := HJ9.out; have := HJ15.out; first | omega | exact Nat.le_refl _⟩, ⟨by (with_reducible repeat (first | refine blk_drewN ?_ _ | refine blk_drew ?_ | refine blk_alloc ?_ _)); exact BK104.out⟩, ⟨by (with_reducible repeat (first | refine blk_drewN ?_ _ | refine blk_drew ?_ | refine blk_alloc ?_ _)); exact BK106.out⟩, ⟨by (with_reducible repeat (first | refine blk_drewN ?_ _ | refine blk_drew ?_ | refine blk_alloc ?_ _)); exact BK108.out⟩, ⟨by repeat (first | (with_reducible first | exact HB.out | apply below_alloc | apply pw_below_drewN | apply below_drew1 | refine below_set ?_ GE104.out | refine below_set ?_ GE106.out | refine below_set ?_ GE108.out) | exact HB.out)⟩⟩
                        case rest =>
                          clear HC60
                          try clear c1
                          try clear p1
                          try clear q1
                          try clear hx1
                          try clear c2
                          try clear p2
                          try clear c3
                          try clear c4
                          try clear c5
                          try clear c6
                          try clear c6b0
                          try clear p6
                          try clear c7
                          try clear c7b0
                          try clear c8
                          try clear c8b0
                          try clear p10
                          try clear q10
                          try clear hx10
                          try clear c12
                          try clear c15
                          try clear c17
                          try clear c18
                          try clear c18b0
                          try clear c20
                          try clear c20b0
                          try clear c21
                          try clear c21b0
                          try clear c22
                          try clear c23
                          try clear c23b0
                          try clear c25
                          try clear c26
                          try clear c27
                          try clear c29
                          try clear c34
                          try clear c35
                          try clear c37
                          try clear c40
                          try clear c41
                          try clear c43
                          try clear c45
                          try clear c46
                          try clear c48
                          try clear c50
                          try clear c50b0
                          try clear c51
                          try clear c52
                          try clear c54
                          try clear c54b0
                          try clear c55
                          try clear c56
                          try clear c58
                          try clear c61
                          try clear c62
                          try clear c64
                          try clear p64
                          try clear c66
                          try clear c66b0
                          try clear c67
                          try clear c68
                          try clear c70
                          try clear hcz13_0
                          try clear hcz13_1
                          try clear hcz13_2
                          try clear hcz13_3
                          try clear hcz13_4
                          try clear hcz28_0
                          try clear hcz28_1
                          try clear hcz28_2
                          try clear hcz28_3
                          try clear hcz28_4
                          try clear hcz28_5
                          try clear hcz28_6
                          try clear hcz30_0
                          try clear hcz30_1
                          try clear hcz30_2
                          try clear hcz30_3
                          try clear hcz30_4
                          try clear hcz32_0
                          try clear hcz32_1
                          try clear hcz32_2
                          try clear hcz32_3
                          try clear hcz32_4
                          try clear hcz33_0
                          try clear hcz33_1
                          try clear hcz33_2
                          try clear hcz33_3
                          try clear hcz33_4
                          try clear hcz36_0
                          try clear hcz36_1
                          try clear hcz36_2
                          try clear hcz36_3
                          try clear hcz36_4
                          try clear hcz36_5
                          try clear hcz36_6
                          try clear hcz38_0
                          try clear hcz38_1
                          try clear hcz38_2
                          try clear hcz38_3
                          try clear hcz38_4
                          try clear hcz42_0
                          try clear hcz42_1
                          try clear hcz42_2
                          try clear hcz42_3
                          try clear hcz42_4
                          try clear hcz42_5
                          try clear hcz42_6
                          try clear hcz44_0
                          try clear hcz44_1
                          try clear hcz44_2
                          try clear hcz44_3
                          try clear hcz44_4
                          try clear hcz47_0
                          try clear hcz47_1
                          try clear hcz47_2
                          try clear hcz47_3
                          try clear hcz47_4
                          try clear hcz47_5
                          try clear hcz47_6
                          try clear hcz49_0
                          try clear hcz49_1
                          try clear hcz49_2
                          try clear hcz49_3
                          try clear hcz49_4
                          try clear hcz53_0
                          try clear hcz53_1
                          try clear hcz53_2
                          try clear hcz53_3
                          try clear hcz53_4
                          try clear hcz57_0
                          try clear hcz57_1
                          try clear hcz57_2
                          try clear hcz57_3
                          try clear hcz57_4
                          try clear hcz59_0
                          try clear hcz59_1
                          try clear hcz59_2
                          try clear hcz59_3
                          try clear hcz59_4
                          try clear hcz59_5
                          try clear hcz59_6
                          try clear hcz5_0
                          try clear hcz5_1
                          try clear hcz5_2
                          try clear hcz5_3
                          try clear hcz5_4
                          try clear hcz5_5
                          try clear hcz5_6
                          try clear hcz63_0
                          try clear hcz63_1
                          try clear hcz63_2
                          try clear hcz63_3
                          try clear hcz63_4
                          try clear hcz65_0
                          try clear hcz65_1
                          try clear hcz65_2
                          try clear hcz65_3
                          try clear hcz65_4
                          try clear hcz65_5
                          try clear hcz65_6
                          try clear hcz69_0
                          try clear hcz69_1
                          try clear hcz69_2
                          try clear hcz69_3
                          try clear hcz69_4
                          try clear hcz71_0
                          try clear hcz71_1
                          try clear hcz71_2
                          try clear hcz71_3
                          try clear hcz71_4
                          try clear hfz13_0
                          try clear hfz13_1
                          try clear hfz13_2
                          try clear hfz13_3
                          try clear hfz13_4
                          try clear hfz28_0
                          try clear hfz28_1
                          try clear hfz28_2
                          try clear hfz28_3
                          try clear hfz28_4
                          try clear hfz28_5
                          try clear hfz28_6
                          try clear hfz30_0
                          try clear hfz30_1
                          try clear hfz30_2
                          try clear hfz30_3
                          try clear hfz30_4
                          try clear hfz32_0
                          try clear hfz32_1
                          try clear hfz32_2
                          try clear hfz32_3
                          try clear hfz32_4
                          try clear hfz33_0
                          try clear hfz33_1
                          try clear hfz33_2
                          try clear hfz33_3
                          try clear hfz33_4
                          try clear hfz36_0
                          try clear hfz36_1
                          try clear hfz36_2
                          try clear hfz36_3
                          try clear hfz36_4
                          try clear hfz36_5
                          try clear hfz36_6
                          try clear hfz38_0
                          try clear hfz38_1
                          try clear hfz38_2
                          try clear hfz38_3
                          try clear hfz38_4
                          try clear hfz42_0
                          try clear hfz42_1
                          try clear hfz42_2
                          try clear hfz42_3
                          try clear hfz42_4
                          try clear hfz42_5
                          try clear hfz42_6
                          try clear hfz44_0
                          try clear hfz44_1
                          try clear hfz44_2
                          try clear hfz44_3
                          try clear hfz44_4
                          try clear hfz47_0
                          try clear hfz47_1
                          try clear hfz47_2
                          try clear hfz47_3
                          try clear hfz47_4
                          try clear hfz47_5
                          try clear hfz47_6
                          try clear hfz49_0
                          try clear hfz49_1
                          try clear hfz49_2
                          try clear hfz49_3
                          try clear hfz49_4
                          try clear hfz53_0
                          try clear hfz53_1
                          try clear hfz53_2
                          try clear hfz53_3
                          try clear hfz53_4
                          try clear hfz57_0
                          try clear hfz57_1
                          try clear hfz57_2
                          try clear hfz57_3
                          try clear hfz57_4
                          try clear hfz59_0
                          try clear hfz59_1
                          try clear hfz59_2
                          try clear hfz59_3
                          try clear hfz59_4
                          try clear hfz59_5
                          try clear hfz59_6
                          try clear hfz5_0
                          try clear hfz5_1
                          try clear hfz5_2
                          try clear hfz5_3
                          try clear hfz5_4
                          try clear hfz5_5
                          try clear hfz5_6
                          try clear hfz63_0
                          try clear hfz63_1
                          try clear hfz63_2
                          try clear hfz63_3
                          try clear hfz63_4
                          try clear hfz65_0
                          try clear hfz65_1
                          try clear hfz65_2
                          try clear hfz65_3
                          try clear hfz65_4
                          try clear hfz65_5
                          try clear hfz65_6
                          try clear hfz69_0
                          try clear hfz69_1
                          try clear hfz69_2
                          try clear hfz69_3
                          try clear hfz69_4
                          try clear hfz71_0
                          try clear hfz71_1
                          try clear hfz71_2
                          try clear hfz71_3
                          try clear hfz71_4
                          try clear hx105_0
                          try clear hx105_1
                          try clear hx105_2
                          try clear hx105_3
                          try clear hx105_4
                          try clear hx109_0
                          try clear hx109_1
                          try clear hx109_2
                          try clear hx109_3
                          try clear hx109_4
                          try clear p1
                          try clear p10
                          try clear p105
                          try clear p109
                          try clear p2
                          try clear p6
                          try clear q1
                          try clear q10
                          try clear q105
                          try clear q109
                          obtain ⟨kq, x53_59, rfl, HA, HJ59, BK104, BK106, BK108, HB⟩ := hcut
                          cases kq with
                          | zero => exact absurd HA.out (by simp [vee_Check.j3])
                          | succ kj59 =>
                            have H := HA.out
                            clear HA
                            simp only [vee_Check.j3] at H
                            by_cases c72 : x53_59 = true
                            · subst c72
                              have H1 : (some (x17_1, 3)) = some (r1, r2) := by rw [if_pos rfl] at H; exact H
                              clear H
                              have H := H1
                              clear H1
                              simp only [Option.some.injEq, Prod.mk.injEq] at H
                              obtain ⟨rfl, rfl⟩ := H
                              go_wp2
                              go_ret2
                              exact ⟨by first | rfl | (simp [errW_none, errW_some] <;> rfl) | (simp [*, errW_none, errW_some] <;> rfl), by repeat (first | (with_reducible first | exact HB.out | apply below_alloc | apply pw_below_drewN | apply below_drew1 | refine below_set ?_ GE104.out | refine below_set ?_ GE106.out | refine below_set ?_ GE108.out) | exact HB.out)⟩
                            · replace c72 := Bool.eq_false_iff.mpr c72
                              subst c72
                              have H1 : (if t107 = true then (vee_Check.j4 kj59 a1 a2 x8_9 x17_1 t107 x13_15 l0_6 (l0_6.length : Int) x17_1 false a0_0 a0_1 a0_2 a0_3 a0_4 a0_5 l0_6 ((rd_T32 l0_6 x17_1).f0) ((rd_T32 l0_6 x17_1).f1) ((rd_T32 l0_6 x17_1).f2) ((rd_T32 l0_6 x17_1).f3) ((rd_T32 l0_6 x17_1).f4) x109000_15 x109001_15 x109002_15 x109003_15 x109004_15) else (vee_Check.j4 kj59 a1 a2 x8_9 x17_1 t107 x13_15 l0_6 (l0_6.length : Int) x17_1 (((rd_T32 l0_6 x17_1).f4) != 83) a0_0 a0_1 a0_2 a0_3 a0_4 a0_5 l0_6 ((rd_T32 l0_6 x17_1).f0) ((rd_T32 l0_6 x17_1).f1) ((rd_T32 l0_6 x17_1).f2) ((rd_T32 l0_6 x17_1).f3) ((rd_T32 l0_6 x17_1).f4) x109000_15 x109001_15 x109002_15 x109003_15 x109004_15)) = some (r1, r2) := by rw [if_neg (show ¬ (false = true) by decide)] at H; exact H
                              clear H
                              have H := H1
                              clear H1
                              have HC73 := Aside0.mk H
                              clear H
                              go_upto_region 15 with (fail)
                              go_cut [53] (fun v53 wc => ∃ (kq : Nat) (x53_72 : Bool), v53 = .bool x53_72 ∧ Aside0 (vee_Check.j4 kq a1 a2 x8_9 x17_1 t107 x13_15 l0_6 (l0_6.length : Int) x17_1 x53_72 a0_0 a0_1 a0_2 a0_3 a0_4 a0_5 l0_6 ((rd_T32 l0_6 x17_1).f0) ((rd_T32 l0_6 x17_1).f1) ((rd_T32 l0_6 x17_1).f2) ((rd_T32 l0_6 x17_1).f3) ((rd_T32 l0_6 x17_1).f4) x109000_15 x109001_15 x109002_15 x109003_15 x109004_15 = some (r1, r2)) ∧ Aside0 (kq ≤ kj59) ∧ Aside0 (wc.heap[gb104]? = some (.cells #[.string a0_0, .int .i64 a0_1, .int .i64 a0_2, .int .i64 a0_3, .int .i64 a0_4, .int .i64 a0_5, (.slice (some ad105) l0_6.length c0_6)] 24 (0, 0))) ∧ Aside0 (wc.heap[gb106]? = some (.cells #[.int .i64 ((rd_T32 l0_6 x17_1).f0), .int .i64 ((rd_T32 l0_6 x17_1).f1), .int .i64 ((rd_T32 l0_6 x17_1).f2), .int .i64 ((rd_T32 l0_6 x17_1).f3), .int .u8 ((rd_T32 l0_6 x17_1).f4)] 32 (0, 0))) ∧ Aside0 (wc.heap[gb108]? = some (.cells #[.int .i64 x109000_15, .int .i64 x109001_15, .int .i64 x109002_15, .int .i64 x109003_15, .int .u8 x109004_15] 32 (0, 0))) ∧ Aside0 (Below w.heap.size w wc))
                              case first =>
                                have H := HC73.out
                                clear HC73
                                by_cases c74 : t107 = true
                                · subst c74
                                  have H1 : (vee_Check.j4 kj59 a1 a2 x8_9 x17_1 true x13_15 l0_6 (l0_6.length : Int) x17_1 false a0_0 a0_1 a0_2 a0_3 a0_4 a0_5 l0_6 ((rd_T32 l0_6 x17_1).f0) ((rd_T32 l0_6 x17_1).f1) ((rd_T32 l0_6 x17_1).f2) ((rd_T32 l0_6 x17_1).f3) ((rd_T32 l0_6 x17_1).f4) x109000_15 x109001_15 x109002_15 x109003_15 x109004_15) = some (r1, r2) := by rw [if_pos rfl] at H; exact H
                                  clear H
                                  have H := H1
                                  clear H1
                                  have H' := Aside0.mk H
                                  clear H
                                  go_wp2
                                  go_meet
                                  case rel => exact ⟨_, (false), (by first | rfl | (simp; done) | (simp [*]; done)), H', ⟨by have := HK1.out; have := HJ9.out; have := HJ15.out; have := HJ59.out; first | omega | exact Nat.le_refl _⟩, ⟨by (with_reducible repeat (first | refine blk_drewN ?_ _ | refine blk_drew ?_ | refine blk_alloc ?_ _)); exact BK104.out⟩, ⟨by (with_reducible repeat (first | refine blk_drewN ?_ _ | refine blk_drew ?_ | refine blk_alloc ?_ _)); exact BK106.out⟩, ⟨by (with_reducible repeat (first | refine blk_drewN ?_ _ | refine blk_drew ?_ | refine blk_alloc ?_ _)); exact BK108.out⟩, ⟨by repeat (first | (with_reducible first | exact HB.out | apply below_alloc | apply pw_below_drewN | apply below_drew1 | refine below_set ?_ GE104.out | refine below_set ?_ GE106.out | refine below_set ?_ GE108.out) | exact HB.out)⟩⟩
                                · replace c74 := Bool.eq_false_iff.mpr c74
                                  subst c74
                                  have H1 : (vee_Check.j4 kj59 a1 a2 x8_9 x17_1 false x13_15 l0_6 (l0_6.length : Int) x17_1 (((rd_T32 l0_6 x17_1).f4) != 83) a0_0 a0_1 a0_2 a0_3 a0_4 a0_5 l0_6 ((rd_T32 l0_6 x17_1).f0) ((rd_T32 l0_6 x17_1).f1) ((rd_T32 l0_6 x17_1).f2) ((rd_T32 l0_6 x17_1).f3) ((rd_T32 l0_6 x17_1).f4) x109000_15 x109001_15 x109002_15 x109003_15 x109004_15) = some (r1, r2) := by rw [if_neg (show ¬ (false = true) by decide)] at H; exact H
                                  clear H
                                  have H := H1
                                  clear H1
                                  have H' := Aside0.mk H
                                  clear H
                                  have hnb75 := NB106_104.out
                                  have hnc75 := NB104_106.out
                                  have hnb76 := NB106_108.out
                                  have hnc76 := NB108_106.out
                                  have hcz77_0 : wc.cell? ⟨gb106, 0, none⟩ = some (.int .i64 ((rd_T32 l0_6 x17_1).f0)) := (blk_cell BK106.out 0).trans rfl
                                  have hcz77_1 : wc.cell? ⟨gb106, 1, none⟩ = some (.int .i64 ((rd_T32 l0_6 x17_1).f1)) := (blk_cell BK106.out 1).trans rfl
                                  have hcz77_2 : wc.cell? ⟨gb106, 2, none⟩ = some (.int .i64 ((rd_T32 l0_6 x17_1).f2)) := (blk_cell BK106.out 2).trans rfl
                                  have hcz77_3 : wc.cell? ⟨gb106, 3, none⟩ = some (.int .i64 ((rd_T32 l0_6 x17_1).f3)) := (blk_cell BK106.out 3).trans rfl
                                  have hcz77_4 : wc.cell? ⟨gb106, 4, none⟩ = some (.int .u8 ((rd_T32 l0_6 x17_1).f4)) := (blk_cell BK106.out 4).trans rfl
                                  have hfz77_0 := blk_frozen BK106.out 0
                                  have hfz77_1 := blk_frozen BK106.out 1
                                  have hfz77_2 := blk_frozen BK106.out 2
                                  have hfz77_3 := blk_frozen BK106.out 3
                                  have hfz77_4 := blk_frozen BK106.out 4
                                  go_wp2
                                  go_meet
                                  case rel => exact ⟨_, ((((rd_T32 l0_6 x17_1).f4) != 83)), (by first | rfl | (simp; done) | (simp [*]; done)), H', ⟨by have := HK1.out; have := HJ9.out; have := HJ15.out; have := HJ59.out; first | omega | exact Nat.le_refl _⟩, ⟨by (with_reducible repeat (first | refine blk_drewN ?_ _ | refine blk_drew ?_ | refine blk_alloc ?_ _)); exact BK104.out⟩, ⟨by (with_reducible repeat (first | refine blk_drewN ?_ _ | refine blk_drew ?_ | refine blk_alloc ?_ _)); exact BK106.out⟩, ⟨by (with_reducible repeat (first | refine blk_drewN ?_ _ | refine blk_drew ?_ | refine blk_alloc ?_ _)); exact BK108.out⟩, ⟨by repeat (first | (with_reducible first | exact HB.out | apply below_alloc | apply pw_below_drewN | apply below_drew1 | refine below_set ?_ GE104.out | refine below_set ?_ GE106.out | refine below_set ?_ GE108.out) | exact HB.out)⟩⟩
                              case rest =>
                                clear HC73
                                try clear c1
                                try clear p1
                                try clear q1
                                try clear hx1
                                try clear c2
                                try clear p2
                                try clear c3
                                try clear c4
                                try clear c5
                                try clear c6
                                try clear c6b0
                                try clear p6
                                try clear c7
                                try clear c7b0
                                try clear c8
                                try clear c8b0
                                try clear p10
                                try clear q10
                                try clear hx10
                                try clear c12
                                try clear c15
                                try clear c17
                                try clear c18
                                try clear c18b0
                                try clear c20
                                try clear c20b0
                                try clear c21
                                try clear c21b0
                                try clear c22
                                try clear c23
                                try clear c23b0
                                try clear c25
                                try clear c26
                                try clear c27
                                try clear c29
                                try clear c34
                                try clear c35
                                try clear c37
                                try clear c40
                                try clear c41
                                try clear c43
                                try clear c45
                                try clear c46
                                try clear c48
                                try clear c50
                                try clear c50b0
                                try clear c51
                                try clear c52
                                try clear c54
                                try clear c54b0
                                try clear c55
                                try clear c56
                                try clear c58
                                try clear c61
                                try clear c62
                                try clear c64
                                try clear p64
                                try clear c66
                                try clear c66b0
                                try clear c67
                                try clear c68
                                try clear c70
                                try clear c72
                                try clear c74
                                try clear c75
                                try clear c76
                                try clear hcz13_0
                                try clear hcz13_1
                                try clear hcz13_2
                                try clear hcz13_3
                                try clear hcz13_4
                                try clear hcz28_0
                                try clear hcz28_1
                                try clear hcz28_2
                                try clear hcz28_3
                                try clear hcz28_4
                                try clear hcz28_5
                                try clear hcz28_6
                                try clear hcz30_0
                                try clear hcz30_1
                                try clear hcz30_2
                                try clear hcz30_3
                                try clear hcz30_4
                                try clear hcz32_0
                                try clear hcz32_1
                                try clear hcz32_2
                                try clear hcz32_3
                                try clear hcz32_4
                                try clear hcz33_0
                                try clear hcz33_1
                                try clear hcz33_2
                                try clear hcz33_3
                                try clear hcz33_4
                                try clear hcz36_0
                                try clear hcz36_1
                                try clear hcz36_2
                                try clear hcz36_3
                                try clear hcz36_4
                                try clear hcz36_5
                                try clear hcz36_6
                                try clear hcz38_0
                                try clear hcz38_1
                                try clear hcz38_2
                                try clear hcz38_3
                                try clear hcz38_4
                                try clear hcz42_0
                                try clear hcz42_1
                                try clear hcz42_2
                                try clear hcz42_3
                                try clear hcz42_4
                                try clear hcz42_5
                                try clear hcz42_6
                                try clear hcz44_0
                                try clear hcz44_1
                                try clear hcz44_2
                                try clear hcz44_3
                                try clear hcz44_4
                                try clear hcz47_0
                                try clear hcz47_1
                                try clear hcz47_2
                                try clear hcz47_3
                                try clear hcz47_4
                                try clear hcz47_5
                                try clear hcz47_6
                                try clear hcz49_0
                                try clear hcz49_1
                                try clear hcz49_2
                                try clear hcz49_3
                                try clear hcz49_4
                                try clear hcz53_0
                                try clear hcz53_1
                                try clear hcz53_2
                                try clear hcz53_3
                                try clear hcz53_4
                                try clear hcz57_0
                                try clear hcz57_1
                                try clear hcz57_2
                                try clear hcz57_3
                                try clear hcz57_4
                                try clear hcz59_0
                                try clear hcz59_1
                                try clear hcz59_2
                                try clear hcz59_3
                                try clear hcz59_4
                                try clear hcz59_5
                                try clear hcz59_6
                                try clear hcz5_0
                                try clear hcz5_1
                                try clear hcz5_2
                                try clear hcz5_3
                                try clear hcz5_4
                                try clear hcz5_5
                                try clear hcz5_6
                                try clear hcz63_0
                                try clear hcz63_1
                                try clear hcz63_2
                                try clear hcz63_3
                                try clear hcz63_4
                                try clear hcz65_0
                                try clear hcz65_1
                                try clear hcz65_2
                                try clear hcz65_3
                                try clear hcz65_4
                                try clear hcz65_5
                                try clear hcz65_6
                                try clear hcz69_0
                                try clear hcz69_1
                                try clear hcz69_2
                                try clear hcz69_3
                                try clear hcz69_4
                                try clear hcz71_0
                                try clear hcz71_1
                                try clear hcz71_2
                                try clear hcz71_3
                                try clear hcz71_4
                                try clear hcz77_0
                                try clear hcz77_1
                                try clear hcz77_2
                                try clear hcz77_3
                                try clear hcz77_4
                                try clear hfz13_0
                                try clear hfz13_1
                                try clear hfz13_2
                                try clear hfz13_3
                                try clear hfz13_4
                                try clear hfz28_0
                                try clear hfz28_1
                                try clear hfz28_2
                                try clear hfz28_3
                                try clear hfz28_4
                                try clear hfz28_5
                                try clear hfz28_6
                                try clear hfz30_0
                                try clear hfz30_1
                                try clear hfz30_2
                                try clear hfz30_3
                                try clear hfz30_4
                                try clear hfz32_0
                                try clear hfz32_1
                                try clear hfz32_2
                                try clear hfz32_3
                                try clear hfz32_4
                                try clear hfz33_0
                                try clear hfz33_1
                                try clear hfz33_2
                                try clear hfz33_3
                                try clear hfz33_4
                                try clear hfz36_0
                                try clear hfz36_1
                                try clear hfz36_2
                                try clear hfz36_3
                                try clear hfz36_4
                                try clear hfz36_5
                                try clear hfz36_6
                                try clear hfz38_0
                                try clear hfz38_1
                                try clear hfz38_2
                                try clear hfz38_3
                                try clear hfz38_4
                                try clear hfz42_0
                                try clear hfz42_1
                                try clear hfz42_2
                                try clear hfz42_3
                                try clear hfz42_4
                                try clear hfz42_5
                                try clear hfz42_6
                                try clear hfz44_0
                                try clear hfz44_1
                                try clear hfz44_2
                                try clear hfz44_3
                                try clear hfz44_4
                                try clear hfz47_0
                                try clear hfz47_1
                                try clear hfz47_2
                                try clear hfz47_3
                                try clear hfz47_4
                                try clear hfz47_5
                                try clear hfz47_6
                                try clear hfz49_0
                                try clear hfz49_1
                                try clear hfz49_2
                                try clear hfz49_3
                                try clear hfz49_4
                                try clear hfz53_0
                                try clear hfz53_1
                                try clear hfz53_2
                                try clear hfz53_3
                                try clear hfz53_4
                                try clear hfz57_0
                                try clear hfz57_1
                                try clear hfz57_2
                                try clear hfz57_3
                                try clear hfz57_4
                                try clear hfz59_0
                                try clear hfz59_1
                                try clear hfz59_2
                                try clear hfz59_3
                                try clear hfz59_4
                                try clear hfz59_5
                                try clear hfz59_6
                                try clear hfz5_0
                                try clear hfz5_1
                                try clear hfz5_2
                                try clear hfz5_3
                                try clear hfz5_4
                                try clear hfz5_5
                                try clear hfz5_6
                                try clear hfz63_0
                                try clear hfz63_1
                                try clear hfz63_2
                                try clear hfz63_3
                                try clear hfz63_4
                                try clear hfz65_0
                                try clear hfz65_1
                                try clear hfz65_2
                                try clear hfz65_3
                                try clear hfz65_4
                                try clear hfz65_5
                                try clear hfz65_6
                                try clear hfz69_0
                                try clear hfz69_1
                                try clear hfz69_2
                                try clear hfz69_3
                                try clear hfz69_4
                                try clear hfz71_0
                                try clear hfz71_1
                                try clear hfz71_2
                                try clear hfz71_3
                                try clear hfz71_4
                                try clear hfz77_0
                                try clear hfz77_1
                                try clear hfz77_2
                                try clear hfz77_3
                                try clear hfz77_4
                                try clear hx105_0
                                try clear hx105_1
                                try clear hx105_2
                                try clear hx105_3
                                try clear hx105_4
                                try clear hx109_0
                                try clear hx109_1
                                try clear hx109_2
                                try clear hx109_3
                                try clear hx109_4
                                try clear p1
                                try clear p10
                                try clear p105
                                try clear p109
                                try clear p2
                                try clear p6
                                try clear p64
                                try clear q1
                                try clear q10
                                try clear q105
                                try clear q109
                                obtain ⟨kq, x53_72, rfl, HA, HJ72, BK104, BK106, BK108, HB⟩ := hcut
                                cases kq with
                                | zero => exact absurd HA.out (by simp [vee_Check.j4])
                                | succ kj72 =>
                                  have H := HA.out
                                  clear HA
                                  simp only [vee_Check.j4] at H
                                  by_cases c78 : x53_72 = true
                                  · subst c78
                                    have H1 : (some (x17_1, 3)) = some (r1, r2) := by rw [if_pos rfl] at H; exact H
                                    clear H
                                    have H := H1
                                    clear H1
                                    simp only [Option.some.injEq, Prod.mk.injEq] at H
                                    obtain ⟨rfl, rfl⟩ := H
                                    go_wp2
                                    go_ret2
                                    exact ⟨by first | rfl | (simp [errW_none, errW_some] <;> rfl) | (simp [*, errW_none, errW_some] <;> rfl), by repeat (first | (with_reducible first | exact HB.out | apply below_alloc | apply pw_below_drewN | apply below_drew1 | refine below_set ?_ GE104.out | refine below_set ?_ GE106.out | refine below_set ?_ GE108.out) | exact HB.out)⟩
                                  · replace c78 := Bool.eq_false_iff.mpr c78
                                    subst c78
                                    have H1 : (if t107 = true then (if (mn ((rd_T32 l0_6 x17_1).f1) ((rd_T32 l0_6 x17_1).f2)) < 0 then (vee_Check.j5 kj72 a1 a2 x8_9 x17_1 x13_15 l0_6 (l0_6.length : Int) x17_1 true a0_0 a0_1 a0_2 a0_3 a0_4 a0_5 l0_6 ((rd_T32 l0_6 x17_1).f0) ((rd_T32 l0_6 x17_1).f1) ((rd_T32 l0_6 x17_1).f2) ((rd_T32 l0_6 x17_1).f3) ((rd_T32 l0_6 x17_1).f4) x109000_15 x109001_15 x109002_15 x109003_15 x109004_15) else (if (mx ((rd_T32 l0_6 x17_1).f1) ((rd_T32 l0_6 x17_1).f2)) > a1 then (vee_Check.j5 kj72 a1 a2 x8_9 x17_1 x13_15 l0_6 (l0_6.length : Int) x17_1 true a0_0 a0_1 a0_2 a0_3 a0_4 a0_5 l0_6 ((rd_T32 l0_6 x17_1).f0) ((rd_T32 l0_6 x17_1).f1) ((rd_T32 l0_6 x17_1).f2) ((rd_T32 l0_6 x17_1).f3) ((rd_T32 l0_6 x17_1).f4) x109000_15 x109001_15 x109002_15 x109003_15 x109004_15) else ((vee_apart.f ((rd_T32 l0_6 x17_1).f3) 0 a1).bind fun t111 => (vee_Check.j5 kj72 a1 a2 x8_9 x17_1 x13_15 l0_6 (l0_6.length : Int) x17_1 t111 a0_0 a0_1 a0_2 a0_3 a0_4 a0_5 l0_6 ((rd_T32 l0_6 x17_1).f0) ((rd_T32 l0_6 x17_1).f1) ((rd_T32 l0_6 x17_1).f2) ((rd_T32 l0_6 x17_1).f3) ((rd_T32 l0_6 x17_1).f4) x109000_15 x109001_15 x109002_15 x109003_15 x109004_15)))) else (vee_Check.j5 kj72 a1 a2 x8_9 x17_1 x13_15 l0_6 (l0_6.length : Int) x17_1 false a0_0 a0_1 a0_2 a0_3 a0_4 a0_5 l0_6 ((rd_T32 l0_6 x17_1).f0) ((rd_T32 l0_6 x17_1).f1) ((rd_T32 l0_6 x17_1).f2) ((rd_T32 l0_6 x17_1).f3) ((rd_T32 l0_6 x17_1).f4) x109000_15 x109001_15 x109002_15 x109003_15 x109004_15)) = some (r1, r2) := by rw [if_neg (show ¬ (false = true) by decide)] at H; exact H
                                    clear H
                                    have H := H1
                                    clear H1
                                    have HC79 := Aside0.mk H
                                    clear H
                                    go_upto_region 16 with (fail)
                                    go_cut [53] (fun v53 wc => ∃ (kq : Nat) (x53_78 : Bool), v53 = .bool x53_78 ∧ Aside0 (vee_Check.j5 kq a1 a2 x8_9 x17_1 x13_15 l0_6 (l0_6.length : Int) x17_1 x53_78 a0_0 a0_1 a0_2 a0_3 a0_4 a0_5 l0_6 ((rd_T32 l0_6 x17_1).f0) ((rd_T32 l0_6 x17_1).f1) ((rd_T32 l0_6 x17_1).f2) ((rd_T32 l0_6 x17_1).f3) ((rd_T32 l0_6 x17_1).f4) x109000_15 x109001_15 x109002_15 x109003_15 x109004_15 = some (r1, r2)) ∧ Aside0 (kq ≤ kj72) ∧ Aside0 (wc.heap[gb104]? = some (.cells #[.string a0_0, .int .i64 a0_1, .int .i64 a0_2, .int .i64 a0_3, .int .i64 a0_4, .int .i64 a0_5, (.slice (some ad105) l0_6.length c0_6)] 24 (0, 0))) ∧ Aside0 (wc.heap[gb106]? = some (.cells #[.int .i64 ((rd_T32 l0_6 x17_1).f0), .int .i64 ((rd_T32 l0_6 x17_1).f1), .int .i64 ((rd_T32 l0_6 x17_1).f2), .int .i64 ((rd_T32 l0_6 x17_1).f3), .int .u8 ((rd_T32 l0_6 x17_1).f4)] 32 (0, 0))) ∧ Aside0 (wc.heap[gb108]? = some (.cells #[.int .i64 x109000_15, .int .i64 x109001_15, .int .i64 x109002_15, .int .i64 x109003_15, .int .u8 x109004_15] 32 (0, 0))) ∧ Aside0 (Below w.heap.size w wc))
                                    case first =>
                                      have H := HC79.out
                                      clear HC79
                                      by_cases c80 : t107 = true
                                      · subst c80
                                        have H1 : (if (mn ((rd_T32 l0_6 x17_1).f1) ((rd_T32 l0_6 x17_1).f2)) < 0 then (vee_Check.j5 kj72 a1 a2 x8_9 x17_1 x13_15 l0_6 (l0_6.length : Int) x17_1 true a0_0 a0_1 a0_2 a0_3 a0_4 a0_5 l0_6 ((rd_T32 l0_6 x17_1).f0) ((rd_T32 l0_6 x17_1).f1) ((rd_T32 l0_6 x17_1).f2) ((rd_T32 l0_6 x17_1).f3) ((rd_T32 l0_6 x17_1).f4) x109000_15 x109001_15 x109002_15 x109003_15 x109004_15) else (if (mx ((rd_T32 l0_6 x17_1).f1) ((rd_T32 l0_6 x17_1).f2)) > a1 then (vee_Check.j5 kj72 a1 a2 x8_9 x17_1 x13_15 l0_6 (l0_6.length : Int) x17_1 true a0_0 a0_1 a0_2 a0_3 a0_4 a0_5 l0_6 ((rd_T32 l0_6 x17_1).f0) ((rd_T32 l0_6 x17_1).f1) ((rd_T32 l0_6 x17_1).f2) ((rd_T32 l0_6 x17_1).f3) ((rd_T32 l0_6 x17_1).f4) x109000_15 x109001_15 x109002_15 x109003_15 x109004_15) else ((vee_apart.f ((rd_T32 l0_6 x17_1).f3) 0 a1).bind fun t111 => (vee_Check.j5 kj72 a1 a2 x8_9 x17_1 x13_15 l0_6 (l0_6.length : Int) x17_1 t111 a0_0 a0_1 a0_2 a0_3 a0_4 a0_5 l0_6 ((rd_T32 l0_6 x17_1).f0) ((rd_T32 l0_6 x17_1).f1) ((rd_T32 l0_6 x17_1).f2) ((rd_T32 l0_6 x17_1).f3) ((rd_T32 l0_6 x17_1).f4) x109000_15 x109001_15 x109002_15 x109003_15 x109004_15)))) = some (r1, r2) := by rw [if_pos rfl] at H; exact H
                                        clear H
                                        have H := H1
                                        clear H1
                                        obtain ⟨ji81, hji81⟩ : ∃ j_ : Int, (mn ((rd_T32 l0_6 x17_1).f1) ((rd_T32 l0_6 x17_1).f2)) = j_ := ⟨_, rfl⟩
                                        replace H : (if (ji81) < 0 then (vee_Check.j5 kj72 a1 a2 x8_9 x17_1 x13_15 l0_6 (l0_6.length : Int) x17_1 true a0_0 a0_1 a0_2 a0_3 a0_4 a0_5 l0_6 ((rd_T32 l0_6 x17_1).f0) ((rd_T32 l0_6 x17_1).f1) ((rd_T32 l0_6 x17_1).f2) ((rd_T32 l0_6 x17_1).f3) ((rd_T32 l0_6 x17_1).f4) x109000_15 x109001_15 x109002_15 x109003_15 x109004_15) else (if (mx ((rd_T32 l0_6 x17_1).f1) ((rd_T32 l0_6 x17_1).f2)) > a1 then (vee_Check.j5 kj72 a1 a2 x8_9 x17_1 x13_15 l0_6 (l0_6.length : Int) x17_1 true a0_0 a0_1 a0_2 a0_3 a0_4 a0_5 l0_6 ((rd_T32 l0_6 x17_1).f0) ((rd_T32 l0_6 x17_1).f1) ((rd_T32 l0_6 x17_1).f2) ((rd_T32 l0_6 x17_1).f3) ((rd_T32 l0_6 x17_1).f4) x109000_15 x109001_15 x109002_15 x109003_15 x109004_15) else ((vee_apart.f ((rd_T32 l0_6 x17_1).f3) 0 a1).bind fun t111 => (vee_Check.j5 kj72 a1 a2 x8_9 x17_1 x13_15 l0_6 (l0_6.length : Int) x17_1 t111 a0_0 a0_1 a0_2 a0_3 a0_4 a0_5 l0_6 ((rd_T32 l0_6 x17_1).f0) ((rd_T32 l0_6 x17_1).f1) ((rd_T32 l0_6 x17_1).f2) ((rd_T32 l0_6 x17_1).f3) ((rd_T32 l0_6 x17_1).f4) x109000_15 x109001_15 x109002_15 x109003_15 x109004_15)))) = some (r1, r2) := by first | (rw [hji81] at H; exact H) | (simp only [hji81] at H ⊢; exact H)
                                        have hji81_ : (if ((rd_T32 l0_6 x17_1).f2) < ((rd_T32 l0_6 x17_1).f1) then ((rd_T32 l0_6 x17_1).f2) else ((rd_T32 l0_6 x17_1).f1)) = ji81 := hji81
                                        by_cases c82 : (ji81) < 0
                                        · rw [if_pos c82] at H
                                          have c82b0 : decide ((ji81) < 0) = true := decide_eq_true c82
                                          clear c82
                                          (first | rw [c82b0] | (simp only [i64_w, i32_w]; rw [c82b0]) | skip)
                                          have H' := Aside0.mk H
                                          clear H
                                          have hnb83 := NB106_104.out
                                          have hnc83 := NB104_106.out
                                          have hnb84 := NB106_108.out
                                          have hnc84 := NB108_106.out
                                          have hcz85_0 : wc.cell? ⟨gb106, 0, none⟩ = some (.int .i64 ((rd_T32 l0_6 x17_1).f0)) := (blk_cell BK106.out 0).trans rfl
                                          have hcz85_1 : wc.cell? ⟨gb106, 1, none⟩ = some (.int .i64 ((rd_T32 l0_6 x17_1).f1)) := (blk_cell BK106.out 1).trans rfl
                                          have hcz85_2 : wc.cell? ⟨gb106, 2, none⟩ = some (.int .i64 ((rd_T32 l0_6 x17_1).f2)) := (blk_cell BK106.out 2).trans rfl
                                          have hcz85_3 : wc.cell? ⟨gb106, 3, none⟩ = some (.int .i64 ((rd_T32 l0_6 x17_1).f3)) := (blk_cell BK106.out 3).trans rfl
                                          have hcz85_4 : wc.cell? ⟨gb106, 4, none⟩ = some (.int .u8 ((rd_T32 l0_6 x17_1).f4)) := (blk_cell BK106.out 4).trans rfl
                                          have hfz85_0 := blk_frozen BK106.out 0
                                          have hfz85_1 := blk_frozen BK106.out 1
                                          have hfz85_2 := blk_frozen BK106.out 2
                                          have hfz85_3 := blk_frozen BK106.out 3
                                          have hfz85_4 := blk_frozen BK106.out 4
                                          go_wp2
                                          go_meet
                                          case rel => exact ⟨_, (true), (by first | rfl | (simp; done) | (simp [*]; done)), H', ⟨by have := HK1.out; have := HJ9.out; have := HJ15.out; have := HJ59.out; have := HJ72.out; first | omega | exact Nat.le_refl _⟩, ⟨by (with_reducible repeat (first | refine blk_drewN ?_ _ | refine blk_drew ?_ | refine blk_alloc ?_ _)); exact BK104.out⟩, ⟨by (with_reducible repeat (first | refine blk_drewN ?_ _ | refine blk_drew ?_ | refine blk_alloc ?_ _)); exact BK106.out⟩, ⟨by (with_reducible repeat (first | refine blk_drewN ?_ _ | refine blk_drew ?_ | refine blk_alloc ?_ _)); exact BK108.out⟩, ⟨by repeat (first | (with_reducible first | exact HB.out | apply below_alloc | apply pw_below_drewN | apply below_drew1 | refine below_set ?_ GE104.out | refine below_set ?_ GE106.out | refine below_set ?_ GE108.out) | exact HB.out)⟩⟩
                                        · rw [if_neg c82] at H
                                          have c82b0 : decide ((ji81) < 0) = false := decide_eq_false c82
                                          clear c82
                                          (first | rw [c82b0] | (simp only [i64_w, i32_w]; rw [c82b0]) | skip)
                                          obtain ⟨ji86, hji86⟩ : ∃ j_ : Int, (mx ((rd_T32 l0_6 x17_1).f1) ((rd_T32 l0_6 x17_1).f2)) = j_ := ⟨_, rfl⟩
                                          replace H : (if (ji86) > a1 then (vee_Check.j5 kj72 a1 a2 x8_9 x17_1 x13_15 l0_6 (l0_6.length : Int) x17_1 true a0_0 a0_1 a0_2 a0_3 a0_4 a0_5 l0_6 ((rd_T32 l0_6 x17_1).f0) ((rd_T32 l0_6 x17_1).f1) ((rd_T32 l0_6 x17_1).f2) ((rd_T32 l0_6 x17_1).f3) ((rd_T32 l0_6 x17_1).f4) x109000_15 x109001_15 x109002_15 x109003_15 x109004_15) else ((vee_apart.f ((rd_T32 l0_6 x17_1).f3) 0 a1).bind fun t111 => (vee_Check.j5 kj72 a1 a2 x8_9 x17_1 x13_15 l0_6 (l0_6.length : Int) x17_1 t111 a0_0 a0_1 a0_2 a0_3 a0_4 a0_5 l0_6 ((rd_T32 l0_6 x17_1).f0) ((rd_T32 l0_6 x17_1).f1) ((rd_T32 l0_6 x17_1).f2) ((rd_T32 l0_6 x17_1).f3) ((rd_T32 l0_6 x17_1).f4) x109000_15 x109001_15 x109002_15 x109003_15 x109004_15))) = some (r1, r2) := by first | (rw [hji86] at H; exact H) | (simp only [hji86] at H ⊢; exact H)
                                          have hji86_ : (if ((rd_T32 l0_6 x17_1).f1) < ((rd_T32 l0_6 x17_1).f2) then ((rd_T32 l0_6 x17_1).f2) else ((rd_T32 l0_6 x17_1).f1)) = ji86 := hji86
                                          by_cases c87 : (ji86) > a1
                                          · rw [if_pos c87] at H
                                            have c87b0 : decide (a1 < (ji86)) = true := decide_eq_true c87
                                            clear c87
                                            have H' := Aside0.mk H
                                            clear H
                                            have hnb88 := NB106_104.out
                                            have hnc88 := NB104_106.out
                                            have hnb89 := NB106_108.out
                                            have hnc89 := NB108_106.out
                                            have hcz90_0 : wc.cell? ⟨gb106, 0, none⟩ = some (.int .i64 ((rd_T32 l0_6 x17_1).f0)) := (blk_cell BK106.out 0).trans rfl
                                            have hcz90_1 : wc.cell? ⟨gb106, 1, none⟩ = some (.int .i64 ((rd_T32 l0_6 x17_1).f1)) := (blk_cell BK106.out 1).trans rfl
                                            have hcz90_2 : wc.cell? ⟨gb106, 2, none⟩ = some (.int .i64 ((rd_T32 l0_6 x17_1).f2)) := (blk_cell BK106.out 2).trans rfl
                                            have hcz90_3 : wc.cell? ⟨gb106, 3, none⟩ = some (.int .i64 ((rd_T32 l0_6 x17_1).f3)) := (blk_cell BK106.out 3).trans rfl
                                            have hcz90_4 : wc.cell? ⟨gb106, 4, none⟩ = some (.int .u8 ((rd_T32 l0_6 x17_1).f4)) := (blk_cell BK106.out 4).trans rfl
                                            have hfz90_0 := blk_frozen BK106.out 0
                                            have hfz90_1 := blk_frozen BK106.out 1
                                            have hfz90_2 := blk_frozen BK106.out 2
                                            have hfz90_3 := blk_frozen BK106.out 3
                                            have hfz90_4 := blk_frozen BK106.out 4
                                            go_wp2
                                            go_meet
                                            case rel => exact ⟨_, (true), (by first | rfl | (simp; done) | (simp [*]; done)), H', ⟨by have := HK1.out; have := HJ9.out; have := HJ15.out; have := HJ59.out; have := HJ72.out; first | omega | exact Nat.le_refl _⟩, ⟨by (with_reducible repeat (first | refine blk_drewN ?_ _ | refine blk_drew ?_ | refine blk_alloc ?_ _)); exact BK104.out⟩, ⟨by (with_reducible repeat (first | refine blk_drewN ?_ _ | refine blk_drew ?_ | refine blk_alloc ?_ _)); exact BK106.out⟩, ⟨by (with_reducible repeat (first | refine blk_drewN ?_ _ | refine blk_drew ?_ | refine blk_alloc ?_ _)); exact BK108.out⟩, ⟨by repeat (first | (with_reducible first | exact HB.out | apply below_alloc | apply pw_below_drewN | apply below_drew1 | refine below_set ?_ GE104.out | refine below_set ?_ GE106.out | refine below_set ?_ GE108.out) | exact HB.out)⟩⟩
                                          · rw [if_neg c87] at H
                                            have c87b0 : decide (a1 < (ji86)) = false := decide_eq_false c87
                                            clear c87
                                            replace H := Option.bind_eq_some_iff.mp H
                                            obtain ⟨t111, A910, H⟩ := H
                                            replace H : (vee_Check.j5 kj72 a1 a2 x8_9 x17_1 x13_15 l0_6 (l0_6.length : Int) x17_1 t111 a0_0 a0_1 a0_2 a0_3 a0_4 a0_5 l0_6 ((rd_T32 l0_6 x17_1).f0) ((rd_T32 l0_6 x17_1).f1) ((rd_T32 l0_6 x17_1).f2) ((rd_T32 l0_6 x17_1).f3) ((rd_T32 l0_6 x17_1).f4) x109000_15 x109001_15 x109002_15 x109003_15 x109004_15) = some (r1, r2) := H
                                            have A91 := Aside0.mk A910
                                            clear A910
                                            have H' := Aside0.mk H
                                            clear H
                                            have hnb92 := NB106_104.out
                                            have hnc92 := NB104_106.out
                                            have hnb93 := NB106_108.out
                                            have hnc93 := NB108_106.out
                                            have hcz94_0 : wc.cell? ⟨gb106, 0, none⟩ = some (.int .i64 ((rd_T32 l0_6 x17_1).f0)) := (blk_cell BK106.out 0).trans rfl
                                            have hcz94_1 : wc.cell? ⟨gb106, 1, none⟩ = some (.int .i64 ((rd_T32 l0_6 x17_1).f1)) := (blk_cell BK106.out 1).trans rfl
                                            have hcz94_2 : wc.cell? ⟨gb106, 2, none⟩ = some (.int .i64 ((rd_T32 l0_6 x17_1).f2)) := (blk_cell BK106.out 2).trans rfl
                                            have hcz94_3 : wc.cell? ⟨gb106, 3, none⟩ = some (.int .i64 ((rd_T32 l0_6 x17_1).f3)) := (blk_cell BK106.out 3).trans rfl
                                            have hcz94_4 : wc.cell? ⟨gb106, 4, none⟩ = some (.int .u8 ((rd_T32 l0_6 x17_1).f4)) := (blk_cell BK106.out 4).trans rfl
                                            have hfz94_0 := blk_frozen BK106.out 0
                                            have hfz94_1 := blk_frozen BK106.out 1
                                            have hfz94_2 := blk_frozen BK106.out 2
                                            have hfz94_3 := blk_frozen BK106.out 3
                                            have hfz94_4 := blk_frozen BK106.out 4
                                            go_wp2_with (first | (go_at_call 28; (with_reducible refine (vee_apart.calls ((rd_T32 l0_6 x17_1).f3) 0 a1 t111 _ A91.out).mono ?_); rintro e w95 ⟨rfl, hb⟩; have n0_ := Aside0.mk (blk_below (g := gb104) (o := .cells #[.string a0_0, .int .i64 a0_1, .int .i64 a0_2, .int .i64 a0_3, .int .i64 a0_4, .int .i64 a0_5, .slice (some ad105) l0_6.length c0_6] 24 (0, 0)) (by (with_reducible repeat (first | refine blk_drewN ?_ _ | refine blk_drew ?_ | refine blk_alloc ?_ _)); exact BK104.out) hb); have n1_ := Aside0.mk (blk_below (g := gb106) (o := .cells #[.int .i64 ((rd_T32 l0_6 x17_1).f0), .int .i64 ((rd_T32 l0_6 x17_1).f1), .int .i64 ((rd_T32 l0_6 x17_1).f2), .int .i64 ((rd_T32 l0_6 x17_1).f3), .int .u8 ((rd_T32 l0_6 x17_1).f4)] 32 (0, 0)) (by (with_reducible repeat (first | refine blk_drewN ?_ _ | refine blk_drew ?_ | refine blk_alloc ?_ _)); exact BK106.out) hb); have n2_ := Aside0.mk (blk_below (g := gb108) (o := .cells #[.int .i64 x109000_15, .int .i64 x109001_15, .int .i64 x109002_15, .int .i64 x109003_15, .int .u8 x109004_15] 32 (0, 0)) (by (with_reducible repeat (first | refine blk_drewN ?_ _ | refine blk_drew ?_ | refine blk_alloc ?_ _)); exact BK108.out) hb); have n3_ := Aside0.mk (below_step (by repeat (first | (with_reducible first | exact HB.out | apply below_alloc | apply pw_below_drewN | apply below_drew1 | refine below_set ?_ GE104.out | refine below_set ?_ GE106.out | refine below_set ?_ GE108.out) | exact HB.out)) hb); clear BK104; clear BK106; clear BK108; clear HB; have BK104 := n0_; have BK106 := n1_; have BK108 := n2_; have HB := n3_; clear n0_ n1_ n2_ n3_; (try clear hb); (try clear hb2); (try clear hk); (try clear hi)))
                                            go_meet
                                            case rel => exact ⟨_, (t111), (by first | rfl | (simp; done) | (simp [*]; done)), H', ⟨by have := HK1.out; have := HJ9.out; have := HJ15.out; have := HJ59.out; have := HJ72.out; first | omega | exact Nat.le_refl _⟩, ⟨by (with_reducible repeat (first | refine blk_drewN ?_ _ | refine blk_drew ?_ | refine blk_alloc ?_ _)); exact BK104.out⟩, ⟨by (with_reducible repeat (first | refine blk_drewN ?_ _ | refine blk_drew ?_ | refine blk_alloc ?_ _)); exact BK106.out⟩, ⟨by (with_reducible repeat (first | refine blk_drewN ?_ _ | refine blk_drew ?_ | refine blk_alloc ?_ _)); exact BK108.out⟩, ⟨by repeat (first | (with_reducible first | exact HB.out | apply below_alloc | apply pw_below_drewN | apply below_drew1 | refine below_set ?_ GE104.out | refine below_set ?_ GE106.out | refine below_set ?_ GE108.out) | exact HB.out)⟩⟩
                                      · replace c80 := Bool.eq_false_iff.mpr c80
                                        subst c80
                                        have H1 : (vee_Check.j5 kj72 a1 a2 x8_9 x17_1 x13_15 l0_6 (l0_6.length : Int) x17_1 false a0_0 a0_1 a0_2 a0_3 a0_4 a0_5 l0_6 ((rd_T32 l0_6 x17_1).f0) ((rd_T32 l0_6 x17_1).f1) ((rd_T32 l0_6 x17_1).f2) ((rd_T32 l0_6 x17_1).f3) ((rd_T32 l0_6 x17_1).f4) x109000_15 x109001_15 x109002_15 x109003_15 x109004_15) = some (r1, r2) := by rw [if_neg (show ¬ (false = true) by decide)] at H; exact H
                                        clear H
                                        have H := H1
                                        clear H1
                                        have H' := Aside0.mk H
                                        clear H
                                        go_wp2
                                        go_meet
                                        case rel => exact ⟨_, (false), (by first | rfl | (simp; done) | (simp [*]; done)), H', ⟨by have := HK1.out; have := HJ9.out; have := HJ15.out; have := HJ59.out; have := HJ72.out; first | omega | exact Nat.le_refl _⟩, ⟨by (with_reducible repeat (first | refine blk_drewN ?_ _ | refine blk_drew ?_ | refine blk_alloc ?_ _)); exact BK104.out⟩, ⟨by (with_reducible repeat (first | refine blk_drewN ?_ _ | refine blk_drew ?_ | refine blk_alloc ?_ _)); exact BK106.out⟩, ⟨by (with_reducible repeat (first | refine blk_drewN ?_ _ | refine blk_drew ?_ | refine blk_alloc ?_ _)); exact BK108.out⟩, ⟨by repeat (first | (with_reducible first | exact HB.out | apply below_alloc | apply pw_below_drewN | apply below_drew1 | refine below_set ?_ GE104.out | refine below_set ?_ GE106.out | refine below_set ?_ GE108.out) | exact HB.out)⟩⟩
                                    case rest =>
                                      clear HC79
                                      try clear c1
                                      try clear p1
                                      try clear q1
                                      try clear hx1
                                      try clear c2
                                      try clear p2
                                      try clear c3
                                      try clear c4
                                      try clear c5
                                      try clear c6
                                      try clear c6b0
                                      try clear p6
                                      try clear c7
                                      try clear c7b0
                                      try clear c8
                                      try clear c8b0
                                      try clear c9
                                      try clear p10
                                      try clear q10
                                      try clear hx10
                                      try clear c12
                                      try clear c15
                                      try clear c17
                                      try clear c18
                                      try clear c18b0
                                      try clear c20
                                      try clear c20b0
                                      try clear c21
                                      try clear c21b0
                                      try clear c22
                                      try clear c23
                                      try clear c23b0
                                      try clear c25
                                      try clear c26
                                      try clear c27
                                      try clear c29
                                      try clear c34
                                      try clear c35
                                      try clear c37
                                      try clear c40
                                      try clear c41
                                      try clear c43
                                      try clear c45
                                      try clear c46
                                      try clear c48
                                      try clear c50
                                      try clear c50b0
                                      try clear c51
                                      try clear c52
                                      try clear c54
                                      try clear c54b0
                                      try clear c55
                                      try clear c56
                                      try clear c58
                                      try clear c61
                                      try clear c62
                                      try clear c64
                                      try clear p64
                                      try clear c66
                                      try clear c66b0
                                      try clear c67
                                      try clear c68
                                      try clear c70
                                      try clear c72
                                      try clear c74
                                      try clear c75
                                      try clear c76
                                      try clear c78
                                      try clear c80
                                      try clear c82
                                      try clear c82b0
                                      try clear c83
                                      try clear c84
                                      try clear c87
                                      try clear c87b0
                                      try clear c88
                                      try clear c89
                                      try clear c92
                                      try clear c93
                                      try clear hcz13_0
                                      try clear hcz13_1
                                      try clear hcz13_2
                                      try clear hcz13_3
                                      try clear hcz13_4
                                      try clear hcz28_0
                                      try clear hcz28_1
                                      try clear hcz28_2
                                      try clear hcz28_3
                                      try clear hcz28_4
                                      try clear hcz28_5
                                      try clear hcz28_6
                                      try clear hcz30_0
                                      try clear hcz30_1
                                      try clear hcz30_2
                                      try clear hcz30_3
                                      try clear hcz30_4
                                      try clear hcz32_0
                                      try clear hcz32_1
                                      try clear hcz32_2
                                      try clear hcz32_3
                                      try clear hcz32_4
                                      try clear hcz33_0
                                      try clear hcz33_1
                                      try clear hcz33_2
                                      try clear hcz33_3
                                      try clear hcz33_4
                                      try clear hcz36_0
                                      try clear hcz36_1
                                      try clear hcz36_2
                                      try clear hcz36_3
                                      try clear hcz36_4
                                      try clear hcz36_5
                                      try clear hcz36_6
                                      try clear hcz38_0
                                      try clear hcz38_1
                                      try clear hcz38_2
                                      try clear hcz38_3
                                      try clear hcz38_4
                                      try clear hcz42_0
                                      try clear hcz42_1
                                      try clear hcz42_2
                                      try clear hcz42_3
                                      try clear hcz42_4
                                      try clear hcz42_5
                                      try clear hcz42_6
                                      try clear hcz44_0
                                      try clear hcz44_1
                                      try clear hcz44_2
                                      try clear hcz44_3
                                      try clear hcz44_4
                                      try clear hcz47_0
                                      try clear hcz47_1
                                      try clear hcz47_2
                                      try clear hcz47_3
                                      try clear hcz47_4
                                      try clear hcz47_5
                                      try clear hcz47_6
                                      try clear hcz49_0
                                      try clear hcz49_1
                                      try clear hcz49_2
                                      try clear hcz49_3
                                      try clear hcz49_4
                                      try clear hcz53_0
                                      try clear hcz53_1
                                      try clear hcz53_2
                                      try clear hcz53_3
                                      try clear hcz53_4
                                      try clear hcz57_0
                                      try clear hcz57_1
                                      try clear hcz57_2
                                      try clear hcz57_3
                                      try clear hcz57_4
                                      try clear hcz59_0
                                      try clear hcz59_1
                                      try clear hcz59_2
                                      try clear hcz59_3
                                      try clear hcz59_4
                                      try clear hcz59_5
                                      try clear hcz59_6
                                      try clear hcz5_0
                                      try clear hcz5_1
                                      try clear hcz5_2
                                      try clear hcz5_3
                                      try clear hcz5_4
                                      try clear hcz5_5
                                      try clear hcz5_6
                                      try clear hcz63_0
                                      try clear hcz63_1
                                      try clear hcz63_2
                                      try clear hcz63_3
                                      try clear hcz63_4
                                      try clear hcz65_0
                                      try clear hcz65_1
                                      try clear hcz65_2
                                      try clear hcz65_3
                                      try clear hcz65_4
                                      try clear hcz65_5
                                      try clear hcz65_6
                                      try clear hcz69_0
                                      try clear hcz69_1
                                      try clear hcz69_2
                                      try clear hcz69_3
                                      try clear hcz69_4
                                      try clear hcz71_0
                                      try clear hcz71_1
                                      try clear hcz71_2
                                      try clear hcz71_3
                                      try clear hcz71_4
                                      try clear hcz77_0
                                      try clear hcz77_1
                                      try clear hcz77_2
                                      try clear hcz77_3
                                      try clear hcz77_4
                                      try clear hcz85_0
                                      try clear hcz85_1
                                      try clear hcz85_2
                                      try clear hcz85_3
                                      try clear hcz85_4
                                      try clear hcz90_0
                                      try clear hcz90_1
                                      try clear hcz90_2
                                      try clear hcz90_3
                                      try clear hcz90_4
                                      try clear hcz94_0
                                      try clear hcz94_1
                                      try clear hcz94_2
                                      try clear hcz94_3
                                      try clear hcz94_4
                                      try clear hfz13_0
                                      try clear hfz13_1
                                      try clear hfz13_2
                                      try clear hfz13_3
                                      try clear hfz13_4
                                      try clear hfz28_0
                                      try clear hfz28_1
                                      try clear hfz28_2
                                      try clear hfz28_3
                                      try clear hfz28_4
                                      try clear hfz28_5
                                      try clear hfz28_6
                                      try clear hfz30_0
                                      try clear hfz30_1
                                      try clear hfz30_2
                                      try clear hfz30_3
                                      try clear hfz30_4
                                      try clear hfz32_0
                                      try clear hfz32_1
                                      try clear hfz32_2
                                      try clear hfz32_3
                                      try clear hfz32_4
                                      try clear hfz33_0
                                      try clear hfz33_1
                                      try clear hfz33_2
                                      try clear hfz33_3
                                      try clear hfz33_4
                                      try clear hfz36_0
                                      try clear hfz36_1
                                      try clear hfz36_2
                                      try clear hfz36_3
                                      try clear hfz36_4
                                      try clear hfz36_5
                                      try clear hfz36_6
                                      try clear hfz38_0
                                      try clear hfz38_1
                                      try clear hfz38_2
                                      try clear hfz38_3
                                      try clear hfz38_4
                                      try clear hfz42_0
                                      try clear hfz42_1
                                      try clear hfz42_2
                                      try clear hfz42_3
                                      try clear hfz42_4
                                      try clear hfz42_5
                                      try clear hfz42_6
                                      try clear hfz44_0
                                      try clear hfz44_1
                                      try clear hfz44_2
                                      try clear hfz44_3
                                      try clear hfz44_4
                                      try clear hfz47_0
                                      try clear hfz47_1
                                      try clear hfz47_2
                                      try clear hfz47_3
                                      try clear hfz47_4
                                      try clear hfz47_5
                                      try clear hfz47_6
                                      try clear hfz49_0
                                      try clear hfz49_1
                                      try clear hfz49_2
                                      try clear hfz49_3
                                      try clear hfz49_4
                                      try clear hfz53_0
                                      try clear hfz53_1
                                      try clear hfz53_2
                                      try clear hfz53_3
                                      try clear hfz53_4
                                      try clear hfz57_0
                                      try clear hfz57_1
                                      try clear hfz57_2
                                      try clear hfz57_3
                                      try clear hfz57_4
                                      try clear hfz59_0
                                      try clear hfz59_1
                                      try clear hfz59_2
                                      try clear hfz59_3
                                      try clear hfz59_4
                                      try clear hfz59_5
                                      try clear hfz59_6
                                      try clear hfz5_0
                                      try clear hfz5_1
                                      try clear hfz5_2
                                      try clear hfz5_3
                                      try clear hfz5_4
                                      try clear hfz5_5
                                      try clear hfz5_6
                                      try clear hfz63_0
                                      try clear hfz63_1
                                      try clear hfz63_2
                                      try clear hfz63_3
                                      try clear hfz63_4
                                      try clear hfz65_0
                                      try clear hfz65_1
                                      try clear hfz65_2
                                      try clear hfz65_3
                                      try clear hfz65_4
                                      try clear hfz65_5
                                      try clear hfz65_6
                                      try clear hfz69_0
                                      try clear hfz69_1
                                      try clear hfz69_2
                                      try clear hfz69_3
                                      try clear hfz69_4
                                      try clear hfz71_0
                                      try clear hfz71_1
                                      try clear hfz71_2
                                      try clear hfz71_3
                                      try clear hfz71_4
                                      try clear hfz77_0
                                      try clear hfz77_1
                                      try clear hfz77_2
                                      try clear hfz77_3
                                      try clear hfz77_4
                                      try clear hfz85_0
                                      try clear hfz85_1
                                      try clear hfz85_2
                                      try clear hfz85_3
                                      try clear hfz85_4
                                      try clear hfz90_0
                                      try clear hfz90_1
                                      try clear hfz90_2
                                      try clear hfz90_3
                                      try clear hfz90_4
                                      try clear hfz94_0
                                      try clear hfz94_1
                                      try clear hfz94_2
                                      try clear hfz94_3
                                      try clear hfz94_4
                                      try clear hx105_0
                                      try clear hx105_1
                                      try clear hx105_2
                                      try clear hx105_3
                                      try clear hx105_4
                                      try clear hx109_0
                                      try clear hx109_1
                                      try clear hx109_2
                                      try clear hx109_3
                                      try clear hx109_4
                                      try clear p1
                                      try clear p10
                                      try clear p105
                                      try clear p109
                                      try clear p2
                                      try clear p6
                                      try clear p64
                                      try clear q1
                                      try clear q10
                                      try clear q105
                                      try clear q109
                                      obtain ⟨kq, x53_78, rfl, HA, HJ78, BK104, BK106, BK108, HB⟩ := hcut
                                      cases kq with
                                      | zero => exact absurd HA.out (by simp [vee_Check.j5])
                                      | succ kj78 =>
                                        have H := HA.out
                                        clear HA
                                        simp only [vee_Check.j5] at H
                                        by_cases c96 : x53_78 = true
                                        · subst c96
                                          have H1 : (some (x17_1, 3)) = some (r1, r2) := by rw [if_pos rfl] at H; exact H
                                          clear H
                                          have H := H1
                                          clear H1
                                          simp only [Option.some.injEq, Prod.mk.injEq] at H
                                          obtain ⟨rfl, rfl⟩ := H
                                          go_wp2
                                          go_ret2
                                          exact ⟨by first | rfl | (simp [errW_none, errW_some] <;> rfl) | (simp [*, errW_none, errW_some] <;> rfl), by repeat (first | (with_reducible first | exact HB.out | apply below_alloc | apply pw_below_drewN | apply below_drew1 | refine below_set ?_ GE104.out | refine below_set ?_ GE106.out | refine below_set ?_ GE108.out) | exact HB.out)⟩
                                        · replace c96 := Bool.eq_false_iff.mpr c96
                                          subst c96
                                          have H1 : (if x13_15 = true then ((vee_apart.f ((rd_T32 l0_6 x17_1).f1) x109001_15 a2).bind fun t112 => (if t112 = true then (some (x17_1, 3)) else ((vee_apart.f ((rd_T32 l0_6 x17_1).f2) x109002_15 a2).bind fun t113 => (if t113 = true then (some (x17_1, 3)) else (vee_Check.l0 kj78 a1 a2 x8_9 l0_6 (l0_6.length : Int) (wrap64 (x17_1 + 1)) a0_0 a0_1 a0_2 a0_3 a0_4 a0_5 l0_6))))) else (vee_Check.l0 kj78 a1 a2 x8_9 l0_6 (l0_6.length : Int) (wrap64 (x17_1 + 1)) a0_0 a0_1 a0_2 a0_3 a0_4 a0_5 l0_6)) = some (r1, r2) := by rw [if_neg (show ¬ (false = true) by decide)] at H; exact H
                                          clear H
                                          have H := H1
                                          clear H1
                                          by_cases c97 : x13_15 = true
                                          · subst c97
                                            have H1 : ((vee_apart.f ((rd_T32 l0_6 x17_1).f1) x109001_15 a2).bind fun t112 => (if t112 = true then (some (x17_1, 3)) else ((vee_apart.f ((rd_T32 l0_6 x17_1).f2) x109002_15 a2).bind fun t113 => (if t113 = true then (some (x17_1, 3)) else (vee_Check.l0 kj78 a1 a2 x8_9 l0_6 (l0_6.length : Int) (wrap64 (x17_1 + 1)) a0_0 a0_1 a0_2 a0_3 a0_4 a0_5 l0_6))))) = some (r1, r2) := by rw [if_pos rfl] at H; exact H
                                            clear H
                                            have H := H1
                                            clear H1
                                            replace H := Option.bind_eq_some_iff.mp H
                                            obtain ⟨t112, A980, H⟩ := H
                                            replace H : (if t112 = true then (some (x17_1, 3)) else ((vee_apart.f ((rd_T32 l0_6 x17_1).f2) x109002_15 a2).bind fun t113 => (if t113 = true then (some (x17_1, 3)) else (vee_Check.l0 kj78 a1 a2 x8_9 l0_6 (l0_6.length : Int) (wrap64 (x17_1 + 1)) a0_0 a0_1 a0_2 a0_3 a0_4 a0_5 l0_6)))) = some (r1, r2) := H
                                            have A98 := Aside0.mk A980
                                            clear A980
                                            by_cases c99 : t112 = true
                                            · subst c99
                                              have H1 : (some (x17_1, 3)) = some (r1, r2) := by rw [if_pos rfl] at H; exact H
                                              clear H
                                              have H := H1
                                              clear H1
                                              simp only [Option.some.injEq, Prod.mk.injEq] at H
                                              obtain ⟨rfl, rfl⟩ := H
                                              have hnb100 := NB106_104.out
                                              have hnc100 := NB104_106.out
                                              have hnb101 := NB106_108.out
                                              have hnc101 := NB108_106.out
                                              have hcz102_0 : wc.cell? ⟨gb106, 0, none⟩ = some (.int .i64 ((rd_T32 l0_6 x17_1).f0)) := (blk_cell BK106.out 0).trans rfl
                                              have hcz102_1 : wc.cell? ⟨gb106, 1, none⟩ = some (.int .i64 ((rd_T32 l0_6 x17_1).f1)) := (blk_cell BK106.out 1).trans rfl
                                              have hcz102_2 : wc.cell? ⟨gb106, 2, none⟩ = some (.int .i64 ((rd_T32 l0_6 x17_1).f2)) := (blk_cell BK106.out 2).trans rfl
                                              have hcz102_3 : wc.cell? ⟨gb106, 3, none⟩ = some (.int .i64 ((rd_T32 l0_6 x17_1).f3)) := (blk_cell BK106.out 3).trans rfl
                                              have hcz102_4 : wc.cell? ⟨gb106, 4, none⟩ = some (.int .u8 ((rd_T32 l0_6 x17_1).f4)) := (blk_cell BK106.out 4).trans rfl
                                              have hfz102_0 := blk_frozen BK106.out 0
                                              have hfz102_1 := blk_frozen BK106.out 1
                                              have hfz102_2 := blk_frozen BK106.out 2
                                              have hfz102_3 := blk_frozen BK106.out 3
                                              have hfz102_4 := blk_frozen BK106.out 4
                                              have hnb103 := NB108_104.out
                                              have hnc103 := NB104_108.out
                                              have hcz104_0 : wc.cell? ⟨gb108, 0, none⟩ = some (.int .i64 x109000_15) := (blk_cell BK108.out 0).trans rfl
                                              have hcz104_1 : wc.cell? ⟨gb108, 1, none⟩ = some (.int .i64 x109001_15) := (blk_cell BK108.out 1).trans rfl
                                              have hcz104_2 : wc.cell? ⟨gb108, 2, none⟩ = some (.int .i64 x109002_15) := (blk_cell BK108.out 2).trans rfl
                                              have hcz104_3 : wc.cell? ⟨gb108, 3, none⟩ = some (.int .i64 x109003_15) := (blk_cell BK108.out 3).trans rfl
                                              have hcz104_4 : wc.cell? ⟨gb108, 4, none⟩ = some (.int .u8 x109004_15) := (blk_cell BK108.out 4).trans rfl
                                              have hfz104_0 := blk_frozen BK108.out 0
                                              have hfz104_1 := blk_frozen BK108.out 1
                                              have hfz104_2 := blk_frozen BK108.out 2
                                              have hfz104_3 := blk_frozen BK108.out 3
                                              have hfz104_4 := blk_frozen BK108.out 4
                                              go_wp2_with (first | (go_at_call 28; (with_reducible refine (vee_apart.calls ((rd_T32 l0_6 x17_1).f1) x109001_15 a2 true _ A98.out).mono ?_); rintro e w105 ⟨rfl, hb⟩; have n0_ := Aside0.mk (blk_below (g := gb104) (o := .cells #[.string a0_0, .int .i64 a0_1, .int .i64 a0_2, .int .i64 a0_3, .int .i64 a0_4, .int .i64 a0_5, .slice (some ad105) l0_6.length c0_6] 24 (0, 0)) (by (with_reducible repeat (first | refine blk_drewN ?_ _ | refine blk_drew ?_ | refine blk_alloc ?_ _)); exact BK104.out) hb); have n1_ := Aside0.mk (blk_below (g := gb106) (o := .cells #[.int .i64 ((rd_T32 l0_6 x17_1).f0), .int .i64 ((rd_T32 l0_6 x17_1).f1), .int .i64 ((rd_T32 l0_6 x17_1).f2), .int .i64 ((rd_T32 l0_6 x17_1).f3), .int .u8 ((rd_T32 l0_6 x17_1).f4)] 32 (0, 0)) (by (with_reducible repeat (first | refine blk_drewN ?_ _ | refine blk_drew ?_ | refine blk_alloc ?_ _)); exact BK106.out) hb); have n2_ := Aside0.mk (blk_below (g := gb108) (o := .cells #[.int .i64 x109000_15, .int .i64 x109001_15, .int .i64 x109002_15, .int .i64 x109003_15, .int .u8 x109004_15] 32 (0, 0)) (by (with_reducible repeat (first | refine blk_drewN ?_ _ | refine blk_drew ?_ | refine blk_alloc ?_ _)); exact BK108.out) hb); have n3_ := Aside0.mk (below_step (by repeat (first | (with_reducible first | exact HB.out | apply below_alloc | apply pw_below_drewN | apply below_drew1 | refine below_set ?_ GE104.out | refine below_set ?_ GE106.out | refine below_set ?_ GE108.out) | exact HB.out)) hb); clear BK104; clear BK106; clear BK108; clear HB; have BK104 := n0_; have BK106 := n1_; have BK108 := n2_; have HB := n3_; clear n0_ n1_ n2_ n3_; (try clear hb); (try clear hb2); (try clear hk); (try clear hi)))
                                              go_ret2
                                              exact ⟨by first | rfl | (simp [errW_none, errW_some] <;> rfl) | (simp [*, errW_none, errW_some] <;> rfl), by repeat (first | (with_reducible first | exact HB.out | apply below_alloc | apply pw_below_drewN | apply below_drew1 | refine below_set ?_ GE104.out | refine below_set ?_ GE106.out | refine below_set ?_ GE108.out) | exact HB.out)⟩
                                            · replace c99 := Bool.eq_false_iff.mpr c99
                                              subst c99
                                              have H1 : ((vee_apart.f ((rd_T32 l0_6 x17_1).f2) x109002_15 a2).bind fun t113 => (if t113 = true then (some (x17_1, 3)) else (vee_Check.l0 kj78 a1 a2 x8_9 l0_6 (l0_6.length : Int) (wrap64 (x17_1 + 1)) a0_0 a0_1 a0_2 a0_3 a0_4 a0_5 l0_6))) = some (r1, r2) := by rw [if_neg (show ¬ (false = true) by decide)] at H; exact H
                                              clear H
                                              have H := H1
                                              clear H1
                                              replace H := Option.bind_eq_some_iff.mp H
                                              obtain ⟨t113, A1060, H⟩ := H
                                              replace H : (if t113 = true then (some (x17_1, 3)) else (vee_Check.l0 kj78 a1 a2 x8_9 l0_6 (l0_6.length : Int) (wrap64 (x17_1 + 1)) a0_0 a0_1 a0_2 a0_3 a0_4 a0_5 l0_6)) = some (r1, r2) := H
                                              have A106 := Aside0.mk A1060
                                              clear A1060
                                              by_cases c107 : t113 = true
                                              · subst c107
                                                have H1 : (some (x17_1, 3)) = some (r1, r2) := by rw [if_pos rfl] at H; exact H
                                                clear H
                                                have H := H1
                                                clear H1
                                                simp only [Option.some.injEq, Prod.mk.injEq] at H
                                                obtain ⟨rfl, rfl⟩ := H
                                                have hnb108 := NB106_104.out
                                                have hnc108 := NB104_106.out
                                                have hnb109 := NB106_108.out
                                                have hnc109 := NB108_106.out
                                                have hcz110_0 : wc.cell? ⟨gb106, 0, none⟩ = some (.int .i64 ((rd_T32 l0_6 x17_1).f0)) := (blk_cell BK106.out 0).trans rfl
                                                have hcz110_1 : wc.cell? ⟨gb106, 1, none⟩ = some (.int .i64 ((rd_T32 l0_6 x17_1).f1)) := (blk_cell BK106.out 1).trans rfl
                                                have hcz110_2 : wc.cell? ⟨gb106, 2, none⟩ = some (.int .i64 ((rd_T32 l0_6 x17_1).f2)) := (blk_cell BK106.out 2).trans rfl
                                                have hcz110_3 : wc.cell? ⟨gb106, 3, none⟩ = some (.int .i64 ((rd_T32 l0_6 x17_1).f3)) := (blk_cell BK106.out 3).trans rfl
                                                have hcz110_4 : wc.cell? ⟨gb106, 4, none⟩ = some (.int .u8 ((rd_T32 l0_6 x17_1).f4)) := (blk_cell BK106.out 4).trans rfl
                                                have hfz110_0 := blk_frozen BK106.out 0
                                                have hfz110_1 := blk_frozen BK106.out 1
                                                have hfz110_2 := blk_frozen BK106.out 2
                                                have hfz110_3 := blk_frozen BK106.out 3
                                                have hfz110_4 := blk_frozen BK106.out 4
                                                have hnb111 := NB108_104.out
                                                have hnc111 := NB104_108.out
                                                have hcz112_0 : wc.cell? ⟨gb108, 0, none⟩ = some (.int .i64 x109000_15) := (blk_cell BK108.out 0).trans rfl
                                                have hcz112_1 : wc.cell? ⟨gb108, 1, none⟩ = some (.int .i64 x109001_15) := (blk_cell BK108.out 1).trans rfl
                                                have hcz112_2 : wc.cell? ⟨gb108, 2, none⟩ = some (.int .i64 x109002_15) := (blk_cell BK108.out 2).trans rfl
                                                have hcz112_3 : wc.cell? ⟨gb108, 3, none⟩ = some (.int .i64 x109003_15) := (blk_cell BK108.out 3).trans rfl
                                                have hcz112_4 : wc.cell? ⟨gb108, 4, none⟩ = some (.int .u8 x109004_15) := (blk_cell BK108.out 4).trans rfl
                                                have hfz112_0 := blk_frozen BK108.out 0
                                                have hfz112_1 := blk_frozen BK108.out 1
                                                have hfz112_2 := blk_frozen BK108.out 2
                                                have hfz112_3 := blk_frozen BK108.out 3
                                                have hfz112_4 := blk_frozen BK108.out 4
                                                go_wp2_with (first | (go_at_call 28; (with_reducible refine (vee_apart.calls ((rd_T32 l0_6 x17_1).f1) x109001_15 a2 false _ A98.out).mono ?_); rintro e w113 ⟨rfl, hb⟩; have n0_ := Aside0.mk (blk_below (g := gb104) (o := .cells #[.string a0_0, .int .i64 a0_1, .int .i64 a0_2, .int .i64 a0_3, .int .i64 a0_4, .int .i64 a0_5, .slice (some ad105) l0_6.length c0_6] 24 (0, 0)) (by (with_reducible repeat (first | refine blk_drewN ?_ _ | refine blk_drew ?_ | refine blk_alloc ?_ _)); exact BK104.out) hb); have n1_ := Aside0.mk (blk_below (g := gb106) (o := .cells #[.int .i64 ((rd_T32 l0_6 x17_1).f0), .int .i64 ((rd_T32 l0_6 x17_1).f1), .int .i64 ((rd_T32 l0_6 x17_1).f2), .int .i64 ((rd_T32 l0_6 x17_1).f3), .int .u8 ((rd_T32 l0_6 x17_1).f4)] 32 (0, 0)) (by (with_reducible repeat (first | refine blk_drewN ?_ _ | refine blk_drew ?_ | refine blk_alloc ?_ _)); exact BK106.out) hb); have n2_ := Aside0.mk (blk_below (g := gb108) (o := .cells #[.int .i64 x109000_15, .int .i64 x109001_15, .int .i64 x109002_15, .int .i64 x109003_15, .int .u8 x109004_15] 32 (0, 0)) (by (with_reducible repeat (first | refine blk_drewN ?_ _ | refine blk_drew ?_ | refine blk_alloc ?_ _)); exact BK108.out) hb); have n3_ := Aside0.mk (below_step (by repeat (first | (with_reducible first | exact HB.out | apply below_alloc | apply pw_below_drewN | apply below_drew1 | refine below_set ?_ GE104.out | refine below_set ?_ GE106.out | refine below_set ?_ GE108.out) | exact HB.out)) hb); clear BK104; clear BK106; clear BK108; clear HB; have BK104 := n0_; have BK106 := n1_; have BK108 := n2_; have HB := n3_; clear n0_ n1_ n2_ n3_; (try clear hb); (try clear hb2); (try clear hk); (try clear hi); have hcz114_0 : w113.cell? ⟨gb106, 0, none⟩ = some (.int .i64 ((rd_T32 l0_6 x17_1).f0)) := (blk_cell BK106.out 0).trans rfl; have hcz114_1 : w113.cell? ⟨gb106, 1, none⟩ = some (.int .i64 ((rd_T32 l0_6 x17_1).f1)) := (blk_cell BK106.out 1).trans rfl; have hcz114_2 : w113.cell? ⟨gb106, 2, none⟩ = some (.int .i64 ((rd_T32 l0_6 x17_1).f2)) := (blk_cell BK106.out 2).trans rfl; have hcz114_3 : w113.cell? ⟨gb106, 3, none⟩ = some (.int .i64 ((rd_T32 l0_6 x17_1).f3)) := (blk_cell BK106.out 3).trans rfl; have hcz114_4 : w113.cell? ⟨gb106, 4, none⟩ = some (.int .u8 ((rd_T32 l0_6 x17_1).f4)) := (blk_cell BK106.out 4).trans rfl; have hfz114_0 := blk_frozen BK106.out 0; have hfz114_1 := blk_frozen BK106.out 1; have hfz114_2 := blk_frozen BK106.out 2; have hfz114_3 := blk_frozen BK106.out 3; have hfz114_4 := blk_frozen BK106.out 4; have hcz115_0 : w113.cell? ⟨gb108, 0, none⟩ = some (.int .i64 x109000_15) := (blk_cell BK108.out 0).trans rfl; have hcz115_1 : w113.cell? ⟨gb108, 1, none⟩ = some (.int .i64 x109001_15) := (blk_cell BK108.out 1).trans rfl; have hcz115_2 : w113.cell? ⟨gb108, 2, none⟩ = some (.int .i64 x109002_15) := (blk_cell BK108.out 2).trans rfl; have hcz115_3 : w113.cell? ⟨gb108, 3, none⟩ = some (.int .i64 x109003_15) := (blk_cell BK108.out 3).trans rfl; have hcz115_4 : w113.cell? ⟨gb108, 4, none⟩ = some (.int .u8 x109004_15) := (blk_cell BK108.out 4).trans rfl; have hfz115_0 := blk_frozen BK108.out 0; have hfz115_1 := blk_frozen BK108.out 1; have hfz115_2 := blk_frozen BK108.out 2; have hfz115_3 := blk_frozen BK108.out 3; have hfz115_4 := blk_frozen BK108.out 4) | (go_at_call 28; (with_reducible refine (vee_apart.calls ((rd_T32 l0_6 x17_1).f2) x109002_15 a2 true _ A106.out).mono ?_); rintro e w116 ⟨rfl, hb⟩; have n0_ := Aside0.mk (blk_below (g := gb104) (o := .cells #[.string a0_0, .int .i64 a0_1, .int .i64 a0_2, .int .i64 a0_3, .int .i64 a0_4, .int .i64 a0_5, .slice (some ad105) l0_6.length c0_6] 24 (0, 0)) (by (with_reducible repeat (first | refine blk_drewN ?_ _ | refine blk_drew ?_ | refine blk_alloc ?_ _)); exact BK104.out) hb); have n1_ := Aside0.mk (blk_below (g := gb106) (o := .cells #[.int .i64 ((rd_T32 l0_6 x17_1).f0), .int .i64 ((rd_T32 l0_6 x17_1).f1), .int .i64 ((rd_T32 l0_6 x17_1).f2), .int .i64 ((rd_T32 l0_6 x17_1).f3), .int .u8 ((rd_T32 l0_6 x17_1).f4)] 32 (0, 0)) (by (with_reducible repeat (first | refine blk_drewN ?_ _ | refine blk_drew ?_ | refine blk_alloc ?_ _)); exact BK106.out) hb); have n2_ := Aside0.mk (blk_below (g := gb108) (o := .cells #[.int .i64 x109000_15, .int .i64 x109001_15, .int .i64 x109002_15, .int .i64 x109003_15, .int .u8 x109004_15] 32 (0, 0)) (by (with_reducible repeat (first | refine blk_drewN ?_ _ | refine blk_drew ?_ | refine blk_alloc ?_ _)); exact BK108.out) hb); have n3_ := Aside0.mk (below_step (by repeat (first | (with_reducible first | exact HB.out | apply below_alloc | apply pw_below_drewN | apply below_drew1 | refine below_set ?_ GE104.out | refine below_set ?_ GE106.out | refine below_set ?_ GE108.out) | exact HB.out)) hb); clear BK104; clear BK106; clear BK108; clear HB; have BK104 := n0_; have BK106 := n1_; have BK108 := n2_; have HB := n3_; clear n0_ n1_ n2_ n3_; (try clear hb); (try clear hb2); (try clear hk); (try clear hi)))
                                                go_ret2
                                                exact ⟨by first | rfl | (simp [errW_none, errW_some] <;> rfl) | (simp [*, errW_none, errW_some] <;> rfl), by repeat (first | (with_reducible first | exact HB.out | apply below_alloc | apply pw_below_drewN | apply below_drew1 | refine below_set ?_ GE104.out | refine below_set ?_ GE106.out | refine below_set ?_ GE108.out) | exact HB.out)⟩
                                              · replace c107 := Bool.eq_false_iff.mpr c107
                                                subst c107
                                                have H1 : (vee_Check.l0 kj78 a1 a2 x8_9 l0_6 (l0_6.length : Int) (wrap64 (x17_1 + 1)) a0_0 a0_1 a0_2 a0_3 a0_4 a0_5 l0_6) = some (r1, r2) := by rw [if_neg (show ¬ (false = true) by decide)] at H; exact H
                                                clear H
                                                have H := H1
                                                clear H1
                                                have H' := Aside0.mk H
                                                clear H
                                                have hnb117 := NB106_104.out
                                                have hnc117 := NB104_106.out
                                                have hnb118 := NB106_108.out
                                                have hnc118 := NB108_106.out
                                                have hcz119_0 : wc.cell? ⟨gb106, 0, none⟩ = some (.int .i64 ((rd_T32 l0_6 x17_1).f0)) := (blk_cell BK106.out 0).trans rfl
                                                have hcz119_1 : wc.cell? ⟨gb106, 1, none⟩ = some (.int .i64 ((rd_T32 l0_6 x17_1).f1)) := (blk_cell BK106.out 1).trans rfl
                                                have hcz119_2 : wc.cell? ⟨gb106, 2, none⟩ = some (.int .i64 ((rd_T32 l0_6 x17_1).f2)) := (blk_cell BK106.out 2).trans rfl
                                                have hcz119_3 : wc.cell? ⟨gb106, 3, none⟩ = some (.int .i64 ((rd_T32 l0_6 x17_1).f3)) := (blk_cell BK106.out 3).trans rfl
                                                have hcz119_4 : wc.cell? ⟨gb106, 4, none⟩ = some (.int .u8 ((rd_T32 l0_6 x17_1).f4)) := (blk_cell BK106.out 4).trans rfl
                                                have hfz119_0 := blk_frozen BK106.out 0
                                                have hfz119_1 := blk_frozen BK106.out 1
                                                have hfz119_2 := blk_frozen BK106.out 2
                                                have hfz119_3 := blk_frozen BK106.out 3
                                                have hfz119_4 := blk_frozen BK106.out 4
                                                have hnb120 := NB108_104.out
                                                have hnc120 := NB104_108.out
                                                have hcz121_0 : wc.cell? ⟨gb108, 0, none⟩ = some (.int .i64 x109000_15) := (blk_cell BK108.out 0).trans rfl
                                                have hcz121_1 : wc.cell? ⟨gb108, 1, none⟩ = some (.int .i64 x109001_15) := (blk_cell BK108.out 1).trans rfl
                                                have hcz121_2 : wc.cell? ⟨gb108, 2, none⟩ = some (.int .i64 x109002_15) := (blk_cell BK108.out 2).trans rfl
                                                have hcz121_3 : wc.cell? ⟨gb108, 3, none⟩ = some (.int .i64 x109003_15) := (blk_cell BK108.out 3).trans rfl
                                                have hcz121_4 : wc.cell? ⟨gb108, 4, none⟩ = some (.int .u8 x109004_15) := (blk_cell BK108.out 4).trans rfl
                                                have hfz121_0 := blk_frozen BK108.out 0
                                                have hfz121_1 := blk_frozen BK108.out 1
                                                have hfz121_2 := blk_frozen BK108.out 2
                                                have hfz121_3 := blk_frozen BK108.out 3
                                                have hfz121_4 := blk_frozen BK108.out 4
                                                go_wp2_with (first | (go_at_call 28; (with_reducible refine (vee_apart.calls ((rd_T32 l0_6 x17_1).f1) x109001_15 a2 false _ A98.out).mono ?_); rintro e w122 ⟨rfl, hb⟩; have n0_ := Aside0.mk (blk_below (g := gb104) (o := .cells #[.string a0_0, .int .i64 a0_1, .int .i64 a0_2, .int .i64 a0_3, .int .i64 a0_4, .int .i64 a0_5, .slice (some ad105) l0_6.length c0_6] 24 (0, 0)) (by (with_reducible repeat (first | refine blk_drewN ?_ _ | refine blk_drew ?_ | refine blk_alloc ?_ _)); exact BK104.out) hb); have n1_ := Aside0.mk (blk_below (g := gb106) (o := .cells #[.int .i64 ((rd_T32 l0_6 x17_1).f0), .int .i64 ((rd_T32 l0_6 x17_1).f1), .int .i64 ((rd_T32 l0_6 x17_1).f2), .int .i64 ((rd_T32 l0_6 x17_1).f3), .int .u8 ((rd_T32 l0_6 x17_1).f4)] 32 (0, 0)) (by (with_reducible repeat (first | refine blk_drewN ?_ _ | refine blk_drew ?_ | refine blk_alloc ?_ _)); exact BK106.out) hb); have n2_ := Aside0.mk (blk_below (g := gb108) (o := .cells #[.int .i64 x109000_15, .int .i64 x109001_15, .int .i64 x109002_15, .int .i64 x109003_15, .int .u8 x109004_15] 32 (0, 0)) (by (with_reducible repeat (first | refine blk_drewN ?_ _ | refine blk_drew ?_ | refine blk_alloc ?_ _)); exact BK108.out) hb); have n3_ := Aside0.mk (below_step (by repeat (first | (with_reducible first | exact HB.out | apply below_alloc | apply pw_below_drewN | apply below_drew1 | refine below_set ?_ GE104.out | refine below_set ?_ GE106.out | refine below_set ?_ GE108.out) | exact HB.out)) hb); clear BK104; clear BK106; clear BK108; clear HB; have BK104 := n0_; have BK106 := n1_; have BK108 := n2_; have HB := n3_; clear n0_ n1_ n2_ n3_; (try clear hb); (try clear hb2); (try clear hk); (try clear hi); have hcz123_0 : w122.cell? ⟨gb106, 0, none⟩ = some (.int .i64 ((rd_T32 l0_6 x17_1).f0)) := (blk_cell BK106.out 0).trans rfl; have hcz123_1 : w122.cell? ⟨gb106, 1, none⟩ = some (.int .i64 ((rd_T32 l0_6 x17_1).f1)) := (blk_cell BK106.out 1).trans rfl; have hcz123_2 : w122.cell? ⟨gb106, 2, none⟩ = some (.int .i64 ((rd_T32 l0_6 x17_1).f2)) := (blk_cell BK106.out 2).trans rfl; have hcz123_3 : w122.cell? ⟨gb106, 3, none⟩ = some (.int .i64 ((rd_T32 l0_6 x17_1).f3)) := (blk_cell BK106.out 3).trans rfl; have hcz123_4 : w122.cell? ⟨gb106, 4, none⟩ = some (.int .u8 ((rd_T32 l0_6 x17_1).f4)) := (blk_cell BK106.out 4).trans rfl; have hfz123_0 := blk_frozen BK106.out 0; have hfz123_1 := blk_frozen BK106.out 1; have hfz123_2 := blk_frozen BK106.out 2; have hfz123_3 := blk_frozen BK106.out 3; have hfz123_4 := blk_frozen BK106.out 4; have hcz124_0 : w122.cell? ⟨gb108, 0, none⟩ = some (.int .i64 x109000_15) := (blk_cell BK108.out 0).trans rfl; have hcz124_1 : w122.cell? ⟨gb108, 1, none⟩ = some (.int .i64 x109001_15) := (blk_cell BK108.out 1).trans rfl; have hcz124_2 : w122.cell? ⟨gb108, 2, none⟩ = some (.int .i64 x109002_15) := (blk_cell BK108.out 2).trans rfl; have hcz124_3 : w122.cell? ⟨gb108, 3, none⟩ = some (.int .i64 x109003_15) := (blk_cell BK108.out 3).trans rfl; have hcz124_4 : w122.cell? ⟨gb108, 4, none⟩ = some (.int .u8 x109004_15) := (blk_cell BK108.out 4).trans rfl; have hfz124_0 := blk_frozen BK108.out 0; have hfz124_1 := blk_frozen BK108.out 1; have hfz124_2 := blk_frozen BK108.out 2; have hfz124_3 := blk_frozen BK108.out 3; have hfz124_4 := blk_frozen BK108.out 4) | (go_at_call 28; (with_reducible refine (vee_apart.calls ((rd_T32 l0_6 x17_1).f2) x109002_15 a2 false _ A106.out).mono ?_); rintro e w125 ⟨rfl, hb⟩; have n0_ := Aside0.mk (blk_below (g := gb104) (o := .cells #[.string a0_0, .int .i64 a0_1, .int .i64 a0_2, .int .i64 a0_3, .int .i64 a0_4, .int .i64 a0_5, .slice (some ad105) l0_6.length c0_6] 24 (0, 0)) (by (with_reducible repeat (first | refine blk_drewN ?_ _ | refine blk_drew ?_ | refine blk_alloc ?_ _)); exact BK104.out) hb); have n1_ := Aside0.mk (blk_below (g := gb106) (o := .cells #[.int .i64 ((rd_T32 l0_6 x17_1).f0), .int .i64 ((rd_T32 l0_6 x17_1).f1), .int .i64 ((rd_T32 l0_6 x17_1).f2), .int .i64 ((rd_T32 l0_6 x17_1).f3), .int .u8 ((rd_T32 l0_6 x17_1).f4)] 32 (0, 0)) (by (with_reducible repeat (first | refine blk_drewN ?_ _ | refine blk_drew ?_ | refine blk_alloc ?_ _)); exact BK106.out) hb); have n2_ := Aside0.mk (blk_below (g := gb108) (o := .cells #[.int .i64 x109000_15, .int .i64 x109001_15, .int .i64 x109002_15, .int .i64 x109003_15, .int .u8 x109004_15] 32 (0, 0)) (by (with_reducible repeat (first | refine blk_drewN ?_ _ | refine blk_drew ?_ | refine blk_alloc ?_ _)); exact BK108.out) hb); have n3_ := Aside0.mk (below_step (by repeat (first | (with_reducible first | exact HB.out | apply below_alloc | apply pw_below_drewN | apply below_drew1 | refine below_set ?_ GE104.out | refine below_set ?_ GE106.out | refine below_set ?_ GE108.out) | exact HB.out)) hb); clear BK104; clear BK106; clear BK108; clear HB; have BK104 := n0_; have BK106 := n1_; have BK108 := n2_; have HB := n3_; clear n0_ n1_ n2_ n3_; (try clear hb); (try clear hb2); (try clear hk); (try clear hi)))
                                                go_roundg kj78
                                                case measure => have := HK1.out; have := HJ9.out; have := HJ15.out; have := HJ59.out; have := HJ72.out; have := HJ78.out; omega
                                                case rel => exact ⟨(x8_9), (wrap64 (x17_1 + 1)), (by first | rfl | (simp; done) | (simp [*]; done)), (by first | rfl | (simp; done) | (simp [*]; done)), H', ⟨by have := HK1.out; have := HJ9.out; have := HJ15.out; have := HJ59.out; have := HJ72.out; have := HJ78.out; omega⟩, ⟨by (with_reducible repeat (first | refine blk_drewN ?_ _ | refine blk_drew ?_ | refine blk_alloc ?_ _)); exact BK104.out⟩, ⟨by repeat (first | (with_reducible first | exact HB.out | apply below_alloc | apply pw_below_drewN | apply below_drew1 | refine below_set ?_ GE104.out | refine below_set ?_ GE106.out | refine below_set ?_ GE108.out) | exact HB.out)⟩⟩
                                          · replace c97 := Bool.eq_false_iff.mpr c97
                                            subst c97
                                            have H1 : (vee_Check.l0 kj78 a1 a2 x8_9 l0_6 (l0_6.length : Int) (wrap64 (x17_1 + 1)) a0_0 a0_1 a0_2 a0_3 a0_4 a0_5 l0_6) = some (r1, r2) := by rw [if_neg (show ¬ (false = true) by decide)] at H; exact H
                                            clear H
                                            have H := H1
                                            clear H1
                                            have H' := Aside0.mk H
                                            clear H
                                            go_wp2
                                            go_roundg kj78
                                            case measure => have := HK1.out; have := HJ9.out; have := HJ15.out; have := HJ59.out; have := HJ72.out; have := HJ78.out; omega
                                            case rel => exact ⟨(x8_9), (wrap64 (x17_1 + 1)), (by first | rfl | (simp; done) | (simp [*]; done)), (by first | rfl | (simp; done) | (simp [*]; done)), H', ⟨by have := HK1.out; have := HJ9.out; have := HJ15.out; have := HJ59.out; have := HJ72.out; have := HJ78.out; omega⟩, ⟨by (with_reducible repeat (first | refine blk_drewN ?_ _ | refine blk_drew ?_ | refine blk_alloc ?_ _)); exact BK104.out⟩, ⟨by repeat (first | (with_reducible first | exact HB.out | apply below_alloc | apply pw_below_drewN | apply below_drew1 | refine below_set ?_ GE104.out | refine below_set ?_ GE106.out | refine below_set ?_ GE108.out) | exact HB.out)⟩⟩
          · rw [if_neg c8] at H
            exact absurd H (by simp)
        · rw [if_neg c7] at H
          exact absurd H (by simp)
      · rw [if_neg c6] at H
        have c6b0 : decide (x17_1 < (l0_6.length : Int)) = false := decide_eq_false c6
        clear c6
        by_cases c126 : x8_1 = true
        · subst c126
          have H1 : (some (0, 0)) = some (r1, r2) := by rw [if_pos rfl] at H; exact H
          clear H
          have H := H1
          clear H1
          simp only [Option.some.injEq, Prod.mk.injEq] at H
          obtain ⟨rfl, rfl⟩ := H
          go_wp2
          go_ret2
          exact ⟨by first | rfl | (simp [errW_none, errW_some] <;> rfl) | (simp [*, errW_none, errW_some] <;> rfl), by repeat (first | (with_reducible first | exact HB.out | apply below_alloc | apply pw_below_drewN | apply below_drew1 | refine below_set ?_ GE104.out) | exact HB.out)⟩
        · replace c126 := Bool.eq_false_iff.mpr c126
          subst c126
          have H1 : (some ((l0_6.length : Int), 3)) = some (r1, r2) := by rw [if_neg (show ¬ (false = true) by decide)] at H; exact H
          clear H
          have H := H1
          clear H1
          simp only [Option.some.injEq, Prod.mk.injEq] at H
          obtain ⟨rfl, rfl⟩ := H
          have hcz127_0 : wr.cell? ⟨gb104, 0, none⟩ = some (.string a0_0) := (blk_cell BK104.out 0).trans rfl
          have hcz127_1 : wr.cell? ⟨gb104, 1, none⟩ = some (.int .i64 a0_1) := (blk_cell BK104.out 1).trans rfl
          have hcz127_2 : wr.cell? ⟨gb104, 2, none⟩ = some (.int .i64 a0_2) := (blk_cell BK104.out 2).trans rfl
          have hcz127_3 : wr.cell? ⟨gb104, 3, none⟩ = some (.int .i64 a0_3) := (blk_cell BK104.out 3).trans rfl
          have hcz127_4 : wr.cell? ⟨gb104, 4, none⟩ = some (.int .i64 a0_4) := (blk_cell BK104.out 4).trans rfl
          have hcz127_5 : wr.cell? ⟨gb104, 5, none⟩ = some (.int .i64 a0_5) := (blk_cell BK104.out 5).trans rfl
          have hcz127_6 : wr.cell? ⟨gb104, 6, none⟩ = some (.slice A0_6 l0_6.length c0_6) := (blk_cell BK104.out 6).trans rfl
          have hfz127_0 := blk_frozen BK104.out 0
          have hfz127_1 := blk_frozen BK104.out 1
          have hfz127_2 := blk_frozen BK104.out 2
          have hfz127_3 := blk_frozen BK104.out 3
          have hfz127_4 := blk_frozen BK104.out 4
          have hfz127_5 := blk_frozen BK104.out 5
          have hfz127_6 := blk_frozen BK104.out 6
          go_wp2
          go_ret2
          exact ⟨by first | rfl | (simp [errW_none, errW_some] <;> rfl) | (simp [*, errW_none, errW_some] <;> rfl), by repeat (first | (with_reducible first | exact HB.out | apply below_alloc | apply pw_below_drewN | apply below_drew1 | refine below_set ?_ GE104.out) | exact HB.out)⟩

end Go.Proofs.Ytbjkjakilpifhaa.PC
