-- Written by a program of this session for this claim (wip/print2.sh). Lean checks it.
import Derived.Test.YtbjkjakilpifhaaPCx0
import Derived.Test.YtbjkjakilpifhaaPCx3
namespace Go.Proofs.Ytbjkjakilpifhaa.PC
open Go.Proofs.YtbjkjakilpifhaaW.PrintWords
attribute [local go_sem high] fx_eql fx_neq fx_lss fx_leq fx_gtr fx_geq fx_add fx_sub fx_mul fx_neg fx_toint cxx_add cxx_sub cxx_mul cxx_eql cxx_neq cxx_pick st_float st_complex
open Go.RowKit Go.Proofs.YtbjkjakilpifhaaW.PrintWords Go.Proofs.YtbjkjakilpifhaaW.PrintLast Go.Proofs.YtbjkjakilpifhaaW.PrintMore
attribute [local go_sem] max2_int min2_int max_two min_two max_three min_three max_four min_four   -- for this text's walks alone
set_option linter.unusedVariables false
set_option linter.unusedSimpArgs false

/-! ### pylonref10_Check: function 14 -/
theorem pylonref10_Check.pq {P : Program} {ops : Array Oper} {Q : Exit → Act → World → Prop} {S : World → Prop} {ds : List Nat} {md : Region.Mode} {oi : Oper} {fuel : Nat} {l : Array Bool} {a : Act} {w : World} {T : Bool × List (List Nat × List Nat)} (i : Nat) (N : Tmp) (v : Value) (l' : Array Bool) (hi : ops[i]? = some oi) (hN : oi.dst = some N) (hT : Aside0 (rtab md ops = T)) (hc : anyT T l.toList l'.toList i = true) (hQ : ∀ c a w, Q (.panic c) (a.put oi.dst v) w → Q (.panic c) a w) (hy : Yields P ops oi v a) (a' : Act) (ha : a.put (some N) v = a') (h : wpAnyLast P md ops Q S ds fuel l' a' w) : wpAnyLast P md ops Q S ds (fuel + 1) l a w := pure_ l' hi hN (any_of hT.out hc) hQ hy ha h
mutual
def pylonref10_Check.l0 : Nat → Int → Int → Int → Int → Int → ByteArray → Int → Int → Int → Int → Int → List (S32) → Option (Int × Int)
 | 0, _, _, _, _, _, _, _, _, _, _, _, _ => none
 | k + 1, x1, x2, x8, x14, x15, x123000, x123001, x123002, x123003, x123004, x123005, x123006 => if x15 < x14 then (if 0 ≤ x15 then (if x15 < (x123006.length : Int) then (if ((rd_T32 x123006 x15).f0) < 0 then (pylonref10_Check.j1 k x1 x2 x8 x15 true x14 x15 x123000 x123001 x123002 x123003 x123004 x123005 x123006 ((rd_T32 x123006 x15).f0) ((rd_T32 x123006 x15).f1) ((rd_T32 x123006 x15).f2) ((rd_T32 x123006 x15).f3) ((rd_T32 x123006 x15).f4)) else (if ((rd_T32 x123006 x15).f0) ≥ x123003 then (pylonref10_Check.j1 k x1 x2 x8 x15 true x14 x15 x123000 x123001 x123002 x123003 x123004 x123005 x123006 ((rd_T32 x123006 x15).f0) ((rd_T32 x123006 x15).f1) ((rd_T32 x123006 x15).f2) ((rd_T32 x123006 x15).f3) ((rd_T32 x123006 x15).f4)) else (if x15 > 0 then (if 0 ≤ (wrap64 (x15 - 1)) then (if (wrap64 (x15 - 1)) < (x123006.length : Int) then (pylonref10_Check.j1 k x1 x2 x8 x15 (decide (((rd_T32 x123006 x15).f0) ≤ ((rd_T32 x123006 (wrap64 (x15 - 1))).f0))) x14 x15 x123000 x123001 x123002 x123003 x123004 x123005 x123006 ((rd_T32 x123006 x15).f0) ((rd_T32 x123006 x15).f1) ((rd_T32 x123006 x15).f2) ((rd_T32 x123006 x15).f3) ((rd_T32 x123006 x15).f4)) else (none)) else (none)) else (pylonref10_Check.j1 k x1 x2 x8 x15 false x14 x15 x123000 x123001 x123002 x123003 x123004 x123005 x123006 ((rd_T32 x123006 x15).f0) ((rd_T32 x123006 x15).f1) ((rd_T32 x123006 x15).f2) ((rd_T32 x123006 x15).f3) ((rd_T32 x123006 x15).f4))))) else (none)) else (none)) else (if x8 = 0 then (some ((x123006.length : Int), 3)) else (some (0, 0)))
def pylonref10_Check.j1 : Nat → Int → Int → Int → Int → Bool → Int → Int → ByteArray → Int → Int → Int → Int → Int → List (S32) → Int → Int → Int → Int → Int → Option (Int × Int)
 | 0, _, _, _, _, _, _, _, _, _, _, _, _, _, _, _, _, _, _, _ => none
 | k + 1, x1, x2, x8, x9, x11, x14, x15, x123000, x123001, x123002, x123003, x123004, x123005, x123006, x125000, x125001, x125002, x125003, x125004 => (pylonref10_Good.f x125000 x125001 x125002 x125003 x125004).bind fun t126 => (if t126 = true then (if x11 = true then (pylonref10_Check.j2 k x1 x2 (wrap64 (x8 + 1)) x9 true x14 x15 x123000 x123001 x123002 x123003 x123004 x123005 x123006 x125000 x125001 x125002 x125003 x125004) else (if x125001 < 0 then (pylonref10_Check.j2 k x1 x2 (wrap64 (x8 + 1)) x9 true x14 x15 x123000 x123001 x123002 x123003 x123004 x123005 x123006 x125000 x125001 x125002 x125003 x125004) else (if x125001 > x1 then (pylonref10_Check.j2 k x1 x2 (wrap64 (x8 + 1)) x9 true x14 x15 x123000 x123001 x123002 x123003 x123004 x123005 x123006 x125000 x125001 x125002 x125003 x125004) else (if x125002 < 0 then (pylonref10_Check.j2 k x1 x2 (wrap64 (x8 + 1)) x9 true x14 x15 x123000 x123001 x123002 x123003 x123004 x123005 x123006 x125000 x125001 x125002 x125003 x125004) else (if x125002 > x1 then (pylonref10_Check.j2 k x1 x2 (wrap64 (x8 + 1)) x9 true x14 x15 x123000 x123001 x123002 x123003 x123004 x123005 x123006 x125000 x125001 x125002 x125003 x125004) else (if x1 < 0 then (pylonref10_Check.j2 k x1 x2 (wrap64 (x8 + 1)) x9 true x14 x15 x123000 x123001 x123002 x123003 x123004 x123005 x123006 x125000 x125001 x125002 x125003 x125004) else ((pylonref10_farther.f k x125003 0 x1).bind fun t127 => (pylonref10_Check.j2 k x1 x2 (wrap64 (x8 + 1)) x9 t127 x14 x15 x123000 x123001 x123002 x123003 x123004 x123005 x123006 x125000 x125001 x125002 x125003 x125004)))))))) else (pylonref10_Check.j4 k x1 x2 x8 x9 x11 x14 x15 x123000 x123001 x123002 x123003 x123004 x123005 x123006 x125000 x125001 x125002 x125003 x125004))
def pylonref10_Check.j4 : Nat → Int → Int → Int → Int → Bool → Int → Int → ByteArray → Int → Int → Int → Int → Int → List (S32) → Int → Int → Int → Int → Int → Option (Int × Int)
 | 0, _, _, _, _, _, _, _, _, _, _, _, _, _, _, _, _, _, _, _ => none
 | k + 1, x1, x2, x8, x9, x11, x14, x15, x123000, x123001, x123002, x123003, x123004, x123005, x123006, x125000, x125001, x125002, x125003, x125004 => if x11 = true then (some (x9, 3)) else ((pylonref10_Good.f x125000 x125001 x125002 x125003 x125004).bind fun t136 => (if t136 = true then (pylonref10_Check.l0 k x1 x2 x8 x14 (wrap64 (x15 + 1)) x123000 x123001 x123002 x123003 x123004 x123005 x123006) else (if x125004 = 83 then (pylonref10_Check.l0 k x1 x2 x8 x14 (wrap64 (x15 + 1)) x123000 x123001 x123002 x123003 x123004 x123005 x123006) else (some (x9, 3)))))
def pylonref10_Check.j2 : Nat → Int → Int → Int → Int → Bool → Int → Int → ByteArray → Int → Int → Int → Int → Int → List (S32) → Int → Int → Int → Int → Int → Option (Int × Int)
 | 0, _, _, _, _, _, _, _, _, _, _, _, _, _, _, _, _, _, _, _ => none
 | k + 1, x1, x2, x8, x9, x11, x14, x15, x123000, x123001, x123002, x123003, x123004, x123005, x123006, x125000, x125001, x125002, x125003, x125004 => if x9 > 0 then (if x2 > 0 then (if 0 ≤ (wrap64 (x9 - 1)) then (if (wrap64 (x9 - 1)) < (x123006.length : Int) then ((pylonref10_Good.f ((rd_T32 x123006 (wrap64 (x9 - 1))).f0) ((rd_T32 x123006 (wrap64 (x9 - 1))).f1) ((rd_T32 x123006 (wrap64 (x9 - 1))).f2) ((rd_T32 x123006 (wrap64 (x9 - 1))).f3) ((rd_T32 x123006 (wrap64 (x9 - 1))).f4)).bind fun t129 => (if t129 = true then (if x125000 > ((rd_T32 x123006 (wrap64 (x9 - 1))).f0) then (pylonref10_Check.j3 k x1 x2 x8 x9 x11 x14 x15 ((wrap64 (x125000 - 1)) == ((rd_T32 x123006 (wrap64 (x9 - 1))).f0)) x123000 x123001 x123002 x123003 x123004 x123005 x123006 x125000 x125001 x125002 x125003 x125004) else (pylonref10_Check.j3 k x1 x2 x8 x9 x11 x14 x15 false x123000 x123001 x123002 x123003 x123004 x123005 x123006 x125000 x125001 x125002 x125003 x125004)) else (pylonref10_Check.j3 k x1 x2 x8 x9 x11 x14 x15 false x123000 x123001 x123002 x123003 x123004 x123005 x123006 x125000 x125001 x125002 x125003 x125004))) else (none)) else (none)) else (pylonref10_Check.j3 k x1 x2 x8 x9 x11 x14 x15 false x123000 x123001 x123002 x123003 x123004 x123005 x123006 x125000 x125001 x125002 x125003 x125004)) else (pylonref10_Check.j3 k x1 x2 x8 x9 x11 x14 x15 false x123000 x123001 x123002 x123003 x123004 x123005 x123006 x125000 x125001 x125002 x125003 x125004)
def pylonref10_Check.j3 : Nat → Int → Int → Int → Int → Bool → Int → Int → Bool → ByteArray → Int → Int → Int → Int → Int → List (S32) → Int → Int → Int → Int → Int → Option (Int × Int)
 | 0, _, _, _, _, _, _, _, _, _, _, _, _, _, _, _, _, _, _, _, _ => none
 | k + 1, x1, x2, x8, x9, x11, x14, x15, x125, x123000, x123001, x123002, x123003, x123004, x123005, x123006, x125000, x125001, x125002, x125003, x125004 => if x125 = true then (if x11 = true then (pylonref10_Check.j4 k x1 x2 x8 x9 true x14 x15 x123000 x123001 x123002 x123003 x123004 x123005 x123006 x125000 x125001 x125002 x125003 x125004) else (if 0 ≤ (wrap64 (x9 - 1)) then (if (wrap64 (x9 - 1)) < (x123006.length : Int) then ((pylonref10_farther.f k x125001 ((rd_T32 x123006 (wrap64 (x9 - 1))).f1) x2).bind fun t133 => (if t133 = true then (pylonref10_Check.j4 k x1 x2 x8 x9 true x14 x15 x123000 x123001 x123002 x123003 x123004 x123005 x123006 x125000 x125001 x125002 x125003 x125004) else ((pylonref10_farther.f k x125002 ((rd_T32 x123006 (wrap64 (x9 - 1))).f2) x2).bind fun t135 => (pylonref10_Check.j4 k x1 x2 x8 x9 t135 x14 x15 x123000 x123001 x123002 x123003 x123004 x123005 x123006 x125000 x125001 x125002 x125003 x125004)))) else (none)) else (none))) else (pylonref10_Check.j4 k x1 x2 x8 x9 x11 x14 x15 x123000 x123001 x123002 x123003 x123004 x123005 x123006 x125000 x125001 x125002 x125003 x125004)
end
def pylonref10_Check.f (k : Nat) (a0_0 : ByteArray) (a0_1 : Int) (a0_2 : Int) (a0_3 : Int) (a0_4 : Int) (a0_5 : Int) (l0_6 : List (S32)) (a1 : Int) (a2 : Int) : Option (Int × Int) := pylonref10_Check.l0 k a1 a2 0 (l0_6.length : Int) 0 a0_0 a0_1 a0_2 a0_3 a0_4 a0_5 l0_6
theorem pylonref10_Check.mono_l : ∀ k, (∀ y0 y1 y2 y3 y4 y5 y6 y7 y8 y9 y10 y11, LeO (pylonref10_Check.l0 k y0 y1 y2 y3 y4 y5 y6 y7 y8 y9 y10 y11) (pylonref10_Check.l0 (k + 1) y0 y1 y2 y3 y4 y5 y6 y7 y8 y9 y10 y11)) ∧ (∀ y0 y1 y2 y3 y4 y5 y6 y7 y8 y9 y10 y11 y12 y13 y14 y15 y16 y17 y18, LeO (pylonref10_Check.j1 k y0 y1 y2 y3 y4 y5 y6 y7 y8 y9 y10 y11 y12 y13 y14 y15 y16 y17 y18) (pylonref10_Check.j1 (k + 1) y0 y1 y2 y3 y4 y5 y6 y7 y8 y9 y10 y11 y12 y13 y14 y15 y16 y17 y18)) ∧ (∀ y0 y1 y2 y3 y4 y5 y6 y7 y8 y9 y10 y11 y12 y13 y14 y15 y16 y17 y18, LeO (pylonref10_Check.j4 k y0 y1 y2 y3 y4 y5 y6 y7 y8 y9 y10 y11 y12 y13 y14 y15 y16 y17 y18) (pylonref10_Check.j4 (k + 1) y0 y1 y2 y3 y4 y5 y6 y7 y8 y9 y10 y11 y12 y13 y14 y15 y16 y17 y18)) ∧ (∀ y0 y1 y2 y3 y4 y5 y6 y7 y8 y9 y10 y11 y12 y13 y14 y15 y16 y17 y18, LeO (pylonref10_Check.j2 k y0 y1 y2 y3 y4 y5 y6 y7 y8 y9 y10 y11 y12 y13 y14 y15 y16 y17 y18) (pylonref10_Check.j2 (k + 1) y0 y1 y2 y3 y4 y5 y6 y7 y8 y9 y10 y11 y12 y13 y14 y15 y16 y17 y18)) ∧ (∀ y0 y1 y2 y3 y4 y5 y6 y7 y8 y9 y10 y11 y12 y13 y14 y15 y16 y17 y18 y19, LeO (pylonref10_Check.j3 k y0 y1 y2 y3 y4 y5 y6 y7 y8 y9 y10 y11 y12 y13 y14 y15 y16 y17 y18 y19) (pylonref10_Check.j3 (k + 1) y0 y1 y2 y3 y4 y5 y6 y7 y8 y9 y10 y11 y12 y13 y14 y15 y16 y17 y18 y19))
 | 0 => ⟨fun _ _ _ _ _ _ _ _ _ _ _ _ r h => by simp [pylonref10_Check.l0] at h, fun _ _ _ _ _ _ _ _ _ _ _ _ _ _ _ _ _ _ _ r h => by simp [pylonref10_Check.j1] at h, fun _ _ _ _ _ _ _ _ _ _ _ _ _ _ _ _ _ _ _ r h => by simp [pylonref10_Check.j4] at h, fun _ _ _ _ _ _ _ _ _ _ _ _ _ _ _ _ _ _ _ r h => by simp [pylonref10_Check.j2] at h, fun _ _ _ _ _ _ _ _ _ _ _ _ _ _ _ _ _ _ _ _ r h => by simp [pylonref10_Check.j3] at h⟩
 | k + 1 => by
  obtain ⟨ih0, ih1, ih2, ih3, ih4⟩ := pylonref10_Check.mono_l k
  refine ⟨?_, ?_, ?_, ?_, ?_⟩
  ·
   intro y0 y1 y2 y3 y4 y5 y6 y7 y8 y9 y10 y11
   unfold pylonref10_Check.l0
   repeat' first
   | (with_reducible exact ih0 _ _ _ _ _ _ _ _ _ _ _ _)
   | (with_reducible exact ih1 _ _ _ _ _ _ _ _ _ _ _ _ _ _ _ _ _ _ _)
   | (with_reducible exact ih2 _ _ _ _ _ _ _ _ _ _ _ _ _ _ _ _ _ _ _)
   | (with_reducible exact ih3 _ _ _ _ _ _ _ _ _ _ _ _ _ _ _ _ _ _ _)
   | (with_reducible exact ih4 _ _ _ _ _ _ _ _ _ _ _ _ _ _ _ _ _ _ _ _)
   | (with_reducible exact pylonref10_farther.mono _ _ _ _)
   | (with_reducible exact LeO.refl _)
   | (with_reducible exact LeO.none _)
   | (with_reducible refine LeO.ite ?_ ?_)
   | (with_reducible refine LeO.bind ?_ (fun _ => ?_))
   | exact ih0 _ _ _ _ _ _ _ _ _ _ _ _
   | exact ih1 _ _ _ _ _ _ _ _ _ _ _ _ _ _ _ _ _ _ _
   | exact ih2 _ _ _ _ _ _ _ _ _ _ _ _ _ _ _ _ _ _ _
   | exact ih3 _ _ _ _ _ _ _ _ _ _ _ _ _ _ _ _ _ _ _
   | exact ih4 _ _ _ _ _ _ _ _ _ _ _ _ _ _ _ _ _ _ _ _
   | exact pylonref10_farther.mono _ _ _ _
   | exact LeO.none _
   | refine LeO.ite ?_ ?_
   | refine LeO.bind ?_ (fun _ => ?_)
  ·
   intro y0 y1 y2 y3 y4 y5 y6 y7 y8 y9 y10 y11 y12 y13 y14 y15 y16 y17 y18
   unfold pylonref10_Check.j1
   repeat' first
   | (with_reducible exact ih0 _ _ _ _ _ _ _ _ _ _ _ _)
   | (with_reducible exact ih1 _ _ _ _ _ _ _ _ _ _ _ _ _ _ _ _ _ _ _)
   | (with_reducible exact ih2 _ _ _ _ _ _ _ _ _ _ _ _ _ _ _ _ _ _ _)
   | (with_reducible exact ih3 _ _ _ _ _ _ _ _ _ _ _ _ _ _ _ _ _ _ _)
   | (with_reducible exact ih4 _ _ _ _ _ _ _ _ _ _ _ _ _ _ _ _ _ _ _ _)
   | (with_reducible exact pylonref10_farther.mono _ _ _ _)
   | (with_reducible exact LeO.refl _)
   | (with_reducible exact LeO.none _)
   | (with_reducible refine LeO.ite ?_ ?_)
   | (with_reducible refine LeO.bind ?_ (fun _ => ?_))
   | exact ih0 _ _ _ _ _ _ _ _ _ _ _ _
   | exact ih1 _ _ _ _ _ _ _ _ _ _ _ _ _ _ _ _ _ _ _
   | exact ih2 _ _ _ _ _ _ _ _ _ _ _ _ _ _ _ _ _ _ _
   | exact ih3 _ _ _ _ _ _ _ _ _ _ _ _ _ _ _ _ _ _ _
   | exact ih4 _ _ _ _ _ _ _ _ _ _ _ _ _ _ _ _ _ _ _ _
   | exact pylonref10_farther.mono _ _ _ _
   | exact LeO.none _
   | refine LeO.ite ?_ ?_
   | refine LeO.bind ?_ (fun _ => ?_)
  ·
   intro y0 y1 y2 y3 y4 y5 y6 y7 y8 y9 y10 y11 y12 y13 y14 y15 y16 y17 y18
   unfold pylonref10_Check.j4
   repeat' first
   | (with_reducible exact ih0 _ _ _ _ _ _ _ _ _ _ _ _)
   | (with_reducible exact ih1 _ _ _ _ _ _ _ _ _ _ _ _ _ _ _ _ _ _ _)
   | (with_reducible exact ih2 _ _ _ _ _ _ _ _ _ _ _ _ _ _ _ _ _ _ _)
   | (with_reducible exact ih3 _ _ _ _ _ _ _ _ _ _ _ _ _ _ _ _ _ _ _)
   | (with_reducible exact ih4 _ _ _ _ _ _ _ _ _ _ _ _ _ _ _ _ _ _ _ _)
   | (with_reducible exact pylonref10_farther.mono _ _ _ _)
   | (with_reducible exact LeO.refl _)
   | (with_reducible exact LeO.none _)
   | (with_reducible refine LeO.ite ?_ ?_)
   | (with_reducible refine LeO.bind ?_ (fun _ => ?_))
   | exact ih0 _ _ _ _ _ _ _ _ _ _ _ _
   | exact ih1 _ _ _ _ _ _ _ _ _ _ _ _ _ _ _ _ _ _ _
   | exact ih2 _ _ _ _ _ _ _ _ _ _ _ _ _ _ _ _ _ _ _
   | exact ih3 _ _ _ _ _ _ _ _ _ _ _ _ _ _ _ _ _ _ _
   | exact ih4 _ _ _ _ _ _ _ _ _ _ _ _ _ _ _ _ _ _ _ _
   | exact pylonref10_farther.mono _ _ _ _
   | exact LeO.none _
   | refine LeO.ite ?_ ?_
   | refine LeO.bind ?_ (fun _ => ?_)
  ·
   intro y0 y1 y2 y3 y4 y5 y6 y7 y8 y9 y10 y11 y12 y13 y14 y15 y16 y17 y18
   unfold pylonref10_Check.j2
   repeat' first
   | (with_reducible exact ih0 _ _ _ _ _ _ _ _ _ _ _ _)
   | (with_reducible exact ih1 _ _ _ _ _ _ _ _ _ _ _ _ _ _ _ _ _ _ _)
   | (with_reducible exact ih2 _ _ _ _ _ _ _ _ _ _ _ _ _ _ _ _ _ _ _)
   | (with_reducible exact ih3 _ _ _ _ _ _ _ _ _ _ _ _ _ _ _ _ _ _ _)
   | (with_reducible exact ih4 _ _ _ _ _ _ _ _ _ _ _ _ _ _ _ _ _ _ _ _)
   | (with_reducible exact pylonref10_farther.mono _ _ _ _)
   | (with_reducible exact LeO.refl _)
   | (with_reducible exact LeO.none _)
   | (with_reducible refine LeO.ite ?_ ?_)
   | (with_reducible refine LeO.bind ?_ (fun _ => ?_))
   | exact ih0 _ _ _ _ _ _ _ _ _ _ _ _
   | exact ih1 _ _ _ _ _ _ _ _ _ _ _ _ _ _ _ _ _ _ _
   | exact ih2 _ _ _ _ _ _ _ _ _ _ _ _ _ _ _ _ _ _ _
   | exact ih3 _ _ _ _ _ _ _ _ _ _ _ _ _ _ _ _ _ _ _
   | exact ih4 _ _ _ _ _ _ _ _ _ _ _ _ _ _ _ _ _ _ _ _
   | exact pylonref10_farther.mono _ _ _ _
   | exact LeO.none _
   | refine LeO.ite ?_ ?_
   | refine LeO.bind ?_ (fun _ => ?_)
  ·
   intro y0 y1 y2 y3 y4 y5 y6 y7 y8 y9 y10 y11 y12 y13 y14 y15 y16 y17 y18 y19
   unfold pylonref10_Check.j3
   repeat' first
   | (with_reducible exact ih0 _ _ _ _ _ _ _ _ _ _ _ _)
   | (with_reducible exact ih1 _ _ _ _ _ _ _ _ _ _ _ _ _ _ _ _ _ _ _)
   | (with_reducible exact ih2 _ _ _ _ _ _ _ _ _ _ _ _ _ _ _ _ _ _ _)
   | (with_reducible exact ih3 _ _ _ _ _ _ _ _ _ _ _ _ _ _ _ _ _ _ _)
   | (with_reducible exact ih4 _ _ _ _ _ _ _ _ _ _ _ _ _ _ _ _ _ _ _ _)
   | (with_reducible exact pylonref10_farther.mono _ _ _ _)
   | (with_reducible exact LeO.refl _)
   | (with_reducible exact LeO.none _)
   | (with_reducible refine LeO.ite ?_ ?_)
   | (with_reducible refine LeO.bind ?_ (fun _ => ?_))
   | exact ih0 _ _ _ _ _ _ _ _ _ _ _ _
   | exact ih1 _ _ _ _ _ _ _ _ _ _ _ _ _ _ _ _ _ _ _
   | exact ih2 _ _ _ _ _ _ _ _ _ _ _ _ _ _ _ _ _ _ _
   | exact ih3 _ _ _ _ _ _ _ _ _ _ _ _ _ _ _ _ _ _ _
   | exact ih4 _ _ _ _ _ _ _ _ _ _ _ _ _ _ _ _ _ _ _ _
   | exact pylonref10_farther.mono _ _ _ _
   | exact LeO.none _
   | refine LeO.ite ?_ ?_
   | refine LeO.bind ?_ (fun _ => ?_)
theorem pylonref10_Check.mono : ∀ a0 a1 a2 a3 a4 a5 a6 a7 a8 k, LeO (pylonref10_Check.f k a0 a1 a2 a3 a4 a5 a6 a7 a8) (pylonref10_Check.f (k + 1) a0 a1 a2 a3 a4 a5 a6 a7 a8) := by
 intro a0 a1 a2 a3 a4 a5 a6 a7 a8 k
 obtain ⟨ih0, ih1, ih2, ih3, ih4⟩ := pylonref10_Check.mono_l k
 unfold pylonref10_Check.f
 repeat' first
   | (with_reducible exact ih0 _ _ _ _ _ _ _ _ _ _ _ _)
   | (with_reducible exact ih1 _ _ _ _ _ _ _ _ _ _ _ _ _ _ _ _ _ _ _)
   | (with_reducible exact ih2 _ _ _ _ _ _ _ _ _ _ _ _ _ _ _ _ _ _ _)
   | (with_reducible exact ih3 _ _ _ _ _ _ _ _ _ _ _ _ _ _ _ _ _ _ _)
   | (with_reducible exact ih4 _ _ _ _ _ _ _ _ _ _ _ _ _ _ _ _ _ _ _ _)
   | (with_reducible exact pylonref10_farther.mono _ _ _ _)
   | (with_reducible exact LeO.refl _)
   | (with_reducible exact LeO.none _)
   | (with_reducible refine LeO.ite ?_ ?_)
   | (with_reducible refine LeO.bind ?_ (fun _ => ?_))
   | exact ih0 _ _ _ _ _ _ _ _ _ _ _ _
   | exact ih1 _ _ _ _ _ _ _ _ _ _ _ _ _ _ _ _ _ _ _
   | exact ih2 _ _ _ _ _ _ _ _ _ _ _ _ _ _ _ _ _ _ _
   | exact ih3 _ _ _ _ _ _ _ _ _ _ _ _ _ _ _ _ _ _ _
   | exact ih4 _ _ _ _ _ _ _ _ _ _ _ _ _ _ _ _ _ _ _ _
   | exact pylonref10_farther.mono _ _ _ _
   | exact LeO.none _
   | refine LeO.ite ?_ ?_
   | refine LeO.bind ?_ (fun _ => ?_)
def pylonref10_Check.T6 : Bool × List (List Nat × List Nat) := (true, [([], []), ([0], [0]), ([1], [1]), ([2], [2]), ([3], [3]), ([4, 3], [3, 4]), ([3], [3]), ([6, 3], [3, 6]), ([5, 7, 3], [3, 5, 7]), ([3, 8], [3, 8]), ([9, 3], [9]), ([10], [10]), ([11, 10], [10, 11]), ([12, 10, 10], [10, 12]), ([13], [13]), ([14, 13], [13, 14]), ([13], [13]), ([16, 13], [13, 16]), ([13], [13]), ([18, 13], [13, 18]), ([17, 19, 13], [13, 17, 19]), ([20, 13], [13, 20]), ([21, 13], [13, 21]), ([15, 22, 13], [13, 15, 22]), ([13, 23, 10], [10, 13, 23]), ([10, 24], [10, 24]), ([25, 13, 0, 1, 2, 3, 4, 5, 6, 7, 8, 9, 10, 11, 12, 13, 14, 15, 16, 17, 18, 19, 20, 21, 22, 23, 24, 25], [25])])
def pylonref10_Check.B6 : List Nat := [0, 1, 3, 7, 15, 31, 15, 79, 255, 511, 1023, 2047, 4095, 8191, 16383, 32767, 16383, 81919, 16383, 278527, 999423, 2047999, 4145151, 8388607, 16777215, 33554431, 67108863]
theorem pylonref10_Check.tab6 : rtab .any (opsOf Try.f14 6) = pylonref10_Check.T6 := by kernel_rfl
theorem pylonref10_Check.bits6 : waitsOk pylonref10_Check.T6.2 pylonref10_Check.B6 = true := by kernel_rfl
def pylonref10_Check.T10 : Bool × List (List Nat × List Nat) := (true, [([], []), ([0], [0]), ([1], [1]), ([2], [2]), ([3, 2], [2, 3]), ([2, 4], [2, 4]), ([5, 2], [5]), ([6], [6]), ([7, 6], [6, 7]), ([6], [6]), ([9, 6], [6, 9]), ([8, 10, 6], [6, 8, 10]), ([11, 6], [6, 11]), ([12, 6, 6], [6, 12]), ([6, 13], [6, 13]), ([14, 13], [14]), ([15], [15]), ([16, 15], [15, 16]), ([15], [15]), ([18, 15], [15, 18]), ([15], [15]), ([20, 15], [15, 20]), ([19, 21, 15], [15, 19, 21]), ([22, 15], [15, 22]), ([23, 15], [15, 23]), ([17, 24, 15], [15, 17, 24]), ([15, 25], [15, 25]), ([26, 15], [26]), ([27], [27]), ([28, 27], [27, 28]), ([29, 27], [27, 29]), ([27], [27]), ([31, 27], [27, 31]), ([27], [27]), ([33, 27], [27, 33]), ([32, 34, 27], [27, 32, 34]), ([35, 27], [27, 35]), ([36, 27], [27, 36]), ([30, 37, 27], [27, 30, 37]), ([27, 38], [27, 38])])
def pylonref10_Check.B10 : List Nat := [0, 1, 3, 7, 15, 31, 63, 127, 255, 127, 639, 2047, 4095, 8191, 16383, 32767, 65535, 131071, 65535, 327679, 65535, 1114111, 3997695, 8191999, 16580607, 33554431, 67108863, 134217727, 268435455, 536870911, 1073741823, 268435455, 2415919103, 268435455, 8858370047, 32480690175, 66840428543, 135559905279, 274877906943, 549755813887]
theorem pylonref10_Check.tab10 : rtab .any (opsOf Try.f14 10) = pylonref10_Check.T10 := by kernel_rfl
theorem pylonref10_Check.bits10 : waitsOk pylonref10_Check.T10.2 pylonref10_Check.B10 = true := by kernel_rfl
def pylonref10_Check.T11 : Bool × List (List Nat × List Nat) := (true, [([], []), ([0], [0]), ([1], [1]), ([2, 1], [1, 2]), ([1], [1]), ([4, 1], [1, 4]), ([1], [1]), ([6, 1], [1, 6]), ([5, 7, 1], [1, 5, 7]), ([8, 1], [1, 8]), ([9, 1], [1, 9]), ([1], [1]), ([3, 10, 11, 1, 1], [1, 3, 10, 11]), ([1, 12], [1, 12]), ([13, 12], [13]), ([14], [14]), ([15, 14], [14, 15]), ([14], [14]), ([17, 14], [14, 17]), ([14], [14]), ([19, 14], [14, 19]), ([18, 20, 14], [14, 18, 20]), ([21, 14], [14, 21]), ([22, 14], [14, 22]), ([14], [14]), ([16, 23, 24, 14, 14], [14, 16, 23, 24]), ([14, 25], [14, 25]), ([26, 25, 0, 1, 2, 3, 4, 5, 6, 7, 8, 9, 10, 11, 12, 13, 14, 15, 16, 17, 18, 19, 20, 21, 22, 23, 24, 25, 26], [0, 26])])
def pylonref10_Check.B11 : List Nat := [0, 1, 3, 7, 3, 19, 3, 67, 243, 499, 1011, 3, 4095, 8191, 16383, 32767, 65535, 32767, 163839, 32767, 557055, 1998847, 4095999, 8290303, 32767, 33554431, 67108863, 134217727]
theorem pylonref10_Check.tab11 : rtab .any (opsOf Try.f14 11) = pylonref10_Check.T11 := by kernel_rfl
theorem pylonref10_Check.bits11 : waitsOk pylonref10_Check.T11.2 pylonref10_Check.B11 = true := by kernel_rfl
set_option maxHeartbeats 8000000 in
set_option maxRecDepth 100000 in
theorem pylonref10_Check.calls (k : Nat) (a0_0 : ByteArray) (a0_1 : Int) (a0_2 : Int) (a0_3 : Int) (a0_4 : Int) (a0_5 : Int) (A0_6 : Option Addr) (c0_6 : Nat) (l0_6 : List (S32)) (a1 : Int) (a2 : Int) (r1 : Int) (r2 : Int) (w : World) (hr0_6 : Kd.C k32 w A0_6 l0_6.length l0_6) (hc0_6 : l0_6.length ≤ c0_6) (h : pylonref10_Check.f k a0_0 a0_1 a0_2 a0_3 a0_4 a0_5 l0_6 a1 a2 = some (r1, r2)) :
  Calls Try.prog 14 #[.agg #[.string a0_0, .int .i64 a0_1, .int .i64 a0_2, .int .i64 a0_3, .int .i64 a0_4, .int .i64 a0_5, .slice A0_6 l0_6.length c0_6], .int .i64 a1, .int .i64 a2] w fun e w' => e = .returned (.tuple #[.int .i64 r1, .int .i64 r2]) ∧ Below w.heap.size w w' := by
 have hu24 := Try.underlying24
 have hu32 := Try.underlying32
 have HR0_6 := Aside0.mk hr0_6
 have HC0_6 := Aside0.mk hc0_6
 clear hr0_6 hc0_6
 have HB := Aside0.mk (Below.refl w.heap.size w)
 have H : (pylonref10_Check.l0 k a1 a2 0 (l0_6.length : Int) 0 a0_0 a0_1 a0_2 a0_3 a0_4 a0_5 l0_6) = some (r1, r2) := h
 clear h
 have H' := Aside0.mk H
 clear H
 go_enter Try.func14, Try.ntmps14
 go_wp2_with (first | ((with_reducible refine gate_dst (N := 3) rfl ?_); refine box_event ?hg (N := 3) ?hd (cs := #[.string a0_0, .int .i64 a0_1, .int .i64 a0_2, .int .i64 a0_3, .int .i64 a0_4, .int .i64 a0_5, .slice A0_6 l0_6.length c0_6]) (t := 24) ?hr ?_; (case hd => rfl); (case hg => rfl); (case hr => first | (go_simp; done) | (go_simp; rfl)); intro gb122 hg w4 hbox hb; have n0_ := Aside0.mk (below_step (by repeat (first | (with_reducible first | exact HB.out | apply below_alloc | apply pw_below_drewN | apply below_drew1) | exact HB.out)) hb); have n1_ := Aside0.mk (hbox); have n2_ := Aside0.mk ((by rw [hg]; exact (below_size (by repeat (first | (with_reducible first | exact HB.out | apply below_alloc | apply pw_below_drewN | apply below_drew1) | exact HB.out))) : w.heap.size ≤ gb122)); have n3_ := Aside0.mk ((by rw [hg]; exact (below_size (by repeat (first | (with_reducible first | exact HB.out | apply below_alloc | apply pw_below_drewN | apply below_drew1) | exact HB.out))) : w.heap.size ≤ gb122)); clear HB; have HB := n0_; have BK122 := n1_; have GW122 := n2_; have GE122 := n3_; clear n0_ n1_ n2_ n3_; clear hb hbox hg; have hcz5_0 : w4.cell? ⟨gb122, 0, none⟩ = some (.string a0_0) := (blk_cell BK122.out 0).trans rfl; have hcz5_1 : w4.cell? ⟨gb122, 1, none⟩ = some (.int .i64 a0_1) := (blk_cell BK122.out 1).trans rfl; have hcz5_2 : w4.cell? ⟨gb122, 2, none⟩ = some (.int .i64 a0_2) := (blk_cell BK122.out 2).trans rfl; have hcz5_3 : w4.cell? ⟨gb122, 3, none⟩ = some (.int .i64 a0_3) := (blk_cell BK122.out 3).trans rfl; have hcz5_4 : w4.cell? ⟨gb122, 4, none⟩ = some (.int .i64 a0_4) := (blk_cell BK122.out 4).trans rfl; have hcz5_5 : w4.cell? ⟨gb122, 5, none⟩ = some (.int .i64 a0_5) := (blk_cell BK122.out 5).trans rfl; have hcz5_6 : w4.cell? ⟨gb122, 6, none⟩ = some (.slice A0_6 l0_6.length c0_6) := (blk_cell BK122.out 6).trans rfl; have hfz5_0 := blk_frozen BK122.out 0; have hfz5_1 := blk_frozen BK122.out 1; have hfz5_2 := blk_frozen BK122.out 2; have hfz5_3 := blk_frozen BK122.out 3; have hfz5_4 := blk_frozen BK122.out 4; have hfz5_5 := blk_frozen BK122.out 5; have hfz5_6 := blk_frozen BK122.out 6))
 go_loopg [8, 15] k (fun kq v8 v15 w' => ∃ (x8_1 : Int) (x15_1 : Int), v8 = .int .i64 x8_1 ∧ v15 = .int .i64 x15_1 ∧ Aside0 (pylonref10_Check.l0 kq a1 a2 x8_1 (l0_6.length : Int) x15_1 a0_0 a0_1 a0_2 a0_3 a0_4 a0_5 l0_6 = some (r1, r2)) ∧ Aside0 (kq ≤ k) ∧ Aside0 (w'.heap[gb122]? = some (.cells #[.string a0_0, .int .i64 a0_1, .int .i64 a0_2, .int .i64 a0_3, .int .i64 a0_4, .int .i64 a0_5, (.slice A0_6 l0_6.length c0_6)] 24 (0, 0))) ∧ Aside0 (Below w.heap.size w w'))
 case atStart => exact ⟨(0), (0), (by first | rfl | (simp; done) | (simp [*]; done)), (by first | rfl | (simp; done) | (simp [*]; done)), H', ⟨Nat.le_refl _⟩, ⟨by (with_reducible repeat (first | refine blk_drewN ?_ _ | refine blk_drew ?_ | refine blk_alloc ?_ _)); exact BK122.out⟩, ⟨by repeat (first | (with_reducible first | exact HB.out | apply below_alloc | apply pw_below_drewN | apply below_drew1 | refine below_set ?_ GE122.out) | exact HB.out)⟩⟩
 case round =>
  clear H'
  (try clear c1); (try clear p2); (try clear hcz5_0); (try clear hcz5_1); (try clear hcz5_2); (try clear hcz5_3); (try clear hcz5_4); (try clear hcz5_5); (try clear hcz5_6); (try clear hfz5_0); (try clear hfz5_1); (try clear hfz5_2); (try clear hfz5_3); (try clear hfz5_4); (try clear hfz5_5); (try clear hfz5_6)
  obtain ⟨x8_1, x15_1, rfl, rfl, HA, HK1, BK122, HB⟩ := hrel
  cases gk with
  | zero => exact absurd HA.out (by simp [pylonref10_Check.l0])
  | succ k1 =>
   have H := HA.out
   clear HA
   simp only [pylonref10_Check.l0] at H
   by_cases c6 : x15_1 < (l0_6.length : Int)
   ·
    rw [if_pos c6] at H
    have c6b0 : decide (x15_1 < (l0_6.length : Int)) = true := decide_eq_true c6
    clear c6
    by_cases c7 : 0 ≤ x15_1
    ·
     rw [if_pos c7] at H
     have c7b0 : decide (0 ≤ x15_1) = true := decide_eq_true c7
     clear c7
     by_cases c8 : x15_1 < (l0_6.length : Int)
     ·
      rw [if_pos c8] at H
      have c8b0 : decide (x15_1 < (l0_6.length : Int)) = true := decide_eq_true c8
      clear c8
      have HC9 := Aside0.mk H
      clear H
      have hcz10_0 : wr.cell? ⟨gb122, 0, none⟩ = some (.string a0_0) := (blk_cell BK122.out 0).trans rfl
      have hcz10_1 : wr.cell? ⟨gb122, 1, none⟩ = some (.int .i64 a0_1) := (blk_cell BK122.out 1).trans rfl
      have hcz10_2 : wr.cell? ⟨gb122, 2, none⟩ = some (.int .i64 a0_2) := (blk_cell BK122.out 2).trans rfl
      have hcz10_3 : wr.cell? ⟨gb122, 3, none⟩ = some (.int .i64 a0_3) := (blk_cell BK122.out 3).trans rfl
      have hcz10_4 : wr.cell? ⟨gb122, 4, none⟩ = some (.int .i64 a0_4) := (blk_cell BK122.out 4).trans rfl
      have hcz10_5 : wr.cell? ⟨gb122, 5, none⟩ = some (.int .i64 a0_5) := (blk_cell BK122.out 5).trans rfl
      have hcz10_6 : wr.cell? ⟨gb122, 6, none⟩ = some (.slice A0_6 l0_6.length c0_6) := (blk_cell BK122.out 6).trans rfl
      have hfz10_0 := blk_frozen BK122.out 0
      have hfz10_1 := blk_frozen BK122.out 1
      have hfz10_2 := blk_frozen BK122.out 2
      have hfz10_3 := blk_frozen BK122.out 3
      have hfz10_4 := blk_frozen BK122.out 4
      have hfz10_5 := blk_frozen BK122.out 5
      have hfz10_6 := blk_frozen BK122.out 6
      have p123 : 0 ≤ (x15_1 : Int) := of_decide_eq_true (by first | (with_reducible assumption) | assumption)
      have q123 : x15_1 < (l0_6.length : Int) := of_decide_eq_true (by first | (with_reducible assumption) | assumption)
      obtain ⟨ad123, e123, hx123_0, hx123_1, hx123_2, hx123_3, hx123_4⟩ := at_T32 HR0_6.out x15_1 p123 q123
      cases e123
      replace hx123_0 := (HB.out.cell (World.block_lt_of_cell? w _ hx123_0)).trans hx123_0
      replace hx123_1 := (HB.out.cell (World.block_lt_of_cell? w _ hx123_1)).trans hx123_1
      replace hx123_2 := (HB.out.cell (World.block_lt_of_cell? w _ hx123_2)).trans hx123_2
      replace hx123_3 := (HB.out.cell (World.block_lt_of_cell? w _ hx123_3)).trans hx123_3
      replace hx123_4 := (HB.out.cell (World.block_lt_of_cell? w _ hx123_4)).trans hx123_4
      replace p123 := eq_true p123
      replace q123 := eq_true q123
      go_upto_region 6 with (first | ((with_reducible refine gate_dst (N := 10) rfl ?_); refine box_event ?hg (N := 10) ?hd (cs := #[.int .i64 0, .int .i64 0, .int .i64 0, .int .i64 0, .int .u8 0]) (t := 32) ?hr ?_; (case hd => rfl); (case hg => rfl); (case hr => first | (go_simp; done) | (go_simp; rfl)); intro gb124 hg w11 hbox hb; have n0_ := Aside0.mk (blk_below (g := gb122) (o := .cells #[.string a0_0, .int .i64 a0_1, .int .i64 a0_2, .int .i64 a0_3, .int .i64 a0_4, .int .i64 a0_5, .slice (some ad123) l0_6.length c0_6] 24 (0, 0)) (by (with_reducible repeat (first | refine blk_drewN ?_ _ | refine blk_drew ?_ | refine blk_alloc ?_ _)); exact BK122.out) hb); have n1_ := Aside0.mk (below_step (by repeat (first | (with_reducible first | exact HB.out | apply below_alloc | apply pw_below_drewN | apply below_drew1 | refine below_set ?_ GE122.out) | exact HB.out)) hb); have n2_ := Aside0.mk (hbox); have n3_ := Aside0.mk ((by rw [hg]; exact (below_size (by repeat (first | (with_reducible first | exact HB.out | apply below_alloc | apply pw_below_drewN | apply below_drew1 | refine below_set ?_ GE122.out) | exact HB.out))) : w.heap.size ≤ gb124)); have n4_ := Aside0.mk ((by rw [hg]; exact (below_size (by repeat (first | (with_reducible first | exact HB.out | apply below_alloc | apply pw_below_drewN | apply below_drew1 | refine below_set ?_ GE122.out) | exact HB.out))) : w.heap.size ≤ gb124)); have n5_ := Aside0.mk ((by rw [hg]; exact Nat.ne_of_lt (blk_lt (g := gb122) (o := .cells #[.string a0_0, .int .i64 a0_1, .int .i64 a0_2, .int .i64 a0_3, .int .i64 a0_4, .int .i64 a0_5, .slice (some ad123) l0_6.length c0_6] 24 (0, 0)) (by (with_reducible repeat (first | refine blk_drewN ?_ _ | refine blk_drew ?_ | refine blk_alloc ?_ _)); exact BK122.out)) : gb122 ≠ gb124)); have n6_ := Aside0.mk ((by rw [hg]; exact Nat.ne_of_gt (blk_lt (g := gb122) (o := .cells #[.string a0_0, .int .i64 a0_1, .int .i64 a0_2, .int .i64 a0_3, .int .i64 a0_4, .int .i64 a0_5, .slice (some ad123) l0_6.length c0_6] 24 (0, 0)) (by (with_reducible repeat (first | refine blk_drewN ?_ _ | refine blk_drew ?_ | refine blk_alloc ?_ _)); exact BK122.out)) : gb124 ≠ gb122)); clear BK122; clear HB; have BK122 := n0_; have HB := n1_; have BK124 := n2_; have GW124 := n3_; have GE124 := n4_; have NB122_124 := n5_; have NB124_122 := n6_; clear n0_ n1_ n2_ n3_ n4_ n5_ n6_; clear hb hbox hg; have hnb12 := NB124_122.out; have hnc12 := NB122_124.out; have hcz13_0 : w11.cell? ⟨gb124, 0, none⟩ = some (.int .i64 0) := (blk_cell BK124.out 0).trans rfl; have hcz13_1 : w11.cell? ⟨gb124, 1, none⟩ = some (.int .i64 0) := (blk_cell BK124.out 1).trans rfl; have hcz13_2 : w11.cell? ⟨gb124, 2, none⟩ = some (.int .i64 0) := (blk_cell BK124.out 2).trans rfl; have hcz13_3 : w11.cell? ⟨gb124, 3, none⟩ = some (.int .i64 0) := (blk_cell BK124.out 3).trans rfl; have hcz13_4 : w11.cell? ⟨gb124, 4, none⟩ = some (.int .u8 0) := (blk_cell BK124.out 4).trans rfl; have hfz13_0 := blk_frozen BK124.out 0; have hfz13_1 := blk_frozen BK124.out 1; have hfz13_2 := blk_frozen BK124.out 2; have hfz13_3 := blk_frozen BK124.out 3; have hfz13_4 := blk_frozen BK124.out 4))
      (try simp only [Act.put, List.setIfInBounds_toArray, List.set_cons_zero, List.set_cons_succ])
      go_cut [11] (fun v11 wc => ∃ (kq : Nat) (x11_8 : Bool), v11 = .bool x11_8 ∧ Aside0 (pylonref10_Check.j1 kq a1 a2 x8_1 x15_1 x11_8 (l0_6.length : Int) x15_1 a0_0 a0_1 a0_2 a0_3 a0_4 a0_5 l0_6 ((rd_T32 l0_6 x15_1).f0) ((rd_T32 l0_6 x15_1).f1) ((rd_T32 l0_6 x15_1).f2) ((rd_T32 l0_6 x15_1).f3) ((rd_T32 l0_6 x15_1).f4) = some (r1, r2)) ∧ Aside0 (kq ≤ k1) ∧ Aside0 (wc.heap[gb122]? = some (.cells #[.string a0_0, .int .i64 a0_1, .int .i64 a0_2, .int .i64 a0_3, .int .i64 a0_4, .int .i64 a0_5, (.slice (some ad123) l0_6.length c0_6)] 24 (0, 0))) ∧ Aside0 (wc.heap[gb124]? = some (.cells #[.int .i64 ((rd_T32 l0_6 x15_1).f0), .int .i64 ((rd_T32 l0_6 x15_1).f1), .int .i64 ((rd_T32 l0_6 x15_1).f2), .int .i64 ((rd_T32 l0_6 x15_1).f3), .int .u8 ((rd_T32 l0_6 x15_1).f4)] 32 (0, 0))) ∧ Aside0 (Below w.heap.size w wc))
      case first =>
       as_aux_lemma =>
       have H := HC9.out
       clear HC9
       by_cases c14 : ((rd_T32 l0_6 x15_1).f0) < 0
       ·
        rw [if_pos c14] at H
        have c14b0 : decide (((rd_T32 l0_6 x15_1).f0) < 0) = true := decide_eq_true c14
        clear c14
        (first | rw [c14b0] | (simp only [i64_w, i32_w]; rw [c14b0]) | skip)
        have H' := Aside0.mk H
        clear H
        try go_wp2
        have n0_ : Aside0 ((((((w11.setCell ⟨gb124, 0, none⟩ (.int .i64 ((rd_T32 l0_6 x15_1).f0))).setCell ⟨gb124, 1, none⟩ (.int .i64 ((rd_T32 l0_6 x15_1).f1))).setCell ⟨gb124, 2, none⟩ (.int .i64 ((rd_T32 l0_6 x15_1).f2))).setCell ⟨gb124, 3, none⟩ (.int .i64 ((rd_T32 l0_6 x15_1).f3))).setCell ⟨gb124, 4, none⟩ (.int .u8 ((rd_T32 l0_6 x15_1).f4))).heap[gb122]? = some (.cells #[.string a0_0, .int .i64 a0_1, .int .i64 a0_2, .int .i64 a0_3, .int .i64 a0_4, .int .i64 a0_5, .slice (some ad123) l0_6.length c0_6] 24 (0, 0))) := ⟨by (with_reducible repeat (first | refine blk_drewN ?_ _ | refine blk_drew ?_ | refine blk_alloc ?_ _)); refine blk_far ?_ NB122_124.out _; (with_reducible repeat (first | refine blk_drewN ?_ _ | refine blk_drew ?_ | refine blk_alloc ?_ _)); refine blk_far ?_ NB122_124.out _; (with_reducible repeat (first | refine blk_drewN ?_ _ | refine blk_drew ?_ | refine blk_alloc ?_ _)); refine blk_far ?_ NB122_124.out _; (with_reducible repeat (first | refine blk_drewN ?_ _ | refine blk_drew ?_ | refine blk_alloc ?_ _)); refine blk_far ?_ NB122_124.out _; (with_reducible repeat (first | refine blk_drewN ?_ _ | refine blk_drew ?_ | refine blk_alloc ?_ _)); refine blk_far ?_ NB122_124.out _; (with_reducible repeat (first | refine blk_drewN ?_ _ | refine blk_drew ?_ | refine blk_alloc ?_ _)); exact BK122.out⟩
        have n1_ : Aside0 ((((((w11.setCell ⟨gb124, 0, none⟩ (.int .i64 ((rd_T32 l0_6 x15_1).f0))).setCell ⟨gb124, 1, none⟩ (.int .i64 ((rd_T32 l0_6 x15_1).f1))).setCell ⟨gb124, 2, none⟩ (.int .i64 ((rd_T32 l0_6 x15_1).f2))).setCell ⟨gb124, 3, none⟩ (.int .i64 ((rd_T32 l0_6 x15_1).f3))).setCell ⟨gb124, 4, none⟩ (.int .u8 ((rd_T32 l0_6 x15_1).f4))).heap[gb124]? = some (.cells #[.int .i64 ((rd_T32 l0_6 x15_1).f0), .int .i64 ((rd_T32 l0_6 x15_1).f1), .int .i64 ((rd_T32 l0_6 x15_1).f2), .int .i64 ((rd_T32 l0_6 x15_1).f3), .int .u8 ((rd_T32 l0_6 x15_1).f4)] 32 (0, 0))) := ⟨by (with_reducible repeat (first | refine blk_drewN ?_ _ | refine blk_drew ?_ | refine blk_alloc ?_ _)); refine blk_put (cs := #[.int .i64 ((rd_T32 l0_6 x15_1).f0), .int .i64 ((rd_T32 l0_6 x15_1).f1), .int .i64 ((rd_T32 l0_6 x15_1).f2), .int .i64 ((rd_T32 l0_6 x15_1).f3), .int .u8 0]) ?_ 4 _ rfl; (with_reducible repeat (first | refine blk_drewN ?_ _ | refine blk_drew ?_ | refine blk_alloc ?_ _)); refine blk_put (cs := #[.int .i64 ((rd_T32 l0_6 x15_1).f0), .int .i64 ((rd_T32 l0_6 x15_1).f1), .int .i64 ((rd_T32 l0_6 x15_1).f2), .int .i64 0, .int .u8 0]) ?_ 3 _ rfl; (with_reducible repeat (first | refine blk_drewN ?_ _ | refine blk_drew ?_ | refine blk_alloc ?_ _)); refine blk_put (cs := #[.int .i64 ((rd_T32 l0_6 x15_1).f0), .int .i64 ((rd_T32 l0_6 x15_1).f1), .int .i64 0, .int .i64 0, .int .u8 0]) ?_ 2 _ rfl; (with_reducible repeat (first | refine blk_drewN ?_ _ | refine blk_drew ?_ | refine blk_alloc ?_ _)); refine blk_put (cs := #[.int .i64 ((rd_T32 l0_6 x15_1).f0), .int .i64 0, .int .i64 0, .int .i64 0, .int .u8 0]) ?_ 1 _ rfl; (with_reducible repeat (first | refine blk_drewN ?_ _ | refine blk_drew ?_ | refine blk_alloc ?_ _)); refine blk_put (cs := #[.int .i64 0, .int .i64 0, .int .i64 0, .int .i64 0, .int .u8 0]) ?_ 0 _ rfl; (with_reducible repeat (first | refine blk_drewN ?_ _ | refine blk_drew ?_ | refine blk_alloc ?_ _)); exact BK124.out⟩
        have n2_ : Aside0 (Below w.heap.size w (((((w11.setCell ⟨gb124, 0, none⟩ (.int .i64 ((rd_T32 l0_6 x15_1).f0))).setCell ⟨gb124, 1, none⟩ (.int .i64 ((rd_T32 l0_6 x15_1).f1))).setCell ⟨gb124, 2, none⟩ (.int .i64 ((rd_T32 l0_6 x15_1).f2))).setCell ⟨gb124, 3, none⟩ (.int .i64 ((rd_T32 l0_6 x15_1).f3))).setCell ⟨gb124, 4, none⟩ (.int .u8 ((rd_T32 l0_6 x15_1).f4)))) := ⟨by repeat (first | (with_reducible first | exact HB.out | apply below_alloc | apply pw_below_drewN | apply below_drew1 | refine below_set ?_ GE122.out | refine below_set ?_ GE124.out) | exact HB.out)⟩
        (try clear BK122)
        (try clear BK124)
        (try clear HB)
        generalize (((((w11.setCell ⟨gb124, 0, none⟩ (.int .i64 ((rd_T32 l0_6 x15_1).f0))).setCell ⟨gb124, 1, none⟩ (.int .i64 ((rd_T32 l0_6 x15_1).f1))).setCell ⟨gb124, 2, none⟩ (.int .i64 ((rd_T32 l0_6 x15_1).f2))).setCell ⟨gb124, 3, none⟩ (.int .i64 ((rd_T32 l0_6 x15_1).f3))).setCell ⟨gb124, 4, none⟩ (.int .u8 ((rd_T32 l0_6 x15_1).f4))) = w15 at n0_ n1_ n2_ ⊢
        have BK122 := n0_
        have BK124 := n1_
        have HB := n2_
        clear n0_ n1_ n2_
        have n0_ := Aside0.mk (blk_drew BK122.out)
        have n1_ := Aside0.mk (blk_drew BK124.out)
        have n2_ := Aside0.mk (below_drew1 HB.out)
        clear BK122
        clear BK124
        clear HB
        have BK122 := n0_
        have BK124 := n1_
        have HB := n2_
        clear n0_ n1_ n2_
        refine start_ (n := 27) (S := fun w' => w'.cell? ⟨gb124, 0, none⟩ = some (.int .i64 ((rd_T32 l0_6 x15_1).f0)) ∧ w'.cell? ⟨gb124, 1, none⟩ = some (.int .i64 ((rd_T32 l0_6 x15_1).f1)) ∧ w'.cell? ⟨gb124, 2, none⟩ = some (.int .i64 ((rd_T32 l0_6 x15_1).f2)) ∧ w'.cell? ⟨gb124, 3, none⟩ = some (.int .i64 ((rd_T32 l0_6 x15_1).f3)) ∧ w'.cell? ⟨gb124, 4, none⟩ = some (.int .u8 ((rd_T32 l0_6 x15_1).f4))) (ds := []) (upT 0 27) (by kernel_rfl) rfl rfl ⟨(blk_cell BK124.out 0).trans rfl, (blk_cell BK124.out 1).trans rfl, (blk_cell BK124.out 2).trans rfl, (blk_cell BK124.out 3).trans rfl, (blk_cell BK124.out 4).trans rfl⟩ (fun hHeld => ?_); refine with_tabW pylonref10_Check.tab6 pylonref10_Check.bits6 (fun HT_ HW_ => ?_)
        generalize w15.drew = w16 at BK122 BK124 HB hHeld ⊢
        refine pq 0 23 ?_ (upT 1 26) rfl rfl HT_ (by kernel_rfl) (fun _ _ _ h => h) (Or.inl ⟨by rfl, ?_⟩) ?_ ?_ ?_; rotate_left; (intro w'; go_simp; with_reducible rfl); rotate_left; (simp only [putS]; rfl)
        refine take_ (i := 1) (N := some 24) (v := ?_) (a' := ?_) (upT 2 25) rfl rfl (take_ofW HT_.out HW_.out (by kernel_rfl)) (fun _ _ _ h => h) (Or.inl ⟨by rfl, ?_⟩) hHeld ?_ ?_
        rotate_left
        ·
         rintro w' ⟨s0, s1, s2, s3, s4⟩
         go_simp
         with_reducible rfl
        rotate_left; (simp only [putS]; rfl)
        refine pq 2 25 ?_ (upT 3 24) rfl rfl HT_ (by kernel_rfl) (fun _ _ _ h => h) (Or.inl ⟨by rfl, ?_⟩) ?_ ?_ ?_; rotate_left; (intro w'; go_simp; with_reducible rfl); rotate_left; (simp only [putS]; rfl)
        refine pq 3 26 ?_ (upT 4 23) rfl rfl HT_ (by kernel_rfl) (fun _ _ _ h => h) (Or.inl ⟨by rfl, ?_⟩) ?_ ?_ ?_; rotate_left; (intro w'; go_simp; with_reducible rfl); rotate_left; (simp only [putS]; rfl)
        refine pq 4 27 undef (upT 5 22) rfl rfl HT_ (by kernel_rfl) (fun _ _ _ h => h) (Or.inr ⟨by rfl, rfl⟩) ?_ ?_ ?_
        rotate_left; (simp only [putS]; rfl)
        refine pq 5 28 undef (upT 6 21) rfl rfl HT_ (by kernel_rfl) (fun _ _ _ h => h) (Or.inr ⟨by rfl, rfl⟩) ?_ ?_ ?_
        rotate_left; (simp only [putS]; rfl)
        refine pq 6 29 undef (upT 7 20) rfl rfl HT_ (by kernel_rfl) (fun _ _ _ h => h) (Or.inr ⟨by rfl, rfl⟩) ?_ ?_ ?_
        rotate_left; (simp only [putS]; rfl)
        refine pq 7 30 undef (upT 8 19) rfl rfl HT_ (by kernel_rfl) (fun _ _ _ h => h) (Or.inr ⟨by rfl, rfl⟩) ?_ ?_ ?_
        rotate_left; (simp only [putS]; rfl)
        refine pq 8 31 undef (upT 9 18) rfl rfl HT_ (by kernel_rfl) (fun _ _ _ h => h) (Or.inr ⟨by rfl, rfl⟩) ?_ ?_ ?_
        rotate_left; (simp only [putS]; rfl)
        refine pq 9 32 ?_ (upT 10 17) rfl rfl HT_ (by kernel_rfl) (fun _ _ _ h => h) (Or.inl ⟨by rfl, ?_⟩) ?_ ?_ ?_; rotate_left; (intro w'; go_simp; with_reducible rfl); rotate_left; (simp only [putS]; rfl)
        refine pq 10 33 ?_ (upT 11 16) rfl rfl HT_ (by kernel_rfl) (fun _ _ _ h => h) (Or.inl ⟨by rfl, ?_⟩) ?_ ?_ ?_; rotate_left; (intro w'; go_simp; with_reducible rfl); rotate_left; (simp only [putS]; rfl)
        refine pq 11 34 undef (upT 12 15) rfl rfl HT_ (by kernel_rfl) (fun _ _ _ h => h) (Or.inr ⟨by rfl, rfl⟩) ?_ ?_ ?_
        rotate_left; (simp only [putS]; rfl)
        refine pq 12 35 undef (upT 13 14) rfl rfl HT_ (by kernel_rfl) (fun _ _ _ h => h) (Or.inr ⟨by rfl, rfl⟩) ?_ ?_ ?_
        rotate_left; (simp only [putS]; rfl)
        refine pq 13 36 undef (upT 14 13) rfl rfl HT_ (by kernel_rfl) (fun _ _ _ h => h) (Or.inr ⟨by rfl, rfl⟩) ?_ ?_ ?_
        rotate_left; (simp only [putS]; rfl)
        refine pq 14 37 undef (upT 15 12) rfl rfl HT_ (by kernel_rfl) (fun _ _ _ h => h) (Or.inr ⟨by rfl, rfl⟩) ?_ ?_ ?_
        rotate_left; (simp only [putS]; rfl)
        refine pq 15 38 undef (upT 16 11) rfl rfl HT_ (by kernel_rfl) (fun _ _ _ h => h) (Or.inr ⟨by rfl, rfl⟩) ?_ ?_ ?_
        rotate_left; (simp only [putS]; rfl)
        refine pq 16 39 undef (upT 17 10) rfl rfl HT_ (by kernel_rfl) (fun _ _ _ h => h) (Or.inr ⟨by rfl, rfl⟩) ?_ ?_ ?_
        rotate_left; (simp only [putS]; rfl)
        refine pq 17 40 undef (upT 18 9) rfl rfl HT_ (by kernel_rfl) (fun _ _ _ h => h) (Or.inr ⟨by rfl, rfl⟩) ?_ ?_ ?_
        rotate_left; (simp only [putS]; rfl)
        refine pq 18 41 undef (upT 19 8) rfl rfl HT_ (by kernel_rfl) (fun _ _ _ h => h) (Or.inr ⟨by rfl, rfl⟩) ?_ ?_ ?_
        rotate_left; (simp only [putS]; rfl)
        refine pq 19 42 undef (upT 20 7) rfl rfl HT_ (by kernel_rfl) (fun _ _ _ h => h) (Or.inr ⟨by rfl, rfl⟩) ?_ ?_ ?_
        rotate_left; (simp only [putS]; rfl)
        refine pq 20 43 undef (upT 21 6) rfl rfl HT_ (by kernel_rfl) (fun _ _ _ h => h) (Or.inr ⟨by rfl, rfl⟩) ?_ ?_ ?_
        rotate_left; (simp only [putS]; rfl)
        refine pq 21 44 undef (upT 22 5) rfl rfl HT_ (by kernel_rfl) (fun _ _ _ h => h) (Or.inr ⟨by rfl, rfl⟩) ?_ ?_ ?_
        rotate_left; (simp only [putS]; rfl)
        refine pq 22 45 undef (upT 23 4) rfl rfl HT_ (by kernel_rfl) (fun _ _ _ h => h) (Or.inr ⟨by rfl, rfl⟩) ?_ ?_ ?_
        rotate_left; (simp only [putS]; rfl)
        refine pq 23 46 undef (upT 24 3) rfl rfl HT_ (by kernel_rfl) (fun _ _ _ h => h) (Or.inr ⟨by rfl, rfl⟩) ?_ ?_ ?_
        rotate_left; (simp only [putS]; rfl)
        refine pq 24 47 undef (upT 25 2) rfl rfl HT_ (by kernel_rfl) (fun _ _ _ h => h) (Or.inr ⟨by rfl, rfl⟩) ?_ ?_ ?_
        rotate_left; (simp only [putS]; rfl)
        refine pq 25 48 ?_ (upT 26 1) rfl rfl HT_ (by kernel_rfl) (fun _ _ _ h => h) (Or.inl ⟨by rfl, ?_⟩) ?_ ?_ ?_; rotate_left; (intro w'; go_simp; with_reducible rfl); rotate_left; (simp only [putS]; rfl)
        refine pq 26 11 ?_ (upT 27 0) rfl rfl HT_ (by kernel_rfl) (fun _ _ _ h => h) (Or.inl ⟨by rfl, ?_⟩) ?_ ?_ ?_; rotate_left; (intro w'; go_simp; with_reducible rfl); rotate_left; (simp only [putS]; rfl)
        refine done_ (done_of HT_.out (by kernel_rfl)) ?_
        try go_wp2
        go_meet
        case rel => exact ⟨_, (true), (by first | rfl | (simp; done) | (simp [*]; done)), H', ⟨by have := HK1.out; first | omega | exact Nat.le_refl _⟩, ⟨by (with_reducible repeat (first | refine blk_drewN ?_ _ | refine blk_drew ?_ | refine blk_alloc ?_ _)); exact BK122.out⟩, ⟨by (with_reducible repeat (first | refine blk_drewN ?_ _ | refine blk_drew ?_ | refine blk_alloc ?_ _)); exact BK124.out⟩, ⟨by repeat (first | (with_reducible first | exact HB.out | apply below_alloc | apply pw_below_drewN | apply below_drew1 | refine below_set ?_ GE122.out | refine below_set ?_ GE124.out) | exact HB.out)⟩⟩
       ·
        rw [if_neg c14] at H
        have c14b0 : decide (((rd_T32 l0_6 x15_1).f0) < 0) = false := decide_eq_false c14
        clear c14
        (first | rw [c14b0] | (simp only [i64_w, i32_w]; rw [c14b0]) | skip)
        by_cases c17 : ((rd_T32 l0_6 x15_1).f0) ≥ a0_3
        ·
         rw [if_pos c17] at H
         have c17b0 : decide (a0_3 ≤ ((rd_T32 l0_6 x15_1).f0)) = true := decide_eq_true c17
         clear c17
         have H' := Aside0.mk H
         clear H
         try go_wp2
         have n0_ : Aside0 ((((((w11.setCell ⟨gb124, 0, none⟩ (.int .i64 ((rd_T32 l0_6 x15_1).f0))).setCell ⟨gb124, 1, none⟩ (.int .i64 ((rd_T32 l0_6 x15_1).f1))).setCell ⟨gb124, 2, none⟩ (.int .i64 ((rd_T32 l0_6 x15_1).f2))).setCell ⟨gb124, 3, none⟩ (.int .i64 ((rd_T32 l0_6 x15_1).f3))).setCell ⟨gb124, 4, none⟩ (.int .u8 ((rd_T32 l0_6 x15_1).f4))).heap[gb122]? = some (.cells #[.string a0_0, .int .i64 a0_1, .int .i64 a0_2, .int .i64 a0_3, .int .i64 a0_4, .int .i64 a0_5, .slice (some ad123) l0_6.length c0_6] 24 (0, 0))) := ⟨by (with_reducible repeat (first | refine blk_drewN ?_ _ | refine blk_drew ?_ | refine blk_alloc ?_ _)); refine blk_far ?_ NB122_124.out _; (with_reducible repeat (first | refine blk_drewN ?_ _ | refine blk_drew ?_ | refine blk_alloc ?_ _)); refine blk_far ?_ NB122_124.out _; (with_reducible repeat (first | refine blk_drewN ?_ _ | refine blk_drew ?_ | refine blk_alloc ?_ _)); refine blk_far ?_ NB122_124.out _; (with_reducible repeat (first | refine blk_drewN ?_ _ | refine blk_drew ?_ | refine blk_alloc ?_ _)); refine blk_far ?_ NB122_124.out _; (with_reducible repeat (first | refine blk_drewN ?_ _ | refine blk_drew ?_ | refine blk_alloc ?_ _)); refine blk_far ?_ NB122_124.out _; (with_reducible repeat (first | refine blk_drewN ?_ _ | refine blk_drew ?_ | refine blk_alloc ?_ _)); exact BK122.out⟩
         have n1_ : Aside0 ((((((w11.setCell ⟨gb124, 0, none⟩ (.int .i64 ((rd_T32 l0_6 x15_1).f0))).setCell ⟨gb124, 1, none⟩ (.int .i64 ((rd_T32 l0_6 x15_1).f1))).setCell ⟨gb124, 2, none⟩ (.int .i64 ((rd_T32 l0_6 x15_1).f2))).setCell ⟨gb124, 3, none⟩ (.int .i64 ((rd_T32 l0_6 x15_1).f3))).setCell ⟨gb124, 4, none⟩ (.int .u8 ((rd_T32 l0_6 x15_1).f4))).heap[gb124]? = some (.cells #[.int .i64 ((rd_T32 l0_6 x15_1).f0), .int .i64 ((rd_T32 l0_6 x15_1).f1), .int .i64 ((rd_T32 l0_6 x15_1).f2), .int .i64 ((rd_T32 l0_6 x15_1).f3), .int .u8 ((rd_T32 l0_6 x15_1).f4)] 32 (0, 0))) := ⟨by (with_reducible repeat (first | refine blk_drewN ?_ _ | refine blk_drew ?_ | refine blk_alloc ?_ _)); refine blk_put (cs := #[.int .i64 ((rd_T32 l0_6 x15_1).f0), .int .i64 ((rd_T32 l0_6 x15_1).f1), .int .i64 ((rd_T32 l0_6 x15_1).f2), .int .i64 ((rd_T32 l0_6 x15_1).f3), .int .u8 0]) ?_ 4 _ rfl; (with_reducible repeat (first | refine blk_drewN ?_ _ | refine blk_drew ?_ | refine blk_alloc ?_ _)); refine blk_put (cs := #[.int .i64 ((rd_T32 l0_6 x15_1).f0), .int .i64 ((rd_T32 l0_6 x15_1).f1), .int .i64 ((rd_T32 l0_6 x15_1).f2), .int .i64 0, .int .u8 0]) ?_ 3 _ rfl; (with_reducible repeat (first | refine blk_drewN ?_ _ | refine blk_drew ?_ | refine blk_alloc ?_ _)); refine blk_put (cs := #[.int .i64 ((rd_T32 l0_6 x15_1).f0), .int .i64 ((rd_T32 l0_6 x15_1).f1), .int .i64 0, .int .i64 0, .int .u8 0]) ?_ 2 _ rfl; (with_reducible repeat (first | refine blk_drewN ?_ _ | refine blk_drew ?_ | refine blk_alloc ?_ _)); refine blk_put (cs := #[.int .i64 ((rd_T32 l0_6 x15_1).f0), .int .i64 0, .int .i64 0, .int .i64 0, .int .u8 0]) ?_ 1 _ rfl; (with_reducible repeat (first | refine blk_drewN ?_ _ | refine blk_drew ?_ | refine blk_alloc ?_ _)); refine blk_put (cs := #[.int .i64 0, .int .i64 0, .int .i64 0, .int .i64 0, .int .u8 0]) ?_ 0 _ rfl; (with_reducible repeat (first | refine blk_drewN ?_ _ | refine blk_drew ?_ | refine blk_alloc ?_ _)); exact BK124.out⟩
         have n2_ : Aside0 (Below w.heap.size w (((((w11.setCell ⟨gb124, 0, none⟩ (.int .i64 ((rd_T32 l0_6 x15_1).f0))).setCell ⟨gb124, 1, none⟩ (.int .i64 ((rd_T32 l0_6 x15_1).f1))).setCell ⟨gb124, 2, none⟩ (.int .i64 ((rd_T32 l0_6 x15_1).f2))).setCell ⟨gb124, 3, none⟩ (.int .i64 ((rd_T32 l0_6 x15_1).f3))).setCell ⟨gb124, 4, none⟩ (.int .u8 ((rd_T32 l0_6 x15_1).f4)))) := ⟨by repeat (first | (with_reducible first | exact HB.out | apply below_alloc | apply pw_below_drewN | apply below_drew1 | refine below_set ?_ GE122.out | refine below_set ?_ GE124.out) | exact HB.out)⟩
         (try clear BK122)
         (try clear BK124)
         (try clear HB)
         generalize (((((w11.setCell ⟨gb124, 0, none⟩ (.int .i64 ((rd_T32 l0_6 x15_1).f0))).setCell ⟨gb124, 1, none⟩ (.int .i64 ((rd_T32 l0_6 x15_1).f1))).setCell ⟨gb124, 2, none⟩ (.int .i64 ((rd_T32 l0_6 x15_1).f2))).setCell ⟨gb124, 3, none⟩ (.int .i64 ((rd_T32 l0_6 x15_1).f3))).setCell ⟨gb124, 4, none⟩ (.int .u8 ((rd_T32 l0_6 x15_1).f4))) = w18 at n0_ n1_ n2_ ⊢
         have BK122 := n0_
         have BK124 := n1_
         have HB := n2_
         clear n0_ n1_ n2_
         have n0_ := Aside0.mk (blk_drew BK122.out)
         have n1_ := Aside0.mk (blk_drew BK124.out)
         have n2_ := Aside0.mk (below_drew1 HB.out)
         clear BK122
         clear BK124
         clear HB
         have BK122 := n0_
         have BK124 := n1_
         have HB := n2_
         clear n0_ n1_ n2_
         refine start_ (n := 27) (S := fun w' => w'.cell? ⟨gb124, 0, none⟩ = some (.int .i64 ((rd_T32 l0_6 x15_1).f0)) ∧ w'.cell? ⟨gb124, 1, none⟩ = some (.int .i64 ((rd_T32 l0_6 x15_1).f1)) ∧ w'.cell? ⟨gb124, 2, none⟩ = some (.int .i64 ((rd_T32 l0_6 x15_1).f2)) ∧ w'.cell? ⟨gb124, 3, none⟩ = some (.int .i64 ((rd_T32 l0_6 x15_1).f3)) ∧ w'.cell? ⟨gb124, 4, none⟩ = some (.int .u8 ((rd_T32 l0_6 x15_1).f4)) ∧ w'.cell? ⟨gb122, 0, none⟩ = some (.string a0_0) ∧ w'.cell? ⟨gb122, 1, none⟩ = some (.int .i64 a0_1) ∧ w'.cell? ⟨gb122, 2, none⟩ = some (.int .i64 a0_2) ∧ w'.cell? ⟨gb122, 3, none⟩ = some (.int .i64 a0_3) ∧ w'.cell? ⟨gb122, 4, none⟩ = some (.int .i64 a0_4) ∧ w'.cell? ⟨gb122, 5, none⟩ = some (.int .i64 a0_5) ∧ w'.cell? ⟨gb122, 6, none⟩ = some (.slice (some ad123) l0_6.length c0_6)) (ds := []) (upT 0 27) (by kernel_rfl) rfl rfl ⟨(blk_cell BK124.out 0).trans rfl, (blk_cell BK124.out 1).trans rfl, (blk_cell BK124.out 2).trans rfl, (blk_cell BK124.out 3).trans rfl, (blk_cell BK124.out 4).trans rfl, (blk_cell BK122.out 0).trans rfl, (blk_cell BK122.out 1).trans rfl, (blk_cell BK122.out 2).trans rfl, (blk_cell BK122.out 3).trans rfl, (blk_cell BK122.out 4).trans rfl, (blk_cell BK122.out 5).trans rfl, (blk_cell BK122.out 6).trans rfl⟩ (fun hHeld => ?_); refine with_tabW pylonref10_Check.tab6 pylonref10_Check.bits6 (fun HT_ HW_ => ?_)
         generalize w18.drew = w19 at BK122 BK124 HB hHeld ⊢
         refine pq 0 23 ?_ (upT 1 26) rfl rfl HT_ (by kernel_rfl) (fun _ _ _ h => h) (Or.inl ⟨by rfl, ?_⟩) ?_ ?_ ?_; rotate_left; (intro w'; go_simp; with_reducible rfl); rotate_left; (simp only [putS]; rfl)
         refine take_ (i := 1) (N := some 24) (v := ?_) (a' := ?_) (upT 2 25) rfl rfl (take_ofW HT_.out HW_.out (by kernel_rfl)) (fun _ _ _ h => h) (Or.inl ⟨by rfl, ?_⟩) hHeld ?_ ?_
         rotate_left
         ·
          rintro w' ⟨s0, s1, s2, s3, s4, s5, s6, s7, s8, s9, s10, s11⟩
          go_simp
          with_reducible rfl
         rotate_left; (simp only [putS]; rfl)
         refine pq 2 25 ?_ (upT 3 24) rfl rfl HT_ (by kernel_rfl) (fun _ _ _ h => h) (Or.inl ⟨by rfl, ?_⟩) ?_ ?_ ?_; rotate_left; (intro w'; go_simp; with_reducible rfl); rotate_left; (simp only [putS]; rfl)
         refine pq 3 26 ?_ (upT 4 23) rfl rfl HT_ (by kernel_rfl) (fun _ _ _ h => h) (Or.inl ⟨by rfl, ?_⟩) ?_ ?_ ?_; rotate_left; (intro w'; go_simp; with_reducible rfl); rotate_left; (simp only [putS]; rfl)
         refine pq 4 27 ?_ (upT 5 22) rfl rfl HT_ (by kernel_rfl) (fun _ _ _ h => h) (Or.inl ⟨by rfl, ?_⟩) ?_ ?_ ?_; rotate_left; (intro w'; go_simp; with_reducible rfl); rotate_left; (simp only [putS]; rfl)
         refine pure_ (i := 6) (N := some 29) (v := ?_) (a' := ?_) #[true, true, true, true, true, false, true, false, false, false, false, false, false, false, false, false, false, false, false, false, false, false, false, false, false, false, false] rfl rfl (any_of HT_.out (by kernel_rfl)) (fun _ _ _ h => h) (Or.inl ⟨by rfl, ?_⟩) ?_ ?_; rotate_left; (intro w'; go_simp; with_reducible rfl); rotate_left; (simp only [putS]; rfl)
         refine take_ (i := 5) (N := some 28) (v := ?_) (a' := ?_) (upT 7 20) rfl rfl (take_ofW HT_.out HW_.out (by kernel_rfl)) (fun _ _ _ h => h) (Or.inl ⟨by rfl, ?_⟩) hHeld ?_ ?_
         rotate_left
         ·
          rintro w' ⟨s0, s1, s2, s3, s4, s5, s6, s7, s8, s9, s10, s11⟩
          go_simp
          with_reducible rfl
         rotate_left; (simp only [putS]; rfl)
         refine take_ (i := 7) (N := some 30) (v := ?_) (a' := ?_) (upT 8 19) rfl rfl (take_ofW HT_.out HW_.out (by kernel_rfl)) (fun _ _ _ h => h) (Or.inl ⟨by rfl, ?_⟩) hHeld ?_ ?_
         rotate_left
         ·
          rintro w' ⟨s0, s1, s2, s3, s4, s5, s6, s7, s8, s9, s10, s11⟩
          go_simp
          with_reducible rfl
         rotate_left; (simp only [putS]; rfl)
         refine pq 8 31 ?_ (upT 9 18) rfl rfl HT_ (by kernel_rfl) (fun _ _ _ h => h) (Or.inl ⟨by rfl, ?_⟩) ?_ ?_ ?_; rotate_left; (intro w'; go_simp; with_reducible rfl); rotate_left; (simp only [putS]; rfl)
         refine pq 9 32 ?_ (upT 10 17) rfl rfl HT_ (by kernel_rfl) (fun _ _ _ h => h) (Or.inl ⟨by rfl, ?_⟩) ?_ ?_ ?_; rotate_left; (intro w'; go_simp; with_reducible rfl); rotate_left; (simp only [putS]; rfl)
         refine pq 10 33 ?_ (upT 11 16) rfl rfl HT_ (by kernel_rfl) (fun _ _ _ h => h) (Or.inl ⟨by rfl, ?_⟩) ?_ ?_ ?_; rotate_left; (intro w'; go_simp; with_reducible rfl); rotate_left; (simp only [putS]; rfl)
         refine pq 11 34 undef (upT 12 15) rfl rfl HT_ (by kernel_rfl) (fun _ _ _ h => h) (Or.inr ⟨by rfl, rfl⟩) ?_ ?_ ?_
         rotate_left; (simp only [putS]; rfl)
         refine pq 12 35 undef (upT 13 14) rfl rfl HT_ (by kernel_rfl) (fun _ _ _ h => h) (Or.inr ⟨by rfl, rfl⟩) ?_ ?_ ?_
         rotate_left; (simp only [putS]; rfl)
         refine pq 13 36 undef (upT 14 13) rfl rfl HT_ (by kernel_rfl) (fun _ _ _ h => h) (Or.inr ⟨by rfl, rfl⟩) ?_ ?_ ?_
         rotate_left; (simp only [putS]; rfl)
         refine pq 14 37 undef (upT 15 12) rfl rfl HT_ (by kernel_rfl) (fun _ _ _ h => h) (Or.inr ⟨by rfl, rfl⟩) ?_ ?_ ?_
         rotate_left; (simp only [putS]; rfl)
         refine pq 15 38 undef (upT 16 11) rfl rfl HT_ (by kernel_rfl) (fun _ _ _ h => h) (Or.inr ⟨by rfl, rfl⟩) ?_ ?_ ?_
         rotate_left; (simp only [putS]; rfl)
         refine pq 16 39 undef (upT 17 10) rfl rfl HT_ (by kernel_rfl) (fun _ _ _ h => h) (Or.inr ⟨by rfl, rfl⟩) ?_ ?_ ?_
         rotate_left; (simp only [putS]; rfl)
         refine pq 17 40 undef (upT 18 9) rfl rfl HT_ (by kernel_rfl) (fun _ _ _ h => h) (Or.inr ⟨by rfl, rfl⟩) ?_ ?_ ?_
         rotate_left; (simp only [putS]; rfl)
         refine pq 18 41 undef (upT 19 8) rfl rfl HT_ (by kernel_rfl) (fun _ _ _ h => h) (Or.inr ⟨by rfl, rfl⟩) ?_ ?_ ?_
         rotate_left; (simp only [putS]; rfl)
         refine pq 19 42 undef (upT 20 7) rfl rfl HT_ (by kernel_rfl) (fun _ _ _ h => h) (Or.inr ⟨by rfl, rfl⟩) ?_ ?_ ?_
         rotate_left; (simp only [putS]; rfl)
         refine pq 20 43 undef (upT 21 6) rfl rfl HT_ (by kernel_rfl) (fun _ _ _ h => h) (Or.inr ⟨by rfl, rfl⟩) ?_ ?_ ?_
         rotate_left; (simp only [putS]; rfl)
         refine pq 21 44 undef (upT 22 5) rfl rfl HT_ (by kernel_rfl) (fun _ _ _ h => h) (Or.inr ⟨by rfl, rfl⟩) ?_ ?_ ?_
         rotate_left; (simp only [putS]; rfl)
         refine pq 22 45 undef (upT 23 4) rfl rfl HT_ (by kernel_rfl) (fun _ _ _ h => h) (Or.inr ⟨by rfl, rfl⟩) ?_ ?_ ?_
         rotate_left; (simp only [putS]; rfl)
         refine pq 23 46 undef (upT 24 3) rfl rfl HT_ (by kernel_rfl) (fun _ _ _ h => h) (Or.inr ⟨by rfl, rfl⟩) ?_ ?_ ?_
         rotate_left; (simp only [putS]; rfl)
         refine pq 24 47 undef (upT 25 2) rfl rfl HT_ (by kernel_rfl) (fun _ _ _ h => h) (Or.inr ⟨by rfl, rfl⟩) ?_ ?_ ?_
         rotate_left; (simp only [putS]; rfl)
         refine pq 25 48 ?_ (upT 26 1) rfl rfl HT_ (by kernel_rfl) (fun _ _ _ h => h) (Or.inl ⟨by rfl, ?_⟩) ?_ ?_ ?_; rotate_left; (intro w'; go_simp; with_reducible rfl); rotate_left; (simp only [putS]; rfl)
         refine pq 26 11 ?_ (upT 27 0) rfl rfl HT_ (by kernel_rfl) (fun _ _ _ h => h) (Or.inl ⟨by rfl, ?_⟩) ?_ ?_ ?_; rotate_left; (intro w'; go_simp; with_reducible rfl); rotate_left; (simp only [putS]; rfl)
         refine done_ (done_of HT_.out (by kernel_rfl)) ?_
         try go_wp2
         go_meet
         case rel => exact ⟨_, (true), (by first | rfl | (simp; done) | (simp [*]; done)), H', ⟨by have := HK1.out; first | omega | exact Nat.le_refl _⟩, ⟨by (with_reducible repeat (first | refine blk_drewN ?_ _ | refine blk_drew ?_ | refine blk_alloc ?_ _)); exact BK122.out⟩, ⟨by (with_reducible repeat (first | refine blk_drewN ?_ _ | refine blk_drew ?_ | refine blk_alloc ?_ _)); exact BK124.out⟩, ⟨by repeat (first | (with_reducible first | exact HB.out | apply below_alloc | apply pw_below_drewN | apply below_drew1 | refine below_set ?_ GE122.out | refine below_set ?_ GE124.out) | exact HB.out)⟩⟩
        ·
         rw [if_neg c17] at H
         have c17b0 : decide (a0_3 ≤ ((rd_T32 l0_6 x15_1).f0)) = false := decide_eq_false c17
         clear c17
         by_cases c20 : x15_1 > 0
         ·
          rw [if_pos c20] at H
          have c20b0 : decide (0 < x15_1) = true := decide_eq_true c20
          clear c20
          obtain ⟨ji21, hji21⟩ : ∃ j_ : Int, (wrap64 (x15_1 - 1)) = j_ := ⟨_, rfl⟩
          replace H : (if 0 ≤ (ji21) then (if (ji21) < (l0_6.length : Int) then (pylonref10_Check.j1 k1 a1 a2 x8_1 x15_1 (decide (((rd_T32 l0_6 x15_1).f0) ≤ ((rd_T32 l0_6 (ji21)).f0))) (l0_6.length : Int) x15_1 a0_0 a0_1 a0_2 a0_3 a0_4 a0_5 l0_6 ((rd_T32 l0_6 x15_1).f0) ((rd_T32 l0_6 x15_1).f1) ((rd_T32 l0_6 x15_1).f2) ((rd_T32 l0_6 x15_1).f3) ((rd_T32 l0_6 x15_1).f4)) else (none)) else (none)) = some (r1, r2) := by first | (rw [hji21] at H; exact H) | (simp only [hji21] at H ⊢; exact H)
          have hji21w : (IntKind.i64.wrap (x15_1 - 1)) = ji21 := (i64_w _).trans hji21
          by_cases c22 : 0 ≤ (ji21)
          ·
           rw [if_pos c22] at H
           have c22b0 : decide (0 ≤ (ji21)) = true := decide_eq_true c22
           clear c22
           by_cases c23 : (ji21) < (l0_6.length : Int)
           ·
            rw [if_pos c23] at H
            have c23b0 : decide ((ji21) < (l0_6.length : Int)) = true := decide_eq_true c23
            clear c23
            have H' := Aside0.mk H
            clear H
            try go_wp2
            have n0_ : Aside0 ((((((w11.setCell ⟨gb124, 0, none⟩ (.int .i64 ((rd_T32 l0_6 x15_1).f0))).setCell ⟨gb124, 1, none⟩ (.int .i64 ((rd_T32 l0_6 x15_1).f1))).setCell ⟨gb124, 2, none⟩ (.int .i64 ((rd_T32 l0_6 x15_1).f2))).setCell ⟨gb124, 3, none⟩ (.int .i64 ((rd_T32 l0_6 x15_1).f3))).setCell ⟨gb124, 4, none⟩ (.int .u8 ((rd_T32 l0_6 x15_1).f4))).heap[gb122]? = some (.cells #[.string a0_0, .int .i64 a0_1, .int .i64 a0_2, .int .i64 a0_3, .int .i64 a0_4, .int .i64 a0_5, .slice (some ad123) l0_6.length c0_6] 24 (0, 0))) := ⟨by (with_reducible repeat (first | refine blk_drewN ?_ _ | refine blk_drew ?_ | refine blk_alloc ?_ _)); refine blk_far ?_ NB122_124.out _; (with_reducible repeat (first | refine blk_drewN ?_ _ | refine blk_drew ?_ | refine blk_alloc ?_ _)); refine blk_far ?_ NB122_124.out _; (with_reducible repeat (first | refine blk_drewN ?_ _ | refine blk_drew ?_ | refine blk_alloc ?_ _)); refine blk_far ?_ NB122_124.out _; (with_reducible repeat (first | refine blk_drewN ?_ _ | refine blk_drew ?_ | refine blk_alloc ?_ _)); refine blk_far ?_ NB122_124.out _; (with_reducible repeat (first | refine blk_drewN ?_ _ | refine blk_drew ?_ | refine blk_alloc ?_ _)); refine blk_far ?_ NB122_124.out _; (with_reducible repeat (first | refine blk_drewN ?_ _ | refine blk_drew ?_ | refine blk_alloc ?_ _)); exact BK122.out⟩
            have n1_ : Aside0 ((((((w11.setCell ⟨gb124, 0, none⟩ (.int .i64 ((rd_T32 l0_6 x15_1).f0))).setCell ⟨gb124, 1, none⟩ (.int .i64 ((rd_T32 l0_6 x15_1).f1))).setCell ⟨gb124, 2, none⟩ (.int .i64 ((rd_T32 l0_6 x15_1).f2))).setCell ⟨gb124, 3, none⟩ (.int .i64 ((rd_T32 l0_6 x15_1).f3))).setCell ⟨gb124, 4, none⟩ (.int .u8 ((rd_T32 l0_6 x15_1).f4))).heap[gb124]? = some (.cells #[.int .i64 ((rd_T32 l0_6 x15_1).f0), .int .i64 ((rd_T32 l0_6 x15_1).f1), .int .i64 ((rd_T32 l0_6 x15_1).f2), .int .i64 ((rd_T32 l0_6 x15_1).f3), .int .u8 ((rd_T32 l0_6 x15_1).f4)] 32 (0, 0))) := ⟨by (with_reducible repeat (first | refine blk_drewN ?_ _ | refine blk_drew ?_ | refine blk_alloc ?_ _)); refine blk_put (cs := #[.int .i64 ((rd_T32 l0_6 x15_1).f0), .int .i64 ((rd_T32 l0_6 x15_1).f1), .int .i64 ((rd_T32 l0_6 x15_1).f2), .int .i64 ((rd_T32 l0_6 x15_1).f3), .int .u8 0]) ?_ 4 _ rfl; (with_reducible repeat (first | refine blk_drewN ?_ _ | refine blk_drew ?_ | refine blk_alloc ?_ _)); refine blk_put (cs := #[.int .i64 ((rd_T32 l0_6 x15_1).f0), .int .i64 ((rd_T32 l0_6 x15_1).f1), .int .i64 ((rd_T32 l0_6 x15_1).f2), .int .i64 0, .int .u8 0]) ?_ 3 _ rfl; (with_reducible repeat (first | refine blk_drewN ?_ _ | refine blk_drew ?_ | refine blk_alloc ?_ _)); refine blk_put (cs := #[.int .i64 ((rd_T32 l0_6 x15_1).f0), .int .i64 ((rd_T32 l0_6 x15_1).f1), .int .i64 0, .int .i64 0, .int .u8 0]) ?_ 2 _ rfl; (with_reducible repeat (first | refine blk_drewN ?_ _ | refine blk_drew ?_ | refine blk_alloc ?_ _)); refine blk_put (cs := #[.int .i64 ((rd_T32 l0_6 x15_1).f0), .int .i64 0, .int .i64 0, .int .i64 0, .int .u8 0]) ?_ 1 _ rfl; (with_reducible repeat (first | refine blk_drewN ?_ _ | refine blk_drew ?_ | refine blk_alloc ?_ _)); refine blk_put (cs := #[.int .i64 0, .int .i64 0, .int .i64 0, .int .i64 0, .int .u8 0]) ?_ 0 _ rfl; (with_reducible repeat (first | refine blk_drewN ?_ _ | refine blk_drew ?_ | refine blk_alloc ?_ _)); exact BK124.out⟩
            have n2_ : Aside0 (Below w.heap.size w (((((w11.setCell ⟨gb124, 0, none⟩ (.int .i64 ((rd_T32 l0_6 x15_1).f0))).setCell ⟨gb124, 1, none⟩ (.int .i64 ((rd_T32 l0_6 x15_1).f1))).setCell ⟨gb124, 2, none⟩ (.int .i64 ((rd_T32 l0_6 x15_1).f2))).setCell ⟨gb124, 3, none⟩ (.int .i64 ((rd_T32 l0_6 x15_1).f3))).setCell ⟨gb124, 4, none⟩ (.int .u8 ((rd_T32 l0_6 x15_1).f4)))) := ⟨by repeat (first | (with_reducible first | exact HB.out | apply below_alloc | apply pw_below_drewN | apply below_drew1 | refine below_set ?_ GE122.out | refine below_set ?_ GE124.out) | exact HB.out)⟩
            (try clear BK122)
            (try clear BK124)
            (try clear HB)
            generalize (((((w11.setCell ⟨gb124, 0, none⟩ (.int .i64 ((rd_T32 l0_6 x15_1).f0))).setCell ⟨gb124, 1, none⟩ (.int .i64 ((rd_T32 l0_6 x15_1).f1))).setCell ⟨gb124, 2, none⟩ (.int .i64 ((rd_T32 l0_6 x15_1).f2))).setCell ⟨gb124, 3, none⟩ (.int .i64 ((rd_T32 l0_6 x15_1).f3))).setCell ⟨gb124, 4, none⟩ (.int .u8 ((rd_T32 l0_6 x15_1).f4))) = w24 at n0_ n1_ n2_ ⊢
            have BK122 := n0_
            have BK124 := n1_
            have HB := n2_
            clear n0_ n1_ n2_
            have n0_ := Aside0.mk (blk_drew BK122.out)
            have n1_ := Aside0.mk (blk_drew BK124.out)
            have n2_ := Aside0.mk (below_drew1 HB.out)
            clear BK122
            clear BK124
            clear HB
            have BK122 := n0_
            have BK124 := n1_
            have HB := n2_
            clear n0_ n1_ n2_
            have p125 : 0 ≤ ((ji21) : Int) := of_decide_eq_true (by first | (with_reducible assumption) | assumption)
            have q125 : (ji21) < (l0_6.length : Int) := of_decide_eq_true (by first | (with_reducible assumption) | assumption)
            obtain ⟨ad125, e125, hx125_0, hx125_1, hx125_2, hx125_3, hx125_4⟩ := at_T32 HR0_6.out (ji21) p125 q125
            have hw125_4 := hx125_4
            have hw125_3 := hx125_3
            have hw125_2 := hx125_2
            have hw125_1 := hx125_1
            have hw125_0 := hx125_0
            obtain rfl : ad123 = ad125 := (by injection e125)
            replace hx125_0 := (HB.out.cell (World.block_lt_of_cell? w _ hx125_0)).trans hx125_0
            replace hx125_1 := (HB.out.cell (World.block_lt_of_cell? w _ hx125_1)).trans hx125_1
            replace hx125_2 := (HB.out.cell (World.block_lt_of_cell? w _ hx125_2)).trans hx125_2
            replace hx125_3 := (HB.out.cell (World.block_lt_of_cell? w _ hx125_3)).trans hx125_3
            replace hx125_4 := (HB.out.cell (World.block_lt_of_cell? w _ hx125_4)).trans hx125_4
            replace p125 := eq_true p125
            replace q125 := eq_true q125
            refine start_ (n := 27) (S := fun w' => w'.cell? ⟨gb124, 0, none⟩ = some (.int .i64 ((rd_T32 l0_6 x15_1).f0)) ∧ w'.cell? ⟨gb124, 1, none⟩ = some (.int .i64 ((rd_T32 l0_6 x15_1).f1)) ∧ w'.cell? ⟨gb124, 2, none⟩ = some (.int .i64 ((rd_T32 l0_6 x15_1).f2)) ∧ w'.cell? ⟨gb124, 3, none⟩ = some (.int .i64 ((rd_T32 l0_6 x15_1).f3)) ∧ w'.cell? ⟨gb124, 4, none⟩ = some (.int .u8 ((rd_T32 l0_6 x15_1).f4)) ∧ w'.cell? ⟨gb122, 0, none⟩ = some (.string a0_0) ∧ w'.cell? ⟨gb122, 1, none⟩ = some (.int .i64 a0_1) ∧ w'.cell? ⟨gb122, 2, none⟩ = some (.int .i64 a0_2) ∧ w'.cell? ⟨gb122, 3, none⟩ = some (.int .i64 a0_3) ∧ w'.cell? ⟨gb122, 4, none⟩ = some (.int .i64 a0_4) ∧ w'.cell? ⟨gb122, 5, none⟩ = some (.int .i64 a0_5) ∧ w'.cell? ⟨gb122, 6, none⟩ = some (.slice (some ad123) l0_6.length c0_6) ∧ w'.cell? (ad123.add (((ji21)).toNat * 5)) = some (.int .i64 ((rd_T32 l0_6 (ji21)).f0)) ∧ w'.cell? ⟨(ad123.add (((ji21)).toNat * 5)).block, (ad123.add (((ji21)).toNat * 5)).off + 1, none⟩ = some (.int .i64 ((rd_T32 l0_6 (ji21)).f1)) ∧ w'.cell? ⟨(ad123.add (((ji21)).toNat * 5)).block, (ad123.add (((ji21)).toNat * 5)).off + 2, none⟩ = some (.int .i64 ((rd_T32 l0_6 (ji21)).f2)) ∧ w'.cell? ⟨(ad123.add (((ji21)).toNat * 5)).block, (ad123.add (((ji21)).toNat * 5)).off + 3, none⟩ = some (.int .i64 ((rd_T32 l0_6 (ji21)).f3)) ∧ w'.cell? ⟨(ad123.add (((ji21)).toNat * 5)).block, (ad123.add (((ji21)).toNat * 5)).off + 4, none⟩ = some (.int .u8 ((rd_T32 l0_6 (ji21)).f4))) (ds := []) (upT 0 27) (by kernel_rfl) rfl rfl ⟨(blk_cell BK124.out 0).trans rfl, (blk_cell BK124.out 1).trans rfl, (blk_cell BK124.out 2).trans rfl, (blk_cell BK124.out 3).trans rfl, (blk_cell BK124.out 4).trans rfl, (blk_cell BK122.out 0).trans rfl, (blk_cell BK122.out 1).trans rfl, (blk_cell BK122.out 2).trans rfl, (blk_cell BK122.out 3).trans rfl, (blk_cell BK122.out 4).trans rfl, (blk_cell BK122.out 5).trans rfl, (blk_cell BK122.out 6).trans rfl, ((HB.out.cell (World.block_lt_of_cell? w _ hw125_0)).trans hw125_0), ((HB.out.cell (World.block_lt_of_cell? w _ hw125_1)).trans hw125_1), ((HB.out.cell (World.block_lt_of_cell? w _ hw125_2)).trans hw125_2), ((HB.out.cell (World.block_lt_of_cell? w _ hw125_3)).trans hw125_3), ((HB.out.cell (World.block_lt_of_cell? w _ hw125_4)).trans hw125_4)⟩ (fun hHeld => ?_); refine with_tabW pylonref10_Check.tab6 pylonref10_Check.bits6 (fun HT_ HW_ => ?_)
            generalize w24.drew = w25 at BK122 BK124 HB hx125_0 hx125_1 hx125_2 hx125_3 hx125_4 hHeld ⊢
            refine pq 0 23 ?_ (upT 1 26) rfl rfl HT_ (by kernel_rfl) (fun _ _ _ h => h) (Or.inl ⟨by rfl, ?_⟩) ?_ ?_ ?_; rotate_left; (intro w'; go_simp; with_reducible rfl); rotate_left; (simp only [putS]; rfl)
            refine take_ (i := 1) (N := some 24) (v := ?_) (a' := ?_) (upT 2 25) rfl rfl (take_ofW HT_.out HW_.out (by kernel_rfl)) (fun _ _ _ h => h) (Or.inl ⟨by rfl, ?_⟩) hHeld ?_ ?_
            rotate_left
            ·
             rintro w' ⟨s0, s1, s2, s3, s4, s5, s6, s7, s8, s9, s10, s11, s12, s13, s14, s15, s16⟩
             go_simp
             with_reducible rfl
            rotate_left; (simp only [putS]; rfl)
            refine pq 2 25 ?_ (upT 3 24) rfl rfl HT_ (by kernel_rfl) (fun _ _ _ h => h) (Or.inl ⟨by rfl, ?_⟩) ?_ ?_ ?_; rotate_left; (intro w'; go_simp; with_reducible rfl); rotate_left; (simp only [putS]; rfl)
            refine pq 3 26 ?_ (upT 4 23) rfl rfl HT_ (by kernel_rfl) (fun _ _ _ h => h) (Or.inl ⟨by rfl, ?_⟩) ?_ ?_ ?_; rotate_left; (intro w'; go_simp; with_reducible rfl); rotate_left; (simp only [putS]; rfl)
            refine pq 4 27 ?_ (upT 5 22) rfl rfl HT_ (by kernel_rfl) (fun _ _ _ h => h) (Or.inl ⟨by rfl, ?_⟩) ?_ ?_ ?_; rotate_left; (intro w'; go_simp; with_reducible rfl); rotate_left; (simp only [putS]; rfl)
            refine pure_ (i := 6) (N := some 29) (v := ?_) (a' := ?_) #[true, true, true, true, true, false, true, false, false, false, false, false, false, false, false, false, false, false, false, false, false, false, false, false, false, false, false] rfl rfl (any_of HT_.out (by kernel_rfl)) (fun _ _ _ h => h) (Or.inl ⟨by rfl, ?_⟩) ?_ ?_; rotate_left; (intro w'; go_simp; with_reducible rfl); rotate_left; (simp only [putS]; rfl)
            refine take_ (i := 5) (N := some 28) (v := ?_) (a' := ?_) (upT 7 20) rfl rfl (take_ofW HT_.out HW_.out (by kernel_rfl)) (fun _ _ _ h => h) (Or.inl ⟨by rfl, ?_⟩) hHeld ?_ ?_
            rotate_left
            ·
             rintro w' ⟨s0, s1, s2, s3, s4, s5, s6, s7, s8, s9, s10, s11, s12, s13, s14, s15, s16⟩
             go_simp
             with_reducible rfl
            rotate_left; (simp only [putS]; rfl)
            refine take_ (i := 7) (N := some 30) (v := ?_) (a' := ?_) (upT 8 19) rfl rfl (take_ofW HT_.out HW_.out (by kernel_rfl)) (fun _ _ _ h => h) (Or.inl ⟨by rfl, ?_⟩) hHeld ?_ ?_
            rotate_left
            ·
             rintro w' ⟨s0, s1, s2, s3, s4, s5, s6, s7, s8, s9, s10, s11, s12, s13, s14, s15, s16⟩
             go_simp
             with_reducible rfl
            rotate_left; (simp only [putS]; rfl)
            refine pq 8 31 ?_ (upT 9 18) rfl rfl HT_ (by kernel_rfl) (fun _ _ _ h => h) (Or.inl ⟨by rfl, ?_⟩) ?_ ?_ ?_; rotate_left; (intro w'; go_simp; with_reducible rfl); rotate_left; (simp only [putS]; rfl)
            refine pq 9 32 ?_ (upT 10 17) rfl rfl HT_ (by kernel_rfl) (fun _ _ _ h => h) (Or.inl ⟨by rfl, ?_⟩) ?_ ?_ ?_; rotate_left; (intro w'; go_simp; with_reducible rfl); rotate_left; (simp only [putS]; rfl)
            refine pq 10 33 ?_ (upT 11 16) rfl rfl HT_ (by kernel_rfl) (fun _ _ _ h => h) (Or.inl ⟨by rfl, ?_⟩) ?_ ?_ ?_; rotate_left; (intro w'; go_simp; with_reducible rfl); rotate_left; (simp only [putS]; rfl)
            refine pq 11 34 ?_ (upT 12 15) rfl rfl HT_ (by kernel_rfl) (fun _ _ _ h => h) (Or.inl ⟨by rfl, ?_⟩) ?_ ?_ ?_; rotate_left; (intro w'; go_simp; with_reducible rfl); rotate_left; (simp only [putS]; rfl)
            refine pq 12 35 ?_ (upT 13 14) rfl rfl HT_ (by kernel_rfl) (fun _ _ _ h => h) (Or.inl ⟨by rfl, ?_⟩) ?_ ?_ ?_; rotate_left; (intro w'; go_simp; with_reducible rfl); rotate_left; (simp only [putS]; rfl)
            refine pq 13 36 ?_ (upT 14 13) rfl rfl HT_ (by kernel_rfl) (fun _ _ _ h => h) (Or.inl ⟨by rfl, ?_⟩) ?_ ?_ ?_; rotate_left; (intro w'; go_simp; with_reducible rfl); rotate_left; (simp only [putS]; rfl)
            refine pq 14 37 ?_ (upT 15 12) rfl rfl HT_ (by kernel_rfl) (fun _ _ _ h => h) (Or.inl ⟨by rfl, ?_⟩) ?_ ?_ ?_; rotate_left; (intro w'; go_simp; with_reducible rfl); rotate_left; (simp only [putS]; rfl)
            refine pure_ (i := 16) (N := some 39) (v := ?_) (a' := ?_) #[true, true, true, true, true, true, true, true, true, true, true, true, true, true, true, false, true, false, false, false, false, false, false, false, false, false, false] rfl rfl (any_of HT_.out (by kernel_rfl)) (fun _ _ _ h => h) (Or.inl ⟨by rfl, ?_⟩) ?_ ?_; rotate_left; (intro w'; go_simp; with_reducible rfl); rotate_left; (simp only [putS]; rfl)
            refine pure_ (i := 18) (N := some 41) (v := ?_) (a' := ?_) #[true, true, true, true, true, true, true, true, true, true, true, true, true, true, true, false, true, false, true, false, false, false, false, false, false, false, false] rfl rfl (any_of HT_.out (by kernel_rfl)) (fun _ _ _ h => h) (Or.inl ⟨by rfl, ?_⟩) ?_ ?_; rotate_left; (intro w'; go_simp; with_reducible rfl); rotate_left; (simp only [putS]; rfl)
            refine pure_ (i := 19) (N := some 42) (v := ?_) (a' := ?_) #[true, true, true, true, true, true, true, true, true, true, true, true, true, true, true, false, true, false, true, true, false, false, false, false, false, false, false] rfl rfl (any_of HT_.out (by kernel_rfl)) (fun _ _ _ h => h) (Or.inl ⟨by rfl, ?_⟩) ?_ ?_; rotate_left; (intro w'; go_simp; with_reducible rfl); rotate_left; (simp only [putS]; rfl)
            refine take_ (i := 15) (N := some 38) (v := ?_) (a' := ?_) #[true, true, true, true, true, true, true, true, true, true, true, true, true, true, true, true, true, false, true, true, false, false, false, false, false, false, false] rfl rfl (take_ofW HT_.out HW_.out (by kernel_rfl)) (fun _ _ _ h => h) (Or.inl ⟨by rfl, ?_⟩) hHeld ?_ ?_
            rotate_left
            ·
             rintro w' ⟨s0, s1, s2, s3, s4, s5, s6, s7, s8, s9, s10, s11, s12, s13, s14, s15, s16⟩
             go_simp
             with_reducible rfl
            rotate_left; (simp only [putS]; rfl)
            refine take_ (i := 17) (N := some 40) (v := ?_) (a' := ?_) (upT 20 7) rfl rfl (take_ofW HT_.out HW_.out (by kernel_rfl)) (fun _ _ _ h => h) (Or.inl ⟨by rfl, ?_⟩) hHeld ?_ ?_
            rotate_left
            ·
             rintro w' ⟨s0, s1, s2, s3, s4, s5, s6, s7, s8, s9, s10, s11, s12, s13, s14, s15, s16⟩
             go_simp
             with_reducible rfl
            rotate_left; (simp only [putS]; rfl)
            refine pq 20 43 ?_ (upT 21 6) rfl rfl HT_ (by kernel_rfl) (fun _ _ _ h => h) (Or.inl ⟨by rfl, ?_⟩) ?_ ?_ ?_; rotate_left; (intro w'; go_simp; with_reducible rfl); rotate_left; (simp only [putS]; rfl)
            refine pq 21 44 ?_ (upT 22 5) rfl rfl HT_ (by kernel_rfl) (fun _ _ _ h => h) (Or.inl ⟨by rfl, ?_⟩) ?_ ?_ ?_; rotate_left; (intro w'; go_simp; with_reducible rfl); rotate_left; (simp only [putS]; rfl)
            refine take_ (i := 22) (N := some 45) (v := ?_) (a' := ?_) (upT 23 4) rfl rfl (take_ofW HT_.out HW_.out (by kernel_rfl)) (fun _ _ _ h => h) (Or.inl ⟨by rfl, ?_⟩) hHeld ?_ ?_
            rotate_left
            ·
             rintro w' ⟨s0, s1, s2, s3, s4, s5, s6, s7, s8, s9, s10, s11, s12, s13, s14, s15, s16⟩
             go_simp
             with_reducible rfl
            rotate_left; (simp only [putS]; rfl)
            refine pq 23 46 ?_ (upT 24 3) rfl rfl HT_ (by kernel_rfl) (fun _ _ _ h => h) (Or.inl ⟨by rfl, ?_⟩) ?_ ?_ ?_; rotate_left; (intro w'; go_simp; with_reducible rfl); rotate_left; (simp only [putS]; rfl)
            refine pq 24 47 ?_ (upT 25 2) rfl rfl HT_ (by kernel_rfl) (fun _ _ _ h => h) (Or.inl ⟨by rfl, ?_⟩) ?_ ?_ ?_; rotate_left; (intro w'; go_simp; with_reducible rfl); rotate_left; (simp only [putS]; rfl)
            refine pq 25 48 ?_ (upT 26 1) rfl rfl HT_ (by kernel_rfl) (fun _ _ _ h => h) (Or.inl ⟨by rfl, ?_⟩) ?_ ?_ ?_; rotate_left; (intro w'; go_simp; with_reducible rfl); rotate_left; (simp only [putS]; rfl)
            refine pq 26 11 ?_ (upT 27 0) rfl rfl HT_ (by kernel_rfl) (fun _ _ _ h => h) (Or.inl ⟨by rfl, ?_⟩) ?_ ?_ ?_; rotate_left; (intro w'; go_simp; with_reducible rfl); rotate_left; (simp only [putS]; rfl)
            refine done_ (done_of HT_.out (by kernel_rfl)) ?_
            try go_wp2
            go_meet
            case rel => exact ⟨_, (decide (((rd_T32 l0_6 x15_1).f0) ≤ ((rd_T32 l0_6 (ji21)).f0))), (by first | rfl | (simp; done) | (simp only [← hji21] <;> (first | rfl | simp)) | (simp [*]; done) | (by_cases hdp0_ : ((rd_T32 l0_6 x15_1).f0) ≤ ((rd_T32 l0_6 (ji21)).f0) <;> simp [*] <;> done)), H', ⟨by have := HK1.out; first | omega | exact Nat.le_refl _⟩, ⟨by (with_reducible repeat (first | refine blk_drewN ?_ _ | refine blk_drew ?_ | refine blk_alloc ?_ _)); exact BK122.out⟩, ⟨by (with_reducible repeat (first | refine blk_drewN ?_ _ | refine blk_drew ?_ | refine blk_alloc ?_ _)); exact BK124.out⟩, ⟨by repeat (first | (with_reducible first | exact HB.out | apply below_alloc | apply pw_below_drewN | apply below_drew1 | refine below_set ?_ GE122.out | refine below_set ?_ GE124.out) | exact HB.out)⟩⟩
           ·
            rw [if_neg c23] at H
            exact absurd H (by simp)
          ·
           rw [if_neg c22] at H
           exact absurd H (by simp)
         ·
          rw [if_neg c20] at H
          have c20b0 : decide (0 < x15_1) = false := decide_eq_false c20
          clear c20
          have H' := Aside0.mk H
          clear H
          try go_wp2
          have n0_ : Aside0 ((((((w11.setCell ⟨gb124, 0, none⟩ (.int .i64 ((rd_T32 l0_6 x15_1).f0))).setCell ⟨gb124, 1, none⟩ (.int .i64 ((rd_T32 l0_6 x15_1).f1))).setCell ⟨gb124, 2, none⟩ (.int .i64 ((rd_T32 l0_6 x15_1).f2))).setCell ⟨gb124, 3, none⟩ (.int .i64 ((rd_T32 l0_6 x15_1).f3))).setCell ⟨gb124, 4, none⟩ (.int .u8 ((rd_T32 l0_6 x15_1).f4))).heap[gb122]? = some (.cells #[.string a0_0, .int .i64 a0_1, .int .i64 a0_2, .int .i64 a0_3, .int .i64 a0_4, .int .i64 a0_5, .slice (some ad123) l0_6.length c0_6] 24 (0, 0))) := ⟨by (with_reducible repeat (first | refine blk_drewN ?_ _ | refine blk_drew ?_ | refine blk_alloc ?_ _)); refine blk_far ?_ NB122_124.out _; (with_reducible repeat (first | refine blk_drewN ?_ _ | refine blk_drew ?_ | refine blk_alloc ?_ _)); refine blk_far ?_ NB122_124.out _; (with_reducible repeat (first | refine blk_drewN ?_ _ | refine blk_drew ?_ | refine blk_alloc ?_ _)); refine blk_far ?_ NB122_124.out _; (with_reducible repeat (first | refine blk_drewN ?_ _ | refine blk_drew ?_ | refine blk_alloc ?_ _)); refine blk_far ?_ NB122_124.out _; (with_reducible repeat (first | refine blk_drewN ?_ _ | refine blk_drew ?_ | refine blk_alloc ?_ _)); refine blk_far ?_ NB122_124.out _; (with_reducible repeat (first | refine blk_drewN ?_ _ | refine blk_drew ?_ | refine blk_alloc ?_ _)); exact BK122.out⟩
          have n1_ : Aside0 ((((((w11.setCell ⟨gb124, 0, none⟩ (.int .i64 ((rd_T32 l0_6 x15_1).f0))).setCell ⟨gb124, 1, none⟩ (.int .i64 ((rd_T32 l0_6 x15_1).f1))).setCell ⟨gb124, 2, none⟩ (.int .i64 ((rd_T32 l0_6 x15_1).f2))).setCell ⟨gb124, 3, none⟩ (.int .i64 ((rd_T32 l0_6 x15_1).f3))).setCell ⟨gb124, 4, none⟩ (.int .u8 ((rd_T32 l0_6 x15_1).f4))).heap[gb124]? = some (.cells #[.int .i64 ((rd_T32 l0_6 x15_1).f0), .int .i64 ((rd_T32 l0_6 x15_1).f1), .int .i64 ((rd_T32 l0_6 x15_1).f2), .int .i64 ((rd_T32 l0_6 x15_1).f3), .int .u8 ((rd_T32 l0_6 x15_1).f4)] 32 (0, 0))) := ⟨by (with_reducible repeat (first | refine blk_drewN ?_ _ | refine blk_drew ?_ | refine blk_alloc ?_ _)); refine blk_put (cs := #[.int .i64 ((rd_T32 l0_6 x15_1).f0), .int .i64 ((rd_T32 l0_6 x15_1).f1), .int .i64 ((rd_T32 l0_6 x15_1).f2), .int .i64 ((rd_T32 l0_6 x15_1).f3), .int .u8 0]) ?_ 4 _ rfl; (with_reducible repeat (first | refine blk_drewN ?_ _ | refine blk_drew ?_ | refine blk_alloc ?_ _)); refine blk_put (cs := #[.int .i64 ((rd_T32 l0_6 x15_1).f0), .int .i64 ((rd_T32 l0_6 x15_1).f1), .int .i64 ((rd_T32 l0_6 x15_1).f2), .int .i64 0, .int .u8 0]) ?_ 3 _ rfl; (with_reducible repeat (first | refine blk_drewN ?_ _ | refine blk_drew ?_ | refine blk_alloc ?_ _)); refine blk_put (cs := #[.int .i64 ((rd_T32 l0_6 x15_1).f0), .int .i64 ((rd_T32 l0_6 x15_1).f1), .int .i64 0, .int .i64 0, .int .u8 0]) ?_ 2 _ rfl; (with_reducible repeat (first | refine blk_drewN ?_ _ | refine blk_drew ?_ | refine blk_alloc ?_ _)); refine blk_put (cs := #[.int .i64 ((rd_T32 l0_6 x15_1).f0), .int .i64 0, .int .i64 0, .int .i64 0, .int .u8 0]) ?_ 1 _ rfl; (with_reducible repeat (first | refine blk_drewN ?_ _ | refine blk_drew ?_ | refine blk_alloc ?_ _)); refine blk_put (cs := #[.int .i64 0, .int .i64 0, .int .i64 0, .int .i64 0, .int .u8 0]) ?_ 0 _ rfl; (with_reducible repeat (first | refine blk_drewN ?_ _ | refine blk_drew ?_ | refine blk_alloc ?_ _)); exact BK124.out⟩
          have n2_ : Aside0 (Below w.heap.size w (((((w11.setCell ⟨gb124, 0, none⟩ (.int .i64 ((rd_T32 l0_6 x15_1).f0))).setCell ⟨gb124, 1, none⟩ (.int .i64 ((rd_T32 l0_6 x15_1).f1))).setCell ⟨gb124, 2, none⟩ (.int .i64 ((rd_T32 l0_6 x15_1).f2))).setCell ⟨gb124, 3, none⟩ (.int .i64 ((rd_T32 l0_6 x15_1).f3))).setCell ⟨gb124, 4, none⟩ (.int .u8 ((rd_T32 l0_6 x15_1).f4)))) := ⟨by repeat (first | (with_reducible first | exact HB.out | apply below_alloc | apply pw_below_drewN | apply below_drew1 | refine below_set ?_ GE122.out | refine below_set ?_ GE124.out) | exact HB.out)⟩
          (try clear BK122)
          (try clear BK124)
          (try clear HB)
          generalize (((((w11.setCell ⟨gb124, 0, none⟩ (.int .i64 ((rd_T32 l0_6 x15_1).f0))).setCell ⟨gb124, 1, none⟩ (.int .i64 ((rd_T32 l0_6 x15_1).f1))).setCell ⟨gb124, 2, none⟩ (.int .i64 ((rd_T32 l0_6 x15_1).f2))).setCell ⟨gb124, 3, none⟩ (.int .i64 ((rd_T32 l0_6 x15_1).f3))).setCell ⟨gb124, 4, none⟩ (.int .u8 ((rd_T32 l0_6 x15_1).f4))) = w26 at n0_ n1_ n2_ ⊢
          have BK122 := n0_
          have BK124 := n1_
          have HB := n2_
          clear n0_ n1_ n2_
          have n0_ := Aside0.mk (blk_drew BK122.out)
          have n1_ := Aside0.mk (blk_drew BK124.out)
          have n2_ := Aside0.mk (below_drew1 HB.out)
          clear BK122
          clear BK124
          clear HB
          have BK122 := n0_
          have BK124 := n1_
          have HB := n2_
          clear n0_ n1_ n2_
          refine start_ (n := 27) (S := fun w' => w'.cell? ⟨gb124, 0, none⟩ = some (.int .i64 ((rd_T32 l0_6 x15_1).f0)) ∧ w'.cell? ⟨gb124, 1, none⟩ = some (.int .i64 ((rd_T32 l0_6 x15_1).f1)) ∧ w'.cell? ⟨gb124, 2, none⟩ = some (.int .i64 ((rd_T32 l0_6 x15_1).f2)) ∧ w'.cell? ⟨gb124, 3, none⟩ = some (.int .i64 ((rd_T32 l0_6 x15_1).f3)) ∧ w'.cell? ⟨gb124, 4, none⟩ = some (.int .u8 ((rd_T32 l0_6 x15_1).f4)) ∧ w'.cell? ⟨gb122, 0, none⟩ = some (.string a0_0) ∧ w'.cell? ⟨gb122, 1, none⟩ = some (.int .i64 a0_1) ∧ w'.cell? ⟨gb122, 2, none⟩ = some (.int .i64 a0_2) ∧ w'.cell? ⟨gb122, 3, none⟩ = some (.int .i64 a0_3) ∧ w'.cell? ⟨gb122, 4, none⟩ = some (.int .i64 a0_4) ∧ w'.cell? ⟨gb122, 5, none⟩ = some (.int .i64 a0_5) ∧ w'.cell? ⟨gb122, 6, none⟩ = some (.slice (some ad123) l0_6.length c0_6)) (ds := []) (upT 0 27) (by kernel_rfl) rfl rfl ⟨(blk_cell BK124.out 0).trans rfl, (blk_cell BK124.out 1).trans rfl, (blk_cell BK124.out 2).trans rfl, (blk_cell BK124.out 3).trans rfl, (blk_cell BK124.out 4).trans rfl, (blk_cell BK122.out 0).trans rfl, (blk_cell BK122.out 1).trans rfl, (blk_cell BK122.out 2).trans rfl, (blk_cell BK122.out 3).trans rfl, (blk_cell BK122.out 4).trans rfl, (blk_cell BK122.out 5).trans rfl, (blk_cell BK122.out 6).trans rfl⟩ (fun hHeld => ?_); refine with_tabW pylonref10_Check.tab6 pylonref10_Check.bits6 (fun HT_ HW_ => ?_)
          generalize w26.drew = w27 at BK122 BK124 HB hHeld ⊢
          refine pq 0 23 ?_ (upT 1 26) rfl rfl HT_ (by kernel_rfl) (fun _ _ _ h => h) (Or.inl ⟨by rfl, ?_⟩) ?_ ?_ ?_; rotate_left; (intro w'; go_simp; with_reducible rfl); rotate_left; (simp only [putS]; rfl)
          refine take_ (i := 1) (N := some 24) (v := ?_) (a' := ?_) (upT 2 25) rfl rfl (take_ofW HT_.out HW_.out (by kernel_rfl)) (fun _ _ _ h => h) (Or.inl ⟨by rfl, ?_⟩) hHeld ?_ ?_
          rotate_left
          ·
           rintro w' ⟨s0, s1, s2, s3, s4, s5, s6, s7, s8, s9, s10, s11⟩
           go_simp
           with_reducible rfl
          rotate_left; (simp only [putS]; rfl)
          refine pq 2 25 ?_ (upT 3 24) rfl rfl HT_ (by kernel_rfl) (fun _ _ _ h => h) (Or.inl ⟨by rfl, ?_⟩) ?_ ?_ ?_; rotate_left; (intro w'; go_simp; with_reducible rfl); rotate_left; (simp only [putS]; rfl)
          refine pq 3 26 ?_ (upT 4 23) rfl rfl HT_ (by kernel_rfl) (fun _ _ _ h => h) (Or.inl ⟨by rfl, ?_⟩) ?_ ?_ ?_; rotate_left; (intro w'; go_simp; with_reducible rfl); rotate_left; (simp only [putS]; rfl)
          refine pq 4 27 ?_ (upT 5 22) rfl rfl HT_ (by kernel_rfl) (fun _ _ _ h => h) (Or.inl ⟨by rfl, ?_⟩) ?_ ?_ ?_; rotate_left; (intro w'; go_simp; with_reducible rfl); rotate_left; (simp only [putS]; rfl)
          refine pure_ (i := 6) (N := some 29) (v := ?_) (a' := ?_) #[true, true, true, true, true, false, true, false, false, false, false, false, false, false, false, false, false, false, false, false, false, false, false, false, false, false, false] rfl rfl (any_of HT_.out (by kernel_rfl)) (fun _ _ _ h => h) (Or.inl ⟨by rfl, ?_⟩) ?_ ?_; rotate_left; (intro w'; go_simp; with_reducible rfl); rotate_left; (simp only [putS]; rfl)
          refine take_ (i := 5) (N := some 28) (v := ?_) (a' := ?_) (upT 7 20) rfl rfl (take_ofW HT_.out HW_.out (by kernel_rfl)) (fun _ _ _ h => h) (Or.inl ⟨by rfl, ?_⟩) hHeld ?_ ?_
          rotate_left
          ·
           rintro w' ⟨s0, s1, s2, s3, s4, s5, s6, s7, s8, s9, s10, s11⟩
           go_simp
           with_reducible rfl
          rotate_left; (simp only [putS]; rfl)
          refine take_ (i := 7) (N := some 30) (v := ?_) (a' := ?_) (upT 8 19) rfl rfl (take_ofW HT_.out HW_.out (by kernel_rfl)) (fun _ _ _ h => h) (Or.inl ⟨by rfl, ?_⟩) hHeld ?_ ?_
          rotate_left
          ·
           rintro w' ⟨s0, s1, s2, s3, s4, s5, s6, s7, s8, s9, s10, s11⟩
           go_simp
           with_reducible rfl
          rotate_left; (simp only [putS]; rfl)
          refine pq 8 31 ?_ (upT 9 18) rfl rfl HT_ (by kernel_rfl) (fun _ _ _ h => h) (Or.inl ⟨by rfl, ?_⟩) ?_ ?_ ?_; rotate_left; (intro w'; go_simp; with_reducible rfl); rotate_left; (simp only [putS]; rfl)
          refine pq 9 32 ?_ (upT 10 17) rfl rfl HT_ (by kernel_rfl) (fun _ _ _ h => h) (Or.inl ⟨by rfl, ?_⟩) ?_ ?_ ?_; rotate_left; (intro w'; go_simp; with_reducible rfl); rotate_left; (simp only [putS]; rfl)
          refine pq 10 33 ?_ (upT 11 16) rfl rfl HT_ (by kernel_rfl) (fun _ _ _ h => h) (Or.inl ⟨by rfl, ?_⟩) ?_ ?_ ?_; rotate_left; (intro w'; go_simp; with_reducible rfl); rotate_left; (simp only [putS]; rfl)
          refine pq 11 34 ?_ (upT 12 15) rfl rfl HT_ (by kernel_rfl) (fun _ _ _ h => h) (Or.inl ⟨by rfl, ?_⟩) ?_ ?_ ?_; rotate_left; (intro w'; go_simp; with_reducible rfl); rotate_left; (simp only [putS]; rfl)
          refine pq 12 35 ?_ (upT 13 14) rfl rfl HT_ (by kernel_rfl) (fun _ _ _ h => h) (Or.inl ⟨by rfl, ?_⟩) ?_ ?_ ?_; rotate_left; (intro w'; go_simp; with_reducible rfl); rotate_left; (simp only [putS]; rfl)
          refine pq 13 36 ?_ (upT 14 13) rfl rfl HT_ (by kernel_rfl) (fun _ _ _ h => h) (Or.inl ⟨by rfl, ?_⟩) ?_ ?_ ?_; rotate_left; (intro w'; go_simp; with_reducible rfl); rotate_left; (simp only [putS]; rfl)
          refine pq 14 37 undef (upT 15 12) rfl rfl HT_ (by kernel_rfl) (fun _ _ _ h => h) (Or.inr ⟨by rfl, rfl⟩) ?_ ?_ ?_
          rotate_left; (simp only [putS]; rfl)
          refine pq 15 38 undef (upT 16 11) rfl rfl HT_ (by kernel_rfl) (fun _ _ _ h => h) (Or.inr ⟨by rfl, rfl⟩) ?_ ?_ ?_
          rotate_left; (simp only [putS]; rfl)
          refine pq 16 39 undef (upT 17 10) rfl rfl HT_ (by kernel_rfl) (fun _ _ _ h => h) (Or.inr ⟨by rfl, rfl⟩) ?_ ?_ ?_
          rotate_left; (simp only [putS]; rfl)
          refine pq 17 40 undef (upT 18 9) rfl rfl HT_ (by kernel_rfl) (fun _ _ _ h => h) (Or.inr ⟨by rfl, rfl⟩) ?_ ?_ ?_
          rotate_left; (simp only [putS]; rfl)
          refine pq 18 41 undef (upT 19 8) rfl rfl HT_ (by kernel_rfl) (fun _ _ _ h => h) (Or.inr ⟨by rfl, rfl⟩) ?_ ?_ ?_
          rotate_left; (simp only [putS]; rfl)
          refine pq 19 42 undef (upT 20 7) rfl rfl HT_ (by kernel_rfl) (fun _ _ _ h => h) (Or.inr ⟨by rfl, rfl⟩) ?_ ?_ ?_
          rotate_left; (simp only [putS]; rfl)
          refine pq 20 43 undef (upT 21 6) rfl rfl HT_ (by kernel_rfl) (fun _ _ _ h => h) (Or.inr ⟨by rfl, rfl⟩) ?_ ?_ ?_
          rotate_left; (simp only [putS]; rfl)
          refine pq 21 44 undef (upT 22 5) rfl rfl HT_ (by kernel_rfl) (fun _ _ _ h => h) (Or.inr ⟨by rfl, rfl⟩) ?_ ?_ ?_
          rotate_left; (simp only [putS]; rfl)
          refine pq 22 45 undef (upT 23 4) rfl rfl HT_ (by kernel_rfl) (fun _ _ _ h => h) (Or.inr ⟨by rfl, rfl⟩) ?_ ?_ ?_
          rotate_left; (simp only [putS]; rfl)
          refine pq 23 46 undef (upT 24 3) rfl rfl HT_ (by kernel_rfl) (fun _ _ _ h => h) (Or.inr ⟨by rfl, rfl⟩) ?_ ?_ ?_
          rotate_left; (simp only [putS]; rfl)
          refine pq 24 47 ?_ (upT 25 2) rfl rfl HT_ (by kernel_rfl) (fun _ _ _ h => h) (Or.inl ⟨by rfl, ?_⟩) ?_ ?_ ?_; rotate_left; (intro w'; go_simp; with_reducible rfl); rotate_left; (simp only [putS]; rfl)
          refine pq 25 48 ?_ (upT 26 1) rfl rfl HT_ (by kernel_rfl) (fun _ _ _ h => h) (Or.inl ⟨by rfl, ?_⟩) ?_ ?_ ?_; rotate_left; (intro w'; go_simp; with_reducible rfl); rotate_left; (simp only [putS]; rfl)
          refine pq 26 11 ?_ (upT 27 0) rfl rfl HT_ (by kernel_rfl) (fun _ _ _ h => h) (Or.inl ⟨by rfl, ?_⟩) ?_ ?_ ?_; rotate_left; (intro w'; go_simp; with_reducible rfl); rotate_left; (simp only [putS]; rfl)
          refine done_ (done_of HT_.out (by kernel_rfl)) ?_
          try go_wp2
          go_meet
          case rel => exact ⟨_, (false), (by first | rfl | (simp; done) | (simp [*]; done)), H', ⟨by have := HK1.out; first | omega | exact Nat.le_refl _⟩, ⟨by (with_reducible repeat (first | refine blk_drewN ?_ _ | refine blk_drew ?_ | refine blk_alloc ?_ _)); exact BK122.out⟩, ⟨by (with_reducible repeat (first | refine blk_drewN ?_ _ | refine blk_drew ?_ | refine blk_alloc ?_ _)); exact BK124.out⟩, ⟨by repeat (first | (with_reducible first | exact HB.out | apply below_alloc | apply pw_below_drewN | apply below_drew1 | refine below_set ?_ GE122.out | refine below_set ?_ GE124.out) | exact HB.out)⟩⟩
      case rest =>
       clear HC9
       (try clear c1); (try clear p1); (try clear q1); (try clear hx1); (try clear c2); (try clear p2); (try clear p6); (try clear p12); (try clear q12); (try clear hx12); (try clear c17); (try clear c17b0); (try clear c20); (try clear c20b0); (try clear c22); (try clear c22b0); (try clear c23); (try clear c23b0); (try clear hx125_0); (try clear hx125_1); (try clear hx125_2); (try clear hx125_3); (try clear hx125_4); (try clear p125); (try clear q125)
       obtain ⟨kq, x11_8, rfl, HA, HJ8, BK122, BK124, HB⟩ := hcut
       cases kq with
       | zero => exact absurd HA.out (by simp [pylonref10_Check.j1])
       | succ kj8 =>
        have H := HA.out
        clear HA
        simp only [pylonref10_Check.j1] at H
        replace H := Option.bind_eq_some_iff.mp H
        obtain ⟨t126, A280, H⟩ := H
        replace H : (if t126 = true then (if x11_8 = true then (pylonref10_Check.j2 kj8 a1 a2 (wrap64 (x8_1 + 1)) x15_1 true (l0_6.length : Int) x15_1 a0_0 a0_1 a0_2 a0_3 a0_4 a0_5 l0_6 ((rd_T32 l0_6 x15_1).f0) ((rd_T32 l0_6 x15_1).f1) ((rd_T32 l0_6 x15_1).f2) ((rd_T32 l0_6 x15_1).f3) ((rd_T32 l0_6 x15_1).f4)) else (if ((rd_T32 l0_6 x15_1).f1) < 0 then (pylonref10_Check.j2 kj8 a1 a2 (wrap64 (x8_1 + 1)) x15_1 true (l0_6.length : Int) x15_1 a0_0 a0_1 a0_2 a0_3 a0_4 a0_5 l0_6 ((rd_T32 l0_6 x15_1).f0) ((rd_T32 l0_6 x15_1).f1) ((rd_T32 l0_6 x15_1).f2) ((rd_T32 l0_6 x15_1).f3) ((rd_T32 l0_6 x15_1).f4)) else (if ((rd_T32 l0_6 x15_1).f1) > a1 then (pylonref10_Check.j2 kj8 a1 a2 (wrap64 (x8_1 + 1)) x15_1 true (l0_6.length : Int) x15_1 a0_0 a0_1 a0_2 a0_3 a0_4 a0_5 l0_6 ((rd_T32 l0_6 x15_1).f0) ((rd_T32 l0_6 x15_1).f1) ((rd_T32 l0_6 x15_1).f2) ((rd_T32 l0_6 x15_1).f3) ((rd_T32 l0_6 x15_1).f4)) else (if ((rd_T32 l0_6 x15_1).f2) < 0 then (pylonref10_Check.j2 kj8 a1 a2 (wrap64 (x8_1 + 1)) x15_1 true (l0_6.length : Int) x15_1 a0_0 a0_1 a0_2 a0_3 a0_4 a0_5 l0_6 ((rd_T32 l0_6 x15_1).f0) ((rd_T32 l0_6 x15_1).f1) ((rd_T32 l0_6 x15_1).f2) ((rd_T32 l0_6 x15_1).f3) ((rd_T32 l0_6 x15_1).f4)) else (if ((rd_T32 l0_6 x15_1).f2) > a1 then (pylonref10_Check.j2 kj8 a1 a2 (wrap64 (x8_1 + 1)) x15_1 true (l0_6.length : Int) x15_1 a0_0 a0_1 a0_2 a0_3 a0_4 a0_5 l0_6 ((rd_T32 l0_6 x15_1).f0) ((rd_T32 l0_6 x15_1).f1) ((rd_T32 l0_6 x15_1).f2) ((rd_T32 l0_6 x15_1).f3) ((rd_T32 l0_6 x15_1).f4)) else (if a1 < 0 then (pylonref10_Check.j2 kj8 a1 a2 (wrap64 (x8_1 + 1)) x15_1 true (l0_6.length : Int) x15_1 a0_0 a0_1 a0_2 a0_3 a0_4 a0_5 l0_6 ((rd_T32 l0_6 x15_1).f0) ((rd_T32 l0_6 x15_1).f1) ((rd_T32 l0_6 x15_1).f2) ((rd_T32 l0_6 x15_1).f3) ((rd_T32 l0_6 x15_1).f4)) else ((pylonref10_farther.f kj8 ((rd_T32 l0_6 x15_1).f3) 0 a1).bind fun t127 => (pylonref10_Check.j2 kj8 a1 a2 (wrap64 (x8_1 + 1)) x15_1 t127 (l0_6.length : Int) x15_1 a0_0 a0_1 a0_2 a0_3 a0_4 a0_5 l0_6 ((rd_T32 l0_6 x15_1).f0) ((rd_T32 l0_6 x15_1).f1) ((rd_T32 l0_6 x15_1).f2) ((rd_T32 l0_6 x15_1).f3) ((rd_T32 l0_6 x15_1).f4))))))))) else (pylonref10_Check.j4 kj8 a1 a2 x8_1 x15_1 x11_8 (l0_6.length : Int) x15_1 a0_0 a0_1 a0_2 a0_3 a0_4 a0_5 l0_6 ((rd_T32 l0_6 x15_1).f0) ((rd_T32 l0_6 x15_1).f1) ((rd_T32 l0_6 x15_1).f2) ((rd_T32 l0_6 x15_1).f3) ((rd_T32 l0_6 x15_1).f4))) = some (r1, r2) := H
        have A28 := Aside0.mk A280
        clear A280
        have HC29 := Aside0.mk H
        clear H
        have hnb30 := NB124_122.out
        have hnc30 := NB122_124.out
        have hcz31_0 : wc.cell? ⟨gb124, 0, none⟩ = some (.int .i64 ((rd_T32 l0_6 x15_1).f0)) := (blk_cell BK124.out 0).trans rfl
        have hcz31_1 : wc.cell? ⟨gb124, 1, none⟩ = some (.int .i64 ((rd_T32 l0_6 x15_1).f1)) := (blk_cell BK124.out 1).trans rfl
        have hcz31_2 : wc.cell? ⟨gb124, 2, none⟩ = some (.int .i64 ((rd_T32 l0_6 x15_1).f2)) := (blk_cell BK124.out 2).trans rfl
        have hcz31_3 : wc.cell? ⟨gb124, 3, none⟩ = some (.int .i64 ((rd_T32 l0_6 x15_1).f3)) := (blk_cell BK124.out 3).trans rfl
        have hcz31_4 : wc.cell? ⟨gb124, 4, none⟩ = some (.int .u8 ((rd_T32 l0_6 x15_1).f4)) := (blk_cell BK124.out 4).trans rfl
        have hfz31_0 := blk_frozen BK124.out 0
        have hfz31_1 := blk_frozen BK124.out 1
        have hfz31_2 := blk_frozen BK124.out 2
        have hfz31_3 := blk_frozen BK124.out 3
        have hfz31_4 := blk_frozen BK124.out 4
        go_upto_if 50 with (first | ((with_reducible refine gate_callee (f := 18) rfl ?_); refine goesL_ (some 50) rfl rfl Try.func18 (by kernel_rfl) rfl #[.agg #[.int .i64 ((rd_T32 l0_6 x15_1).f0), .int .i64 ((rd_T32 l0_6 x15_1).f1), .int .i64 ((rd_T32 l0_6 x15_1).f2), .int .i64 ((rd_T32 l0_6 x15_1).f3), .int .u8 ((rd_T32 l0_6 x15_1).f4)]] rfl (by (try simp only [List.map_toArray, List.map_cons, List.map_nil]); first | done | rfl | (simp only [List.length_drop, List.length_take]; rfl)) ?_; (with_reducible refine (pylonref10_Good.calls ((rd_T32 l0_6 x15_1).f0) ((rd_T32 l0_6 x15_1).f1) ((rd_T32 l0_6 x15_1).f2) ((rd_T32 l0_6 x15_1).f3) ((rd_T32 l0_6 x15_1).f4) t126 _ A28.out).mono ?_); rintro e w32 ⟨rfl, hb⟩; refine ⟨_, rfl, ?_⟩; have n0_ := Aside0.mk (blk_below (g := gb122) (o := .cells #[.string a0_0, .int .i64 a0_1, .int .i64 a0_2, .int .i64 a0_3, .int .i64 a0_4, .int .i64 a0_5, .slice (some ad123) l0_6.length c0_6] 24 (0, 0)) (by (with_reducible repeat (first | refine blk_drewN ?_ _ | refine blk_drew ?_ | refine blk_alloc ?_ _)); exact BK122.out) hb); have n1_ := Aside0.mk (blk_below (g := gb124) (o := .cells #[.int .i64 ((rd_T32 l0_6 x15_1).f0), .int .i64 ((rd_T32 l0_6 x15_1).f1), .int .i64 ((rd_T32 l0_6 x15_1).f2), .int .i64 ((rd_T32 l0_6 x15_1).f3), .int .u8 ((rd_T32 l0_6 x15_1).f4)] 32 (0, 0)) (by (with_reducible repeat (first | refine blk_drewN ?_ _ | refine blk_drew ?_ | refine blk_alloc ?_ _)); exact BK124.out) hb); have n2_ := Aside0.mk (below_step (by repeat (first | (with_reducible first | exact HB.out | apply below_alloc | apply pw_below_drewN | apply below_drew1 | refine below_set ?_ GE122.out | refine below_set ?_ GE124.out) | exact HB.out)) hb); clear BK122; clear BK124; clear HB; have BK122 := n0_; have BK124 := n1_; have HB := n2_; clear n0_ n1_ n2_; (try clear hb); (try clear hb2); (try clear hk); (try clear hi)))
        (try simp only [Act.put, List.setIfInBounds_toArray, List.set_cons_zero, List.set_cons_succ])
        go_cut [8, 11] (fun v8 v11 wc => ∃ (kq : Nat) (x8_28 : Int) (x11_28 : Bool), v8 = .int .i64 x8_28 ∧ v11 = .bool x11_28 ∧ Aside0 (pylonref10_Check.j4 kq a1 a2 x8_28 x15_1 x11_28 (l0_6.length : Int) x15_1 a0_0 a0_1 a0_2 a0_3 a0_4 a0_5 l0_6 ((rd_T32 l0_6 x15_1).f0) ((rd_T32 l0_6 x15_1).f1) ((rd_T32 l0_6 x15_1).f2) ((rd_T32 l0_6 x15_1).f3) ((rd_T32 l0_6 x15_1).f4) = some (r1, r2)) ∧ Aside0 (kq ≤ kj8) ∧ Aside0 (wc.heap[gb122]? = some (.cells #[.string a0_0, .int .i64 a0_1, .int .i64 a0_2, .int .i64 a0_3, .int .i64 a0_4, .int .i64 a0_5, (.slice (some ad123) l0_6.length c0_6)] 24 (0, 0))) ∧ Aside0 (wc.heap[gb124]? = some (.cells #[.int .i64 ((rd_T32 l0_6 x15_1).f0), .int .i64 ((rd_T32 l0_6 x15_1).f1), .int .i64 ((rd_T32 l0_6 x15_1).f2), .int .i64 ((rd_T32 l0_6 x15_1).f3), .int .u8 ((rd_T32 l0_6 x15_1).f4)] 32 (0, 0))) ∧ Aside0 (Below w.heap.size w wc))
        case first =>
         as_aux_lemma =>
         have H := HC29.out
         clear HC29
         by_cases c33 : t126 = true
         ·
          subst c33
          have H1 : (if x11_8 = true then (pylonref10_Check.j2 kj8 a1 a2 (wrap64 (x8_1 + 1)) x15_1 true (l0_6.length : Int) x15_1 a0_0 a0_1 a0_2 a0_3 a0_4 a0_5 l0_6 ((rd_T32 l0_6 x15_1).f0) ((rd_T32 l0_6 x15_1).f1) ((rd_T32 l0_6 x15_1).f2) ((rd_T32 l0_6 x15_1).f3) ((rd_T32 l0_6 x15_1).f4)) else (if ((rd_T32 l0_6 x15_1).f1) < 0 then (pylonref10_Check.j2 kj8 a1 a2 (wrap64 (x8_1 + 1)) x15_1 true (l0_6.length : Int) x15_1 a0_0 a0_1 a0_2 a0_3 a0_4 a0_5 l0_6 ((rd_T32 l0_6 x15_1).f0) ((rd_T32 l0_6 x15_1).f1) ((rd_T32 l0_6 x15_1).f2) ((rd_T32 l0_6 x15_1).f3) ((rd_T32 l0_6 x15_1).f4)) else (if ((rd_T32 l0_6 x15_1).f1) > a1 then (pylonref10_Check.j2 kj8 a1 a2 (wrap64 (x8_1 + 1)) x15_1 true (l0_6.length : Int) x15_1 a0_0 a0_1 a0_2 a0_3 a0_4 a0_5 l0_6 ((rd_T32 l0_6 x15_1).f0) ((rd_T32 l0_6 x15_1).f1) ((rd_T32 l0_6 x15_1).f2) ((rd_T32 l0_6 x15_1).f3) ((rd_T32 l0_6 x15_1).f4)) else (if ((rd_T32 l0_6 x15_1).f2) < 0 then (pylonref10_Check.j2 kj8 a1 a2 (wrap64 (x8_1 + 1)) x15_1 true (l0_6.length : Int) x15_1 a0_0 a0_1 a0_2 a0_3 a0_4 a0_5 l0_6 ((rd_T32 l0_6 x15_1).f0) ((rd_T32 l0_6 x15_1).f1) ((rd_T32 l0_6 x15_1).f2) ((rd_T32 l0_6 x15_1).f3) ((rd_T32 l0_6 x15_1).f4)) else (if ((rd_T32 l0_6 x15_1).f2) > a1 then (pylonref10_Check.j2 kj8 a1 a2 (wrap64 (x8_1 + 1)) x15_1 true (l0_6.length : Int) x15_1 a0_0 a0_1 a0_2 a0_3 a0_4 a0_5 l0_6 ((rd_T32 l0_6 x15_1).f0) ((rd_T32 l0_6 x15_1).f1) ((rd_T32 l0_6 x15_1).f2) ((rd_T32 l0_6 x15_1).f3) ((rd_T32 l0_6 x15_1).f4)) else (if a1 < 0 then (pylonref10_Check.j2 kj8 a1 a2 (wrap64 (x8_1 + 1)) x15_1 true (l0_6.length : Int) x15_1 a0_0 a0_1 a0_2 a0_3 a0_4 a0_5 l0_6 ((rd_T32 l0_6 x15_1).f0) ((rd_T32 l0_6 x15_1).f1) ((rd_T32 l0_6 x15_1).f2) ((rd_T32 l0_6 x15_1).f3) ((rd_T32 l0_6 x15_1).f4)) else ((pylonref10_farther.f kj8 ((rd_T32 l0_6 x15_1).f3) 0 a1).bind fun t127 => (pylonref10_Check.j2 kj8 a1 a2 (wrap64 (x8_1 + 1)) x15_1 t127 (l0_6.length : Int) x15_1 a0_0 a0_1 a0_2 a0_3 a0_4 a0_5 l0_6 ((rd_T32 l0_6 x15_1).f0) ((rd_T32 l0_6 x15_1).f1) ((rd_T32 l0_6 x15_1).f2) ((rd_T32 l0_6 x15_1).f3) ((rd_T32 l0_6 x15_1).f4))))))))) = some (r1, r2) := by rw [if_pos rfl] at H; exact H
          clear H
          have H := H1
          clear H1
          have HC34 := Aside0.mk H
          clear H
          go_upto_region 9 with (fail)
          go_cut [11] (fun v11 wc => ∃ (kq : Nat) (x11_33 : Bool), v11 = .bool x11_33 ∧ Aside0 (pylonref10_Check.j2 kq a1 a2 (wrap64 (x8_1 + 1)) x15_1 x11_33 (l0_6.length : Int) x15_1 a0_0 a0_1 a0_2 a0_3 a0_4 a0_5 l0_6 ((rd_T32 l0_6 x15_1).f0) ((rd_T32 l0_6 x15_1).f1) ((rd_T32 l0_6 x15_1).f2) ((rd_T32 l0_6 x15_1).f3) ((rd_T32 l0_6 x15_1).f4) = some (r1, r2)) ∧ Aside0 (kq ≤ kj8) ∧ Aside0 (wc.heap[gb122]? = some (.cells #[.string a0_0, .int .i64 a0_1, .int .i64 a0_2, .int .i64 a0_3, .int .i64 a0_4, .int .i64 a0_5, (.slice (some ad123) l0_6.length c0_6)] 24 (0, 0))) ∧ Aside0 (wc.heap[gb124]? = some (.cells #[.int .i64 ((rd_T32 l0_6 x15_1).f0), .int .i64 ((rd_T32 l0_6 x15_1).f1), .int .i64 ((rd_T32 l0_6 x15_1).f2), .int .i64 ((rd_T32 l0_6 x15_1).f3), .int .u8 ((rd_T32 l0_6 x15_1).f4)] 32 (0, 0))) ∧ Aside0 (Below w.heap.size w wc))
          case first =>
           as_aux_lemma =>
           have H := HC34.out
           clear HC34
           by_cases c35 : x11_8 = true
           ·
            subst c35
            have H1 : (pylonref10_Check.j2 kj8 a1 a2 (wrap64 (x8_1 + 1)) x15_1 true (l0_6.length : Int) x15_1 a0_0 a0_1 a0_2 a0_3 a0_4 a0_5 l0_6 ((rd_T32 l0_6 x15_1).f0) ((rd_T32 l0_6 x15_1).f1) ((rd_T32 l0_6 x15_1).f2) ((rd_T32 l0_6 x15_1).f3) ((rd_T32 l0_6 x15_1).f4)) = some (r1, r2) := by rw [if_pos rfl] at H; exact H
            clear H
            have H := H1
            clear H1
            have H' := Aside0.mk H
            clear H
            go_wp2
            go_meet
            case rel => exact ⟨_, (true), (by first | rfl | (simp; done) | (simp [*]; done)), H', ⟨by have := HK1.out; have := HJ8.out; first | omega | exact Nat.le_refl _⟩, ⟨by (with_reducible repeat (first | refine blk_drewN ?_ _ | refine blk_drew ?_ | refine blk_alloc ?_ _)); exact BK122.out⟩, ⟨by (with_reducible repeat (first | refine blk_drewN ?_ _ | refine blk_drew ?_ | refine blk_alloc ?_ _)); exact BK124.out⟩, ⟨by repeat (first | (with_reducible first | exact HB.out | apply below_alloc | apply pw_below_drewN | apply below_drew1 | refine below_set ?_ GE122.out | refine below_set ?_ GE124.out) | exact HB.out)⟩⟩
           ·
            replace c35 := Bool.eq_false_iff.mpr c35
            subst c35
            have H1 : (if ((rd_T32 l0_6 x15_1).f1) < 0 then (pylonref10_Check.j2 kj8 a1 a2 (wrap64 (x8_1 + 1)) x15_1 true (l0_6.length : Int) x15_1 a0_0 a0_1 a0_2 a0_3 a0_4 a0_5 l0_6 ((rd_T32 l0_6 x15_1).f0) ((rd_T32 l0_6 x15_1).f1) ((rd_T32 l0_6 x15_1).f2) ((rd_T32 l0_6 x15_1).f3) ((rd_T32 l0_6 x15_1).f4)) else (if ((rd_T32 l0_6 x15_1).f1) > a1 then (pylonref10_Check.j2 kj8 a1 a2 (wrap64 (x8_1 + 1)) x15_1 true (l0_6.length : Int) x15_1 a0_0 a0_1 a0_2 a0_3 a0_4 a0_5 l0_6 ((rd_T32 l0_6 x15_1).f0) ((rd_T32 l0_6 x15_1).f1) ((rd_T32 l0_6 x15_1).f2) ((rd_T32 l0_6 x15_1).f3) ((rd_T32 l0_6 x15_1).f4)) else (if ((rd_T32 l0_6 x15_1).f2) < 0 then (pylonref10_Check.j2 kj8 a1 a2 (wrap64 (x8_1 + 1)) x15_1 true (l0_6.length : Int) x15_1 a0_0 a0_1 a0_2 a0_3 a0_4 a0_5 l0_6 ((rd_T32 l0_6 x15_1).f0) ((rd_T32 l0_6 x15_1).f1) ((rd_T32 l0_6 x15_1).f2) ((rd_T32 l0_6 x15_1).f3) ((rd_T32 l0_6 x15_1).f4)) else (if ((rd_T32 l0_6 x15_1).f2) > a1 then (pylonref10_Check.j2 kj8 a1 a2 (wrap64 (x8_1 + 1)) x15_1 true (l0_6.length : Int) x15_1 a0_0 a0_1 a0_2 a0_3 a0_4 a0_5 l0_6 ((rd_T32 l0_6 x15_1).f0) ((rd_T32 l0_6 x15_1).f1) ((rd_T32 l0_6 x15_1).f2) ((rd_T32 l0_6 x15_1).f3) ((rd_T32 l0_6 x15_1).f4)) else (if a1 < 0 then (pylonref10_Check.j2 kj8 a1 a2 (wrap64 (x8_1 + 1)) x15_1 true (l0_6.length : Int) x15_1 a0_0 a0_1 a0_2 a0_3 a0_4 a0_5 l0_6 ((rd_T32 l0_6 x15_1).f0) ((rd_T32 l0_6 x15_1).f1) ((rd_T32 l0_6 x15_1).f2) ((rd_T32 l0_6 x15_1).f3) ((rd_T32 l0_6 x15_1).f4)) else ((pylonref10_farther.f kj8 ((rd_T32 l0_6 x15_1).f3) 0 a1).bind fun t127 => (pylonref10_Check.j2 kj8 a1 a2 (wrap64 (x8_1 + 1)) x15_1 t127 (l0_6.length : Int) x15_1 a0_0 a0_1 a0_2 a0_3 a0_4 a0_5 l0_6 ((rd_T32 l0_6 x15_1).f0) ((rd_T32 l0_6 x15_1).f1) ((rd_T32 l0_6 x15_1).f2) ((rd_T32 l0_6 x15_1).f3) ((rd_T32 l0_6 x15_1).f4)))))))) = some (r1, r2) := by rw [if_neg (show ¬ (false = true) by decide)] at H; exact H
            clear H
            have H := H1
            clear H1
            by_cases c36 : ((rd_T32 l0_6 x15_1).f1) < 0
            ·
             rw [if_pos c36] at H
             have c36b0 : decide (((rd_T32 l0_6 x15_1).f1) < 0) = true := decide_eq_true c36
             clear c36
             (first | rw [c36b0] | (simp only [i64_w, i32_w]; rw [c36b0]) | skip)
             have H' := Aside0.mk H
             clear H
             have hnb37 := NB124_122.out
             have hnc37 := NB122_124.out
             have hcz38_0 : w32.cell? ⟨gb124, 0, none⟩ = some (.int .i64 ((rd_T32 l0_6 x15_1).f0)) := (blk_cell BK124.out 0).trans rfl
             have hcz38_1 : w32.cell? ⟨gb124, 1, none⟩ = some (.int .i64 ((rd_T32 l0_6 x15_1).f1)) := (blk_cell BK124.out 1).trans rfl
             have hcz38_2 : w32.cell? ⟨gb124, 2, none⟩ = some (.int .i64 ((rd_T32 l0_6 x15_1).f2)) := (blk_cell BK124.out 2).trans rfl
             have hcz38_3 : w32.cell? ⟨gb124, 3, none⟩ = some (.int .i64 ((rd_T32 l0_6 x15_1).f3)) := (blk_cell BK124.out 3).trans rfl
             have hcz38_4 : w32.cell? ⟨gb124, 4, none⟩ = some (.int .u8 ((rd_T32 l0_6 x15_1).f4)) := (blk_cell BK124.out 4).trans rfl
             have hfz38_0 := blk_frozen BK124.out 0
             have hfz38_1 := blk_frozen BK124.out 1
             have hfz38_2 := blk_frozen BK124.out 2
             have hfz38_3 := blk_frozen BK124.out 3
             have hfz38_4 := blk_frozen BK124.out 4
             go_wp2
             go_meet
             case rel => exact ⟨_, (true), (by first | rfl | (simp; done) | (simp [*]; done)), H', ⟨by have := HK1.out; have := HJ8.out; first | omega | exact Nat.le_refl _⟩, ⟨by (with_reducible repeat (first | refine blk_drewN ?_ _ | refine blk_drew ?_ | refine blk_alloc ?_ _)); exact BK122.out⟩, ⟨by (with_reducible repeat (first | refine blk_drewN ?_ _ | refine blk_drew ?_ | refine blk_alloc ?_ _)); exact BK124.out⟩, ⟨by repeat (first | (with_reducible first | exact HB.out | apply below_alloc | apply pw_below_drewN | apply below_drew1 | refine below_set ?_ GE122.out | refine below_set ?_ GE124.out) | exact HB.out)⟩⟩
            ·
             rw [if_neg c36] at H
             have c36b0 : decide (((rd_T32 l0_6 x15_1).f1) < 0) = false := decide_eq_false c36
             clear c36
             (first | rw [c36b0] | (simp only [i64_w, i32_w]; rw [c36b0]) | skip)
             by_cases c39 : ((rd_T32 l0_6 x15_1).f1) > a1
             ·
              rw [if_pos c39] at H
              have c39b0 : decide (a1 < ((rd_T32 l0_6 x15_1).f1)) = true := decide_eq_true c39
              clear c39
              have H' := Aside0.mk H
              clear H
              have hnb40 := NB124_122.out
              have hnc40 := NB122_124.out
              have hcz41_0 : w32.cell? ⟨gb124, 0, none⟩ = some (.int .i64 ((rd_T32 l0_6 x15_1).f0)) := (blk_cell BK124.out 0).trans rfl
              have hcz41_1 : w32.cell? ⟨gb124, 1, none⟩ = some (.int .i64 ((rd_T32 l0_6 x15_1).f1)) := (blk_cell BK124.out 1).trans rfl
              have hcz41_2 : w32.cell? ⟨gb124, 2, none⟩ = some (.int .i64 ((rd_T32 l0_6 x15_1).f2)) := (blk_cell BK124.out 2).trans rfl
              have hcz41_3 : w32.cell? ⟨gb124, 3, none⟩ = some (.int .i64 ((rd_T32 l0_6 x15_1).f3)) := (blk_cell BK124.out 3).trans rfl
              have hcz41_4 : w32.cell? ⟨gb124, 4, none⟩ = some (.int .u8 ((rd_T32 l0_6 x15_1).f4)) := (blk_cell BK124.out 4).trans rfl
              have hfz41_0 := blk_frozen BK124.out 0
              have hfz41_1 := blk_frozen BK124.out 1
              have hfz41_2 := blk_frozen BK124.out 2
              have hfz41_3 := blk_frozen BK124.out 3
              have hfz41_4 := blk_frozen BK124.out 4
              go_wp2
              go_meet
              case rel => exact ⟨_, (true), (by first | rfl | (simp; done) | (simp [*]; done)), H', ⟨by have := HK1.out; have := HJ8.out; first | omega | exact Nat.le_refl _⟩, ⟨by (with_reducible repeat (first | refine blk_drewN ?_ _ | refine blk_drew ?_ | refine blk_alloc ?_ _)); exact BK122.out⟩, ⟨by (with_reducible repeat (first | refine blk_drewN ?_ _ | refine blk_drew ?_ | refine blk_alloc ?_ _)); exact BK124.out⟩, ⟨by repeat (first | (with_reducible first | exact HB.out | apply below_alloc | apply pw_below_drewN | apply below_drew1 | refine below_set ?_ GE122.out | refine below_set ?_ GE124.out) | exact HB.out)⟩⟩
             ·
              rw [if_neg c39] at H
              have c39b0 : decide (a1 < ((rd_T32 l0_6 x15_1).f1)) = false := decide_eq_false c39
              clear c39
              by_cases c42 : ((rd_T32 l0_6 x15_1).f2) < 0
              ·
               rw [if_pos c42] at H
               have c42b0 : decide (((rd_T32 l0_6 x15_1).f2) < 0) = true := decide_eq_true c42
               clear c42
               have H' := Aside0.mk H
               clear H
               have hnb43 := NB124_122.out
               have hnc43 := NB122_124.out
               have hcz44_0 : w32.cell? ⟨gb124, 0, none⟩ = some (.int .i64 ((rd_T32 l0_6 x15_1).f0)) := (blk_cell BK124.out 0).trans rfl
               have hcz44_1 : w32.cell? ⟨gb124, 1, none⟩ = some (.int .i64 ((rd_T32 l0_6 x15_1).f1)) := (blk_cell BK124.out 1).trans rfl
               have hcz44_2 : w32.cell? ⟨gb124, 2, none⟩ = some (.int .i64 ((rd_T32 l0_6 x15_1).f2)) := (blk_cell BK124.out 2).trans rfl
               have hcz44_3 : w32.cell? ⟨gb124, 3, none⟩ = some (.int .i64 ((rd_T32 l0_6 x15_1).f3)) := (blk_cell BK124.out 3).trans rfl
               have hcz44_4 : w32.cell? ⟨gb124, 4, none⟩ = some (.int .u8 ((rd_T32 l0_6 x15_1).f4)) := (blk_cell BK124.out 4).trans rfl
               have hfz44_0 := blk_frozen BK124.out 0
               have hfz44_1 := blk_frozen BK124.out 1
               have hfz44_2 := blk_frozen BK124.out 2
               have hfz44_3 := blk_frozen BK124.out 3
               have hfz44_4 := blk_frozen BK124.out 4
               go_wp2
               go_meet
               case rel => exact ⟨_, (true), (by first | rfl | (simp; done) | (simp [*]; done)), H', ⟨by have := HK1.out; have := HJ8.out; first | omega | exact Nat.le_refl _⟩, ⟨by (with_reducible repeat (first | refine blk_drewN ?_ _ | refine blk_drew ?_ | refine blk_alloc ?_ _)); exact BK122.out⟩, ⟨by (with_reducible repeat (first | refine blk_drewN ?_ _ | refine blk_drew ?_ | refine blk_alloc ?_ _)); exact BK124.out⟩, ⟨by repeat (first | (with_reducible first | exact HB.out | apply below_alloc | apply pw_below_drewN | apply below_drew1 | refine below_set ?_ GE122.out | refine below_set ?_ GE124.out) | exact HB.out)⟩⟩
              ·
               rw [if_neg c42] at H
               have c42b0 : decide (((rd_T32 l0_6 x15_1).f2) < 0) = false := decide_eq_false c42
               clear c42
               by_cases c45 : ((rd_T32 l0_6 x15_1).f2) > a1
               ·
                rw [if_pos c45] at H
                have c45b0 : decide (a1 < ((rd_T32 l0_6 x15_1).f2)) = true := decide_eq_true c45
                clear c45
                have H' := Aside0.mk H
                clear H
                have hnb46 := NB124_122.out
                have hnc46 := NB122_124.out
                have hcz47_0 : w32.cell? ⟨gb124, 0, none⟩ = some (.int .i64 ((rd_T32 l0_6 x15_1).f0)) := (blk_cell BK124.out 0).trans rfl
                have hcz47_1 : w32.cell? ⟨gb124, 1, none⟩ = some (.int .i64 ((rd_T32 l0_6 x15_1).f1)) := (blk_cell BK124.out 1).trans rfl
                have hcz47_2 : w32.cell? ⟨gb124, 2, none⟩ = some (.int .i64 ((rd_T32 l0_6 x15_1).f2)) := (blk_cell BK124.out 2).trans rfl
                have hcz47_3 : w32.cell? ⟨gb124, 3, none⟩ = some (.int .i64 ((rd_T32 l0_6 x15_1).f3)) := (blk_cell BK124.out 3).trans rfl
                have hcz47_4 : w32.cell? ⟨gb124, 4, none⟩ = some (.int .u8 ((rd_T32 l0_6 x15_1).f4)) := (blk_cell BK124.out 4).trans rfl
                have hfz47_0 := blk_frozen BK124.out 0
                have hfz47_1 := blk_frozen BK124.out 1
                have hfz47_2 := blk_frozen BK124.out 2
                have hfz47_3 := blk_frozen BK124.out 3
                have hfz47_4 := blk_frozen BK124.out 4
                go_wp2
                go_meet
                case rel => exact ⟨_, (true), (by first | rfl | (simp; done) | (simp [*]; done)), H', ⟨by have := HK1.out; have := HJ8.out; first | omega | exact Nat.le_refl _⟩, ⟨by (with_reducible repeat (first | refine blk_drewN ?_ _ | refine blk_drew ?_ | refine blk_alloc ?_ _)); exact BK122.out⟩, ⟨by (with_reducible repeat (first | refine blk_drewN ?_ _ | refine blk_drew ?_ | refine blk_alloc ?_ _)); exact BK124.out⟩, ⟨by repeat (first | (with_reducible first | exact HB.out | apply below_alloc | apply pw_below_drewN | apply below_drew1 | refine below_set ?_ GE122.out | refine below_set ?_ GE124.out) | exact HB.out)⟩⟩
               ·
                rw [if_neg c45] at H
                have c45b0 : decide (a1 < ((rd_T32 l0_6 x15_1).f2)) = false := decide_eq_false c45
                clear c45
                by_cases c48 : a1 < 0
                ·
                 rw [if_pos c48] at H
                 have c48b0 : decide (a1 < 0) = true := decide_eq_true c48
                 clear c48
                 have H' := Aside0.mk H
                 clear H
                 have hnb49 := NB124_122.out
                 have hnc49 := NB122_124.out
                 have hcz50_0 : w32.cell? ⟨gb124, 0, none⟩ = some (.int .i64 ((rd_T32 l0_6 x15_1).f0)) := (blk_cell BK124.out 0).trans rfl
                 have hcz50_1 : w32.cell? ⟨gb124, 1, none⟩ = some (.int .i64 ((rd_T32 l0_6 x15_1).f1)) := (blk_cell BK124.out 1).trans rfl
                 have hcz50_2 : w32.cell? ⟨gb124, 2, none⟩ = some (.int .i64 ((rd_T32 l0_6 x15_1).f2)) := (blk_cell BK124.out 2).trans rfl
                 have hcz50_3 : w32.cell? ⟨gb124, 3, none⟩ = some (.int .i64 ((rd_T32 l0_6 x15_1).f3)) := (blk_cell BK124.out 3).trans rfl
                 have hcz50_4 : w32.cell? ⟨gb124, 4, none⟩ = some (.int .u8 ((rd_T32 l0_6 x15_1).f4)) := (blk_cell BK124.out 4).trans rfl
                 have hfz50_0 := blk_frozen BK124.out 0
                 have hfz50_1 := blk_frozen BK124.out 1
                 have hfz50_2 := blk_frozen BK124.out 2
                 have hfz50_3 := blk_frozen BK124.out 3
                 have hfz50_4 := blk_frozen BK124.out 4
                 go_wp2
                 go_meet
                 case rel => exact ⟨_, (true), (by first | rfl | (simp; done) | (simp [*]; done)), H', ⟨by have := HK1.out; have := HJ8.out; first | omega | exact Nat.le_refl _⟩, ⟨by (with_reducible repeat (first | refine blk_drewN ?_ _ | refine blk_drew ?_ | refine blk_alloc ?_ _)); exact BK122.out⟩, ⟨by (with_reducible repeat (first | refine blk_drewN ?_ _ | refine blk_drew ?_ | refine blk_alloc ?_ _)); exact BK124.out⟩, ⟨by repeat (first | (with_reducible first | exact HB.out | apply below_alloc | apply pw_below_drewN | apply below_drew1 | refine below_set ?_ GE122.out | refine below_set ?_ GE124.out) | exact HB.out)⟩⟩
                ·
                 rw [if_neg c48] at H
                 have c48b0 : decide (a1 < 0) = false := decide_eq_false c48
                 clear c48
                 replace H := Option.bind_eq_some_iff.mp H
                 obtain ⟨t127, A510, H⟩ := H
                 replace H : (pylonref10_Check.j2 kj8 a1 a2 (wrap64 (x8_1 + 1)) x15_1 t127 (l0_6.length : Int) x15_1 a0_0 a0_1 a0_2 a0_3 a0_4 a0_5 l0_6 ((rd_T32 l0_6 x15_1).f0) ((rd_T32 l0_6 x15_1).f1) ((rd_T32 l0_6 x15_1).f2) ((rd_T32 l0_6 x15_1).f3) ((rd_T32 l0_6 x15_1).f4)) = some (r1, r2) := H
                 have A51 := Aside0.mk A510
                 clear A510
                 have H' := Aside0.mk H
                 clear H
                 have hnb52 := NB124_122.out
                 have hnc52 := NB122_124.out
                 have hcz53_0 : w32.cell? ⟨gb124, 0, none⟩ = some (.int .i64 ((rd_T32 l0_6 x15_1).f0)) := (blk_cell BK124.out 0).trans rfl
                 have hcz53_1 : w32.cell? ⟨gb124, 1, none⟩ = some (.int .i64 ((rd_T32 l0_6 x15_1).f1)) := (blk_cell BK124.out 1).trans rfl
                 have hcz53_2 : w32.cell? ⟨gb124, 2, none⟩ = some (.int .i64 ((rd_T32 l0_6 x15_1).f2)) := (blk_cell BK124.out 2).trans rfl
                 have hcz53_3 : w32.cell? ⟨gb124, 3, none⟩ = some (.int .i64 ((rd_T32 l0_6 x15_1).f3)) := (blk_cell BK124.out 3).trans rfl
                 have hcz53_4 : w32.cell? ⟨gb124, 4, none⟩ = some (.int .u8 ((rd_T32 l0_6 x15_1).f4)) := (blk_cell BK124.out 4).trans rfl
                 have hfz53_0 := blk_frozen BK124.out 0
                 have hfz53_1 := blk_frozen BK124.out 1
                 have hfz53_2 := blk_frozen BK124.out 2
                 have hfz53_3 := blk_frozen BK124.out 3
                 have hfz53_4 := blk_frozen BK124.out 4
                 go_wp2_with (first | (go_at_call 27; (with_reducible refine (pylonref10_farther.calls kj8 ((rd_T32 l0_6 x15_1).f3) 0 a1 t127 _ A51.out).mono ?_); rintro e w' ⟨rfl, ⟨nd, rfl⟩⟩))
                 go_meet
                 case rel => exact ⟨_, (t127), (by first | rfl | (simp; done) | (simp [*]; done)), H', ⟨by have := HK1.out; have := HJ8.out; first | omega | exact Nat.le_refl _⟩, ⟨by (with_reducible repeat (first | refine blk_drewN ?_ _ | refine blk_drew ?_ | refine blk_alloc ?_ _)); exact BK122.out⟩, ⟨by (with_reducible repeat (first | refine blk_drewN ?_ _ | refine blk_drew ?_ | refine blk_alloc ?_ _)); exact BK124.out⟩, ⟨by repeat (first | (with_reducible first | exact HB.out | apply below_alloc | apply pw_below_drewN | apply below_drew1 | refine below_set ?_ GE122.out | refine below_set ?_ GE124.out) | exact HB.out)⟩⟩
          case rest =>
           clear HC34
           (try clear c1); (try clear p1); (try clear q1); (try clear hx1); (try clear c2); (try clear p2); (try clear c3); (try clear c4); (try clear c5); (try clear p6); (try clear p12); (try clear q12); (try clear hx12); (try clear c17); (try clear c17b0); (try clear c18); (try clear c20); (try clear c20b0); (try clear c22); (try clear c22b0); (try clear c23); (try clear c23b0); (try clear c30); (try clear c33); (try clear c35); (try clear c36); (try clear c36b0); (try clear c37); (try clear c39); (try clear c39b0); (try clear c40); (try clear c42); (try clear c42b0); (try clear c43); (try clear c45); (try clear c45b0); (try clear c46); (try clear c48); (try clear c48b0); (try clear c49); (try clear c52); (try clear hcz31_0); (try clear hcz31_1); (try clear hcz31_2); (try clear hcz31_3); (try clear hcz31_4); (try clear hcz38_0); (try clear hcz38_1); (try clear hcz38_2); (try clear hcz38_3); (try clear hcz38_4); (try clear hcz41_0); (try clear hcz41_1); (try clear hcz41_2); (try clear hcz41_3); (try clear hcz41_4); (try clear hcz44_0); (try clear hcz44_1); (try clear hcz44_2); (try clear hcz44_3); (try clear hcz44_4); (try clear hcz47_0); (try clear hcz47_1); (try clear hcz47_2); (try clear hcz47_3); (try clear hcz47_4); (try clear hcz50_0); (try clear hcz50_1); (try clear hcz50_2); (try clear hcz50_3); (try clear hcz50_4); (try clear hcz53_0); (try clear hcz53_1); (try clear hcz53_2); (try clear hcz53_3); (try clear hcz53_4); (try clear hfz31_0); (try clear hfz31_1); (try clear hfz31_2); (try clear hfz31_3); (try clear hfz31_4); (try clear hfz38_0); (try clear hfz38_1); (try clear hfz38_2); (try clear hfz38_3); (try clear hfz38_4); (try clear hfz41_0); (try clear hfz41_1); (try clear hfz41_2); (try clear hfz41_3); (try clear hfz41_4); (try clear hfz44_0); (try clear hfz44_1); (try clear hfz44_2); (try clear hfz44_3); (try clear hfz44_4); (try clear hfz47_0); (try clear hfz47_1); (try clear hfz47_2); (try clear hfz47_3); (try clear hfz47_4); (try clear hfz50_0); (try clear hfz50_1); (try clear hfz50_2); (try clear hfz50_3); (try clear hfz50_4); (try clear hfz53_0); (try clear hfz53_1); (try clear hfz53_2); (try clear hfz53_3); (try clear hfz53_4); (try clear hx125_0); (try clear hx125_1); (try clear hx125_2); (try clear hx125_3); (try clear hx125_4); (try clear p1); (try clear p12); (try clear p125); (try clear p2); (try clear p6); (try clear q1); (try clear q12); (try clear q125)
           obtain ⟨kq, x11_33, rfl, HA, HJ33, BK122, BK124, HB⟩ := hcut
           cases kq with
           | zero => exact absurd HA.out (by simp [pylonref10_Check.j2])
           | succ kj33 =>
            have H := HA.out
            clear HA
            simp only [pylonref10_Check.j2] at H
            have HC54 := Aside0.mk H
            clear H
            go_upto_region 10 with (fail)
            go_cut [125] (fun v125 wc => ∃ (kq : Nat) (x125_53 : Bool), v125 = .bool x125_53 ∧ Aside0 (pylonref10_Check.j3 kq a1 a2 (wrap64 (x8_1 + 1)) x15_1 x11_33 (l0_6.length : Int) x15_1 x125_53 a0_0 a0_1 a0_2 a0_3 a0_4 a0_5 l0_6 ((rd_T32 l0_6 x15_1).f0) ((rd_T32 l0_6 x15_1).f1) ((rd_T32 l0_6 x15_1).f2) ((rd_T32 l0_6 x15_1).f3) ((rd_T32 l0_6 x15_1).f4) = some (r1, r2)) ∧ Aside0 (kq ≤ kj33) ∧ Aside0 (wc.heap[gb122]? = some (.cells #[.string a0_0, .int .i64 a0_1, .int .i64 a0_2, .int .i64 a0_3, .int .i64 a0_4, .int .i64 a0_5, (.slice (some ad123) l0_6.length c0_6)] 24 (0, 0))) ∧ Aside0 (wc.heap[gb124]? = some (.cells #[.int .i64 ((rd_T32 l0_6 x15_1).f0), .int .i64 ((rd_T32 l0_6 x15_1).f1), .int .i64 ((rd_T32 l0_6 x15_1).f2), .int .i64 ((rd_T32 l0_6 x15_1).f3), .int .u8 ((rd_T32 l0_6 x15_1).f4)] 32 (0, 0))) ∧ Aside0 (Below w.heap.size w wc))
            case first =>
             as_aux_lemma =>
             have H := HC54.out
             clear HC54
             by_cases c55 : x15_1 > 0
             ·
              rw [if_pos c55] at H
              have c55b0 : decide (0 < x15_1) = true := decide_eq_true c55
              clear c55
              (first | rw [c55b0] | (simp only [i64_w, i32_w]; rw [c55b0]) | skip)
              by_cases c56 : a2 > 0
              ·
               rw [if_pos c56] at H
               have c56b0 : decide (0 < a2) = true := decide_eq_true c56
               clear c56
               obtain ⟨ji57, hji57⟩ : ∃ j_ : Int, (wrap64 (x15_1 - 1)) = j_ := ⟨_, rfl⟩
               replace H : (if 0 ≤ (ji57) then (if (ji57) < (l0_6.length : Int) then ((pylonref10_Good.f ((rd_T32 l0_6 (ji57)).f0) ((rd_T32 l0_6 (ji57)).f1) ((rd_T32 l0_6 (ji57)).f2) ((rd_T32 l0_6 (ji57)).f3) ((rd_T32 l0_6 (ji57)).f4)).bind fun t129 => (if t129 = true then (if ((rd_T32 l0_6 x15_1).f0) > ((rd_T32 l0_6 (ji57)).f0) then (pylonref10_Check.j3 kj33 a1 a2 (wrap64 (x8_1 + 1)) x15_1 x11_33 (l0_6.length : Int) x15_1 ((wrap64 (((rd_T32 l0_6 x15_1).f0) - 1)) == ((rd_T32 l0_6 (ji57)).f0)) a0_0 a0_1 a0_2 a0_3 a0_4 a0_5 l0_6 ((rd_T32 l0_6 x15_1).f0) ((rd_T32 l0_6 x15_1).f1) ((rd_T32 l0_6 x15_1).f2) ((rd_T32 l0_6 x15_1).f3) ((rd_T32 l0_6 x15_1).f4)) else (pylonref10_Check.j3 kj33 a1 a2 (wrap64 (x8_1 + 1)) x15_1 x11_33 (l0_6.length : Int) x15_1 false a0_0 a0_1 a0_2 a0_3 a0_4 a0_5 l0_6 ((rd_T32 l0_6 x15_1).f0) ((rd_T32 l0_6 x15_1).f1) ((rd_T32 l0_6 x15_1).f2) ((rd_T32 l0_6 x15_1).f3) ((rd_T32 l0_6 x15_1).f4))) else (pylonref10_Check.j3 kj33 a1 a2 (wrap64 (x8_1 + 1)) x15_1 x11_33 (l0_6.length : Int) x15_1 false a0_0 a0_1 a0_2 a0_3 a0_4 a0_5 l0_6 ((rd_T32 l0_6 x15_1).f0) ((rd_T32 l0_6 x15_1).f1) ((rd_T32 l0_6 x15_1).f2) ((rd_T32 l0_6 x15_1).f3) ((rd_T32 l0_6 x15_1).f4)))) else (none)) else (none)) = some (r1, r2) := by first | (rw [hji57] at H; exact H) | (simp only [hji57] at H ⊢; exact H)
               have hji57w : (IntKind.i64.wrap (x15_1 - 1)) = ji57 := (i64_w _).trans hji57
               by_cases c58 : 0 ≤ (ji57)
               ·
                rw [if_pos c58] at H
                have c58b0 : decide (0 ≤ (ji57)) = true := decide_eq_true c58
                clear c58
                by_cases c59 : (ji57) < (l0_6.length : Int)
                ·
                 rw [if_pos c59] at H
                 have c59b0 : decide ((ji57) < (l0_6.length : Int)) = true := decide_eq_true c59
                 clear c59
                 replace H := Option.bind_eq_some_iff.mp H
                 obtain ⟨t129, A600, H⟩ := H
                 replace H : (if t129 = true then (if ((rd_T32 l0_6 x15_1).f0) > ((rd_T32 l0_6 (ji57)).f0) then (pylonref10_Check.j3 kj33 a1 a2 (wrap64 (x8_1 + 1)) x15_1 x11_33 (l0_6.length : Int) x15_1 ((wrap64 (((rd_T32 l0_6 x15_1).f0) - 1)) == ((rd_T32 l0_6 (ji57)).f0)) a0_0 a0_1 a0_2 a0_3 a0_4 a0_5 l0_6 ((rd_T32 l0_6 x15_1).f0) ((rd_T32 l0_6 x15_1).f1) ((rd_T32 l0_6 x15_1).f2) ((rd_T32 l0_6 x15_1).f3) ((rd_T32 l0_6 x15_1).f4)) else (pylonref10_Check.j3 kj33 a1 a2 (wrap64 (x8_1 + 1)) x15_1 x11_33 (l0_6.length : Int) x15_1 false a0_0 a0_1 a0_2 a0_3 a0_4 a0_5 l0_6 ((rd_T32 l0_6 x15_1).f0) ((rd_T32 l0_6 x15_1).f1) ((rd_T32 l0_6 x15_1).f2) ((rd_T32 l0_6 x15_1).f3) ((rd_T32 l0_6 x15_1).f4))) else (pylonref10_Check.j3 kj33 a1 a2 (wrap64 (x8_1 + 1)) x15_1 x11_33 (l0_6.length : Int) x15_1 false a0_0 a0_1 a0_2 a0_3 a0_4 a0_5 l0_6 ((rd_T32 l0_6 x15_1).f0) ((rd_T32 l0_6 x15_1).f1) ((rd_T32 l0_6 x15_1).f2) ((rd_T32 l0_6 x15_1).f3) ((rd_T32 l0_6 x15_1).f4))) = some (r1, r2) := H
                 have A60 := Aside0.mk A600
                 clear A600
                 by_cases c61 : t129 = true
                 ·
                  subst c61
                  have H1 : (if ((rd_T32 l0_6 x15_1).f0) > ((rd_T32 l0_6 (ji57)).f0) then (pylonref10_Check.j3 kj33 a1 a2 (wrap64 (x8_1 + 1)) x15_1 x11_33 (l0_6.length : Int) x15_1 ((wrap64 (((rd_T32 l0_6 x15_1).f0) - 1)) == ((rd_T32 l0_6 (ji57)).f0)) a0_0 a0_1 a0_2 a0_3 a0_4 a0_5 l0_6 ((rd_T32 l0_6 x15_1).f0) ((rd_T32 l0_6 x15_1).f1) ((rd_T32 l0_6 x15_1).f2) ((rd_T32 l0_6 x15_1).f3) ((rd_T32 l0_6 x15_1).f4)) else (pylonref10_Check.j3 kj33 a1 a2 (wrap64 (x8_1 + 1)) x15_1 x11_33 (l0_6.length : Int) x15_1 false a0_0 a0_1 a0_2 a0_3 a0_4 a0_5 l0_6 ((rd_T32 l0_6 x15_1).f0) ((rd_T32 l0_6 x15_1).f1) ((rd_T32 l0_6 x15_1).f2) ((rd_T32 l0_6 x15_1).f3) ((rd_T32 l0_6 x15_1).f4))) = some (r1, r2) := by rw [if_pos rfl] at H; exact H
                  clear H
                  have H := H1
                  clear H1
                  by_cases c62 : ((rd_T32 l0_6 x15_1).f0) > ((rd_T32 l0_6 (ji57)).f0)
                  ·
                   rw [if_pos c62] at H
                   have c62b0 : decide (((rd_T32 l0_6 (ji57)).f0) < ((rd_T32 l0_6 x15_1).f0)) = true := decide_eq_true c62
                   clear c62
                   have H' := Aside0.mk H
                   clear H
                   try go_wp2
                   have n0_ := Aside0.mk (blk_drew BK122.out)
                   have n1_ := Aside0.mk (blk_drew BK124.out)
                   have n2_ := Aside0.mk (below_drew1 HB.out)
                   clear BK122
                   clear BK124
                   clear HB
                   have BK122 := n0_
                   have BK124 := n1_
                   have HB := n2_
                   clear n0_ n1_ n2_
                   have p128 : 0 ≤ ((ji57) : Int) := of_decide_eq_true (by first | (with_reducible assumption) | assumption)
                   have q128 : (ji57) < (l0_6.length : Int) := of_decide_eq_true (by first | (with_reducible assumption) | assumption)
                   obtain ⟨ad128, e128, hx128_0, hx128_1, hx128_2, hx128_3, hx128_4⟩ := at_T32 HR0_6.out (ji57) p128 q128
                   have hw128_4 := hx128_4
                   have hw128_3 := hx128_3
                   have hw128_2 := hx128_2
                   have hw128_1 := hx128_1
                   have hw128_0 := hx128_0
                   obtain rfl : ad123 = ad128 := (by injection e128)
                   replace hx128_0 := (HB.out.cell (World.block_lt_of_cell? w _ hx128_0)).trans hx128_0
                   replace hx128_1 := (HB.out.cell (World.block_lt_of_cell? w _ hx128_1)).trans hx128_1
                   replace hx128_2 := (HB.out.cell (World.block_lt_of_cell? w _ hx128_2)).trans hx128_2
                   replace hx128_3 := (HB.out.cell (World.block_lt_of_cell? w _ hx128_3)).trans hx128_3
                   replace hx128_4 := (HB.out.cell (World.block_lt_of_cell? w _ hx128_4)).trans hx128_4
                   replace p128 := eq_true p128
                   replace q128 := eq_true q128
                   have p130 : 0 ≤ ((ji57) : Int) := of_decide_eq_true (by first | (with_reducible assumption) | assumption)
                   have q130 : (ji57) < (l0_6.length : Int) := of_decide_eq_true (by first | (with_reducible assumption) | assumption)
                   obtain ⟨ad130, e130, hx130_0, hx130_1, hx130_2, hx130_3, hx130_4⟩ := at_T32 HR0_6.out (ji57) p130 q130
                   have hw130_4 := hx130_4
                   have hw130_3 := hx130_3
                   have hw130_2 := hx130_2
                   have hw130_1 := hx130_1
                   have hw130_0 := hx130_0
                   obtain rfl : ad123 = ad130 := (by injection e130)
                   replace hx130_0 := (HB.out.cell (World.block_lt_of_cell? w _ hx130_0)).trans hx130_0
                   replace hx130_1 := (HB.out.cell (World.block_lt_of_cell? w _ hx130_1)).trans hx130_1
                   replace hx130_2 := (HB.out.cell (World.block_lt_of_cell? w _ hx130_2)).trans hx130_2
                   replace hx130_3 := (HB.out.cell (World.block_lt_of_cell? w _ hx130_3)).trans hx130_3
                   replace hx130_4 := (HB.out.cell (World.block_lt_of_cell? w _ hx130_4)).trans hx130_4
                   replace p130 := eq_true p130
                   replace q130 := eq_true q130
                   have p131 : 0 ≤ ((ji57) : Int) := of_decide_eq_true (by first | (with_reducible assumption) | assumption)
                   have q131 : (ji57) < (l0_6.length : Int) := of_decide_eq_true (by first | (with_reducible assumption) | assumption)
                   obtain ⟨ad131, e131, hx131_0, hx131_1, hx131_2, hx131_3, hx131_4⟩ := at_T32 HR0_6.out (ji57) p131 q131
                   have hw131_4 := hx131_4
                   have hw131_3 := hx131_3
                   have hw131_2 := hx131_2
                   have hw131_1 := hx131_1
                   have hw131_0 := hx131_0
                   obtain rfl : ad123 = ad131 := (by injection e131)
                   replace hx131_0 := (HB.out.cell (World.block_lt_of_cell? w _ hx131_0)).trans hx131_0
                   replace hx131_1 := (HB.out.cell (World.block_lt_of_cell? w _ hx131_1)).trans hx131_1
                   replace hx131_2 := (HB.out.cell (World.block_lt_of_cell? w _ hx131_2)).trans hx131_2
                   replace hx131_3 := (HB.out.cell (World.block_lt_of_cell? w _ hx131_3)).trans hx131_3
                   replace hx131_4 := (HB.out.cell (World.block_lt_of_cell? w _ hx131_4)).trans hx131_4
                   replace p131 := eq_true p131
                   replace q131 := eq_true q131
                   refine start_ (n := 40) (S := fun w' => w'.cell? ⟨gb122, 0, none⟩ = some (.string a0_0) ∧ w'.cell? ⟨gb122, 1, none⟩ = some (.int .i64 a0_1) ∧ w'.cell? ⟨gb122, 2, none⟩ = some (.int .i64 a0_2) ∧ w'.cell? ⟨gb122, 3, none⟩ = some (.int .i64 a0_3) ∧ w'.cell? ⟨gb122, 4, none⟩ = some (.int .i64 a0_4) ∧ w'.cell? ⟨gb122, 5, none⟩ = some (.int .i64 a0_5) ∧ w'.cell? ⟨gb122, 6, none⟩ = some (.slice (some ad123) l0_6.length c0_6) ∧ w'.cell? ⟨gb124, 0, none⟩ = some (.int .i64 ((rd_T32 l0_6 x15_1).f0)) ∧ w'.cell? ⟨gb124, 1, none⟩ = some (.int .i64 ((rd_T32 l0_6 x15_1).f1)) ∧ w'.cell? ⟨gb124, 2, none⟩ = some (.int .i64 ((rd_T32 l0_6 x15_1).f2)) ∧ w'.cell? ⟨gb124, 3, none⟩ = some (.int .i64 ((rd_T32 l0_6 x15_1).f3)) ∧ w'.cell? ⟨gb124, 4, none⟩ = some (.int .u8 ((rd_T32 l0_6 x15_1).f4)) ∧ w'.cell? (ad123.add (((ji57)).toNat * 5)) = some (.int .i64 ((rd_T32 l0_6 (ji57)).f0)) ∧ w'.cell? ⟨(ad123.add (((ji57)).toNat * 5)).block, (ad123.add (((ji57)).toNat * 5)).off + 1, none⟩ = some (.int .i64 ((rd_T32 l0_6 (ji57)).f1)) ∧ w'.cell? ⟨(ad123.add (((ji57)).toNat * 5)).block, (ad123.add (((ji57)).toNat * 5)).off + 2, none⟩ = some (.int .i64 ((rd_T32 l0_6 (ji57)).f2)) ∧ w'.cell? ⟨(ad123.add (((ji57)).toNat * 5)).block, (ad123.add (((ji57)).toNat * 5)).off + 3, none⟩ = some (.int .i64 ((rd_T32 l0_6 (ji57)).f3)) ∧ w'.cell? ⟨(ad123.add (((ji57)).toNat * 5)).block, (ad123.add (((ji57)).toNat * 5)).off + 4, none⟩ = some (.int .u8 ((rd_T32 l0_6 (ji57)).f4)) ∧ w'.cell? (ad123.add (((ji57)).toNat * 5)) = some (.int .i64 ((rd_T32 l0_6 (ji57)).f0)) ∧ w'.cell? ⟨(ad123.add (((ji57)).toNat * 5)).block, (ad123.add (((ji57)).toNat * 5)).off + 1, none⟩ = some (.int .i64 ((rd_T32 l0_6 (ji57)).f1)) ∧ w'.cell? ⟨(ad123.add (((ji57)).toNat * 5)).block, (ad123.add (((ji57)).toNat * 5)).off + 2, none⟩ = some (.int .i64 ((rd_T32 l0_6 (ji57)).f2)) ∧ w'.cell? ⟨(ad123.add (((ji57)).toNat * 5)).block, (ad123.add (((ji57)).toNat * 5)).off + 3, none⟩ = some (.int .i64 ((rd_T32 l0_6 (ji57)).f3)) ∧ w'.cell? ⟨(ad123.add (((ji57)).toNat * 5)).block, (ad123.add (((ji57)).toNat * 5)).off + 4, none⟩ = some (.int .u8 ((rd_T32 l0_6 (ji57)).f4)) ∧ w'.cell? (ad123.add (((ji57)).toNat * 5)) = some (.int .i64 ((rd_T32 l0_6 (ji57)).f0)) ∧ w'.cell? ⟨(ad123.add (((ji57)).toNat * 5)).block, (ad123.add (((ji57)).toNat * 5)).off + 1, none⟩ = some (.int .i64 ((rd_T32 l0_6 (ji57)).f1)) ∧ w'.cell? ⟨(ad123.add (((ji57)).toNat * 5)).block, (ad123.add (((ji57)).toNat * 5)).off + 2, none⟩ = some (.int .i64 ((rd_T32 l0_6 (ji57)).f2)) ∧ w'.cell? ⟨(ad123.add (((ji57)).toNat * 5)).block, (ad123.add (((ji57)).toNat * 5)).off + 3, none⟩ = some (.int .i64 ((rd_T32 l0_6 (ji57)).f3)) ∧ w'.cell? ⟨(ad123.add (((ji57)).toNat * 5)).block, (ad123.add (((ji57)).toNat * 5)).off + 4, none⟩ = some (.int .u8 ((rd_T32 l0_6 (ji57)).f4))) (ds := []) (upT 0 40) (by kernel_rfl) rfl rfl ⟨(blk_cell BK122.out 0).trans rfl, (blk_cell BK122.out 1).trans rfl, (blk_cell BK122.out 2).trans rfl, (blk_cell BK122.out 3).trans rfl, (blk_cell BK122.out 4).trans rfl, (blk_cell BK122.out 5).trans rfl, (blk_cell BK122.out 6).trans rfl, (blk_cell BK124.out 0).trans rfl, (blk_cell BK124.out 1).trans rfl, (blk_cell BK124.out 2).trans rfl, (blk_cell BK124.out 3).trans rfl, (blk_cell BK124.out 4).trans rfl, ((HB.out.cell (World.block_lt_of_cell? w _ hw128_0)).trans hw128_0), ((HB.out.cell (World.block_lt_of_cell? w _ hw128_1)).trans hw128_1), ((HB.out.cell (World.block_lt_of_cell? w _ hw128_2)).trans hw128_2), ((HB.out.cell (World.block_lt_of_cell? w _ hw128_3)).trans hw128_3), ((HB.out.cell (World.block_lt_of_cell? w _ hw128_4)).trans hw128_4), ((HB.out.cell (World.block_lt_of_cell? w _ hw130_0)).trans hw130_0), ((HB.out.cell (World.block_lt_of_cell? w _ hw130_1)).trans hw130_1), ((HB.out.cell (World.block_lt_of_cell? w _ hw130_2)).trans hw130_2), ((HB.out.cell (World.block_lt_of_cell? w _ hw130_3)).trans hw130_3), ((HB.out.cell (World.block_lt_of_cell? w _ hw130_4)).trans hw130_4), ((HB.out.cell (World.block_lt_of_cell? w _ hw131_0)).trans hw131_0), ((HB.out.cell (World.block_lt_of_cell? w _ hw131_1)).trans hw131_1), ((HB.out.cell (World.block_lt_of_cell? w _ hw131_2)).trans hw131_2), ((HB.out.cell (World.block_lt_of_cell? w _ hw131_3)).trans hw131_3), ((HB.out.cell (World.block_lt_of_cell? w _ hw131_4)).trans hw131_4)⟩ (fun hHeld => ?_); refine with_tabW pylonref10_Check.tab10 pylonref10_Check.bits10 (fun HT_ HW_ => ?_)
                   generalize wc.drew = w63 at BK122 BK124 HB hx128_0 hx128_1 hx128_2 hx128_3 hx128_4 hx130_0 hx130_1 hx130_2 hx130_3 hx130_4 hx131_0 hx131_1 hx131_2 hx131_3 hx131_4 hHeld ⊢
                   refine pq 0 86 ?_ (upT 1 39) rfl rfl HT_ (by kernel_rfl) (fun _ _ _ h => h) (Or.inl ⟨by rfl, ?_⟩) ?_ ?_ ?_; rotate_left; (intro w'; go_simp; with_reducible rfl); rotate_left; (simp only [putS]; rfl)
                   refine pq 1 87 ?_ (upT 2 38) rfl rfl HT_ (by kernel_rfl) (fun _ _ _ h => h) (Or.inl ⟨by rfl, ?_⟩) ?_ ?_ ?_; rotate_left; (intro w'; go_simp; with_reducible rfl); rotate_left; (simp only [putS]; rfl)
                   refine pq 2 88 ?_ (upT 3 37) rfl rfl HT_ (by kernel_rfl) (fun _ _ _ h => h) (Or.inl ⟨by rfl, ?_⟩) ?_ ?_ ?_; rotate_left; (intro w'; go_simp; with_reducible rfl); rotate_left; (simp only [putS]; rfl)
                   refine pq 3 89 ?_ (upT 4 36) rfl rfl HT_ (by kernel_rfl) (fun _ _ _ h => h) (Or.inl ⟨by rfl, ?_⟩) ?_ ?_ ?_; rotate_left; (intro w'; go_simp; with_reducible rfl); rotate_left; (simp only [putS]; rfl)
                   refine pq 4 90 ?_ (upT 5 35) rfl rfl HT_ (by kernel_rfl) (fun _ _ _ h => h) (Or.inl ⟨by rfl, ?_⟩) ?_ ?_ ?_; rotate_left; (intro w'; go_simp; with_reducible rfl); rotate_left; (simp only [putS]; rfl)
                   refine pq 5 91 ?_ (upT 6 34) rfl rfl HT_ (by kernel_rfl) (fun _ _ _ h => h) (Or.inl ⟨by rfl, ?_⟩) ?_ ?_ ?_; rotate_left; (intro w'; go_simp; with_reducible rfl); rotate_left; (simp only [putS]; rfl)
                   refine pq 6 92 ?_ (upT 7 33) rfl rfl HT_ (by kernel_rfl) (fun _ _ _ h => h) (Or.inl ⟨by rfl, ?_⟩) ?_ ?_ ?_; rotate_left; (intro w'; go_simp; with_reducible rfl); rotate_left; (simp only [putS]; rfl)
                   refine pq 7 93 ?_ (upT 8 32) rfl rfl HT_ (by kernel_rfl) (fun _ _ _ h => h) (Or.inl ⟨by rfl, ?_⟩) ?_ ?_ ?_; rotate_left; (intro w'; go_simp; with_reducible rfl); rotate_left; (simp only [putS]; rfl)
                   refine pure_ (i := 9) (N := some 95) (v := ?_) (a' := ?_) #[true, true, true, true, true, true, true, true, false, true, false, false, false, false, false, false, false, false, false, false, false, false, false, false, false, false, false, false, false, false, false, false, false, false, false, false, false, false, false, false] rfl rfl (any_of HT_.out (by kernel_rfl)) (fun _ _ _ h => h) (Or.inl ⟨by rfl, ?_⟩) ?_ ?_; rotate_left; (intro w'; go_simp; with_reducible rfl); rotate_left; (simp only [putS]; rfl)
                   refine pure_ (i := 10) (N := some 96) (v := ?_) (a' := ?_) #[true, true, true, true, true, true, true, true, false, true, true, false, false, false, false, false, false, false, false, false, false, false, false, false, false, false, false, false, false, false, false, false, false, false, false, false, false, false, false, false] rfl rfl (any_of HT_.out (by kernel_rfl)) (fun _ _ _ h => h) (Or.inl ⟨by rfl, ?_⟩) ?_ ?_; rotate_left; (intro w'; go_simp; with_reducible rfl); rotate_left; (simp only [putS]; rfl)
                   refine take_ (i := 8) (N := some 94) (v := ?_) (a' := ?_) (upT 11 29) rfl rfl (take_ofW HT_.out HW_.out (by kernel_rfl)) (fun _ _ _ h => h) (Or.inl ⟨by rfl, ?_⟩) hHeld ?_ ?_
                   rotate_left
                   ·
                    rintro w' ⟨s0, s1, s2, s3, s4, s5, s6, s7, s8, s9, s10, s11, s12, s13, s14, s15, s16, s17, s18, s19, s20, s21, s22, s23, s24, s25, s26⟩
                    go_simp
                    with_reducible rfl
                   rotate_left; (simp only [putS]; rfl)
                   refine pq 11 97 ?_ (upT 12 28) rfl rfl HT_ (by kernel_rfl) (fun _ _ _ h => h) (Or.inl ⟨by rfl, ?_⟩) ?_ ?_ ?_; rotate_left; (intro w'; go_simp; with_reducible rfl); rotate_left; (simp only [putS]; rfl)
                   refine take_ (i := 12) (N := some 98) (v := ?_) (a' := ?_) (upT 13 27) rfl rfl (take_ofW HT_.out HW_.out (by kernel_rfl)) (fun _ _ _ h => h) (Or.inl ⟨by rfl, ?_⟩) hHeld ?_ ?_
                   rotate_left
                   ·
                    rintro w' ⟨s0, s1, s2, s3, s4, s5, s6, s7, s8, s9, s10, s11, s12, s13, s14, s15, s16, s17, s18, s19, s20, s21, s22, s23, s24, s25, s26⟩
                    go_simp
                    with_reducible rfl
                   rotate_left; (simp only [putS]; rfl)
                   refine one_ (i := 13) (N := some 99) (upT 14 26) rfl rfl (one_of HT_.out (by kernel_rfl)) (by decide) (fun K hK => ?_)
                   refine goes_ Try.func18 (by kernel_rfl) rfl #[.agg #[.int .i64 ((rd_T32 l0_6 (ji57)).f0), .int .i64 ((rd_T32 l0_6 (ji57)).f1), .int .i64 ((rd_T32 l0_6 (ji57)).f2), .int .i64 ((rd_T32 l0_6 (ji57)).f3), .int .u8 ((rd_T32 l0_6 (ji57)).f4)]] (by rfl) rfl rfl (by (try simp only [List.map_toArray, List.map_cons, List.map_nil]); first | done | (simp only [hji57]; rfl) | rfl | (simp only [List.length_drop, List.length_take]; rfl)) ?_
                   with_reducible refine (pylonref10_Good.calls ((rd_T32 l0_6 (ji57)).f0) ((rd_T32 l0_6 (ji57)).f1) ((rd_T32 l0_6 (ji57)).f2) ((rd_T32 l0_6 (ji57)).f3) ((rd_T32 l0_6 (ji57)).f4) true _ A60.out).mono ?_
                   rintro e w64 ⟨rfl, hb⟩
                   refine ⟨_, rfl, ?_⟩
                   have n0_ := Aside0.mk (blk_below (g := gb122) (o := .cells #[.string a0_0, .int .i64 a0_1, .int .i64 a0_2, .int .i64 a0_3, .int .i64 a0_4, .int .i64 a0_5, .slice (some ad123) l0_6.length c0_6] 24 (0, 0)) (by (with_reducible repeat (first | refine blk_drewN ?_ _ | refine blk_drew ?_ | refine blk_alloc ?_ _)); exact BK122.out) hb)
                   have n1_ := Aside0.mk (blk_below (g := gb124) (o := .cells #[.int .i64 ((rd_T32 l0_6 x15_1).f0), .int .i64 ((rd_T32 l0_6 x15_1).f1), .int .i64 ((rd_T32 l0_6 x15_1).f2), .int .i64 ((rd_T32 l0_6 x15_1).f3), .int .u8 ((rd_T32 l0_6 x15_1).f4)] 32 (0, 0)) (by (with_reducible repeat (first | refine blk_drewN ?_ _ | refine blk_drew ?_ | refine blk_alloc ?_ _)); exact BK124.out) hb)
                   have n2_ := Aside0.mk (below_step (by repeat (first | (with_reducible first | exact HB.out | apply below_alloc | apply pw_below_drewN | apply below_drew1 | refine below_set ?_ GE122.out | refine below_set ?_ GE124.out) | exact HB.out)) hb)
                   clear BK122
                   clear BK124
                   clear HB
                   have BK122 := n0_
                   have BK124 := n1_
                   have HB := n2_
                   clear n0_ n1_ n2_
                   (try clear hb)
                   (try clear hb2)
                   (try clear hk)
                   (try clear hi)
                   refine hK.out _ _ ⟨(blk_cell BK122.out 0).trans rfl, (blk_cell BK122.out 1).trans rfl, (blk_cell BK122.out 2).trans rfl, (blk_cell BK122.out 3).trans rfl, (blk_cell BK122.out 4).trans rfl, (blk_cell BK122.out 5).trans rfl, (blk_cell BK122.out 6).trans rfl, (blk_cell BK124.out 0).trans rfl, (blk_cell BK124.out 1).trans rfl, (blk_cell BK124.out 2).trans rfl, (blk_cell BK124.out 3).trans rfl, (blk_cell BK124.out 4).trans rfl, ((HB.out.cell (World.block_lt_of_cell? w _ hw128_0)).trans hw128_0), ((HB.out.cell (World.block_lt_of_cell? w _ hw128_1)).trans hw128_1), ((HB.out.cell (World.block_lt_of_cell? w _ hw128_2)).trans hw128_2), ((HB.out.cell (World.block_lt_of_cell? w _ hw128_3)).trans hw128_3), ((HB.out.cell (World.block_lt_of_cell? w _ hw128_4)).trans hw128_4), ((HB.out.cell (World.block_lt_of_cell? w _ hw130_0)).trans hw130_0), ((HB.out.cell (World.block_lt_of_cell? w _ hw130_1)).trans hw130_1), ((HB.out.cell (World.block_lt_of_cell? w _ hw130_2)).trans hw130_2), ((HB.out.cell (World.block_lt_of_cell? w _ hw130_3)).trans hw130_3), ((HB.out.cell (World.block_lt_of_cell? w _ hw130_4)).trans hw130_4), ((HB.out.cell (World.block_lt_of_cell? w _ hw131_0)).trans hw131_0), ((HB.out.cell (World.block_lt_of_cell? w _ hw131_1)).trans hw131_1), ((HB.out.cell (World.block_lt_of_cell? w _ hw131_2)).trans hw131_2), ((HB.out.cell (World.block_lt_of_cell? w _ hw131_3)).trans hw131_3), ((HB.out.cell (World.block_lt_of_cell? w _ hw131_4)).trans hw131_4)⟩ (fun hHeld => ?_)
                   clear hK K
                   refine norm_ (a' := ?_) ?_ ?_
                   rotate_left
                   ·
                    show Act.put _ (some 99) _ = _
                    simp only [putS]
                    rfl
                   refine pq 14 100 ?_ (upT 15 25) rfl rfl HT_ (by kernel_rfl) (fun _ _ _ h => h) (Or.inl ⟨by rfl, ?_⟩) ?_ ?_ ?_; rotate_left; (intro w'; go_simp; with_reducible rfl); rotate_left; (simp only [putS]; rfl)
                   refine pq 15 101 ?_ (upT 16 24) rfl rfl HT_ (by kernel_rfl) (fun _ _ _ h => h) (Or.inl ⟨by rfl, ?_⟩) ?_ ?_ ?_; rotate_left; (intro w'; go_simp; with_reducible rfl); rotate_left; (simp only [putS]; rfl)
                   refine pq 16 102 ?_ (upT 17 23) rfl rfl HT_ (by kernel_rfl) (fun _ _ _ h => h) (Or.inl ⟨by rfl, ?_⟩) ?_ ?_ ?_; rotate_left; (intro w'; go_simp; with_reducible rfl); rotate_left; (simp only [putS]; rfl)
                   refine pure_ (i := 18) (N := some 104) (v := ?_) (a' := ?_) #[true, true, true, true, true, true, true, true, true, true, true, true, true, true, true, true, true, false, true, false, false, false, false, false, false, false, false, false, false, false, false, false, false, false, false, false, false, false, false, false] rfl rfl (any_of HT_.out (by kernel_rfl)) (fun _ _ _ h => h) (Or.inl ⟨by rfl, ?_⟩) ?_ ?_; rotate_left; (intro w'; go_simp; with_reducible rfl); rotate_left; (simp only [putS]; rfl)
                   refine pure_ (i := 20) (N := some 106) (v := ?_) (a' := ?_) #[true, true, true, true, true, true, true, true, true, true, true, true, true, true, true, true, true, false, true, false, true, false, false, false, false, false, false, false, false, false, false, false, false, false, false, false, false, false, false, false] rfl rfl (any_of HT_.out (by kernel_rfl)) (fun _ _ _ h => h) (Or.inl ⟨by rfl, ?_⟩) ?_ ?_; rotate_left; (intro w'; go_simp; with_reducible rfl); rotate_left; (simp only [putS]; rfl)
                   refine pure_ (i := 21) (N := some 107) (v := ?_) (a' := ?_) #[true, true, true, true, true, true, true, true, true, true, true, true, true, true, true, true, true, false, true, false, true, true, false, false, false, false, false, false, false, false, false, false, false, false, false, false, false, false, false, false] rfl rfl (any_of HT_.out (by kernel_rfl)) (fun _ _ _ h => h) (Or.inl ⟨by rfl, ?_⟩) ?_ ?_; rotate_left; (intro w'; go_simp; with_reducible rfl); rotate_left; (simp only [putS]; rfl)
                   refine take_ (i := 17) (N := some 103) (v := ?_) (a' := ?_) #[true, true, true, true, true, true, true, true, true, true, true, true, true, true, true, true, true, true, true, false, true, true, false, false, false, false, false, false, false, false, false, false, false, false, false, false, false, false, false, false] rfl rfl (take_ofW HT_.out HW_.out (by kernel_rfl)) (fun _ _ _ h => h) (Or.inl ⟨by rfl, ?_⟩) hHeld ?_ ?_
                   rotate_left
                   ·
                    rintro w' ⟨s0, s1, s2, s3, s4, s5, s6, s7, s8, s9, s10, s11, s12, s13, s14, s15, s16, s17, s18, s19, s20, s21, s22, s23, s24, s25, s26⟩
                    go_simp
                    with_reducible rfl
                   rotate_left; (simp only [putS]; rfl)
                   refine take_ (i := 19) (N := some 105) (v := ?_) (a' := ?_) (upT 22 18) rfl rfl (take_ofW HT_.out HW_.out (by kernel_rfl)) (fun _ _ _ h => h) (Or.inl ⟨by rfl, ?_⟩) hHeld ?_ ?_
                   rotate_left
                   ·
                    rintro w' ⟨s0, s1, s2, s3, s4, s5, s6, s7, s8, s9, s10, s11, s12, s13, s14, s15, s16, s17, s18, s19, s20, s21, s22, s23, s24, s25, s26⟩
                    go_simp
                    with_reducible rfl
                   rotate_left; (simp only [putS]; rfl)
                   refine pq 22 108 ?_ (upT 23 17) rfl rfl HT_ (by kernel_rfl) (fun _ _ _ h => h) (Or.inl ⟨by rfl, ?_⟩) ?_ ?_ ?_; rotate_left; (intro w'; go_simp; with_reducible rfl); rotate_left; (simp only [putS]; rfl)
                   refine pq 23 109 ?_ (upT 24 16) rfl rfl HT_ (by kernel_rfl) (fun _ _ _ h => h) (Or.inl ⟨by rfl, ?_⟩) ?_ ?_ ?_; rotate_left; (intro w'; go_simp; with_reducible rfl); rotate_left; (simp only [putS]; rfl)
                   refine take_ (i := 24) (N := some 110) (v := ?_) (a' := ?_) (upT 25 15) rfl rfl (take_ofW HT_.out HW_.out (by kernel_rfl)) (fun _ _ _ h => h) (Or.inl ⟨by rfl, ?_⟩) hHeld ?_ ?_
                   rotate_left
                   ·
                    rintro w' ⟨s0, s1, s2, s3, s4, s5, s6, s7, s8, s9, s10, s11, s12, s13, s14, s15, s16, s17, s18, s19, s20, s21, s22, s23, s24, s25, s26⟩
                    go_simp
                    with_reducible rfl
                   rotate_left; (simp only [putS]; rfl)
                   refine pq 25 111 ?_ (upT 26 14) rfl rfl HT_ (by kernel_rfl) (fun _ _ _ h => h) (Or.inl ⟨by rfl, ?_⟩) ?_ ?_ ?_; rotate_left; (intro w'; go_simp; with_reducible rfl); rotate_left; (simp only [putS]; rfl)
                   refine pq 26 112 ?_ (upT 27 13) rfl rfl HT_ (by kernel_rfl) (fun _ _ _ h => h) (Or.inl ⟨by rfl, ?_⟩) ?_ ?_ ?_; rotate_left; (intro w'; go_simp; with_reducible rfl); rotate_left; (simp only [putS]; rfl)
                   refine pq 27 113 ?_ (upT 28 12) rfl rfl HT_ (by kernel_rfl) (fun _ _ _ h => h) (Or.inl ⟨by rfl, ?_⟩) ?_ ?_ ?_; rotate_left; (intro w'; go_simp; with_reducible rfl); rotate_left; (simp only [putS]; rfl)
                   refine pq 28 114 ?_ (upT 29 11) rfl rfl HT_ (by kernel_rfl) (fun _ _ _ h => h) (Or.inl ⟨by rfl, ?_⟩) ?_ ?_ ?_; rotate_left; (intro w'; go_simp; with_reducible rfl); rotate_left; (simp only [putS]; rfl)
                   refine pure_ (i := 31) (N := some 117) (v := ?_) (a' := ?_) #[true, true, true, true, true, true, true, true, true, true, true, true, true, true, true, true, true, true, true, true, true, true, true, true, true, true, true, true, true, false, false, true, false, false, false, false, false, false, false, false] rfl rfl (any_of HT_.out (by kernel_rfl)) (fun _ _ _ h => h) (Or.inl ⟨by rfl, ?_⟩) ?_ ?_; rotate_left; (intro w'; go_simp; with_reducible rfl); rotate_left; (simp only [putS]; rfl)
                   refine pure_ (i := 33) (N := some 119) (v := ?_) (a' := ?_) #[true, true, true, true, true, true, true, true, true, true, true, true, true, true, true, true, true, true, true, true, true, true, true, true, true, true, true, true, true, false, false, true, false, true, false, false, false, false, false, false] rfl rfl (any_of HT_.out (by kernel_rfl)) (fun _ _ _ h => h) (Or.inl ⟨by rfl, ?_⟩) ?_ ?_; rotate_left; (intro w'; go_simp; with_reducible rfl); rotate_left; (simp only [putS]; rfl)
                   refine pure_ (i := 34) (N := some 120) (v := ?_) (a' := ?_) #[true, true, true, true, true, true, true, true, true, true, true, true, true, true, true, true, true, true, true, true, true, true, true, true, true, true, true, true, true, false, false, true, false, true, true, false, false, false, false, false] rfl rfl (any_of HT_.out (by kernel_rfl)) (fun _ _ _ h => h) (Or.inl ⟨by rfl, ?_⟩) ?_ ?_; rotate_left; (intro w'; go_simp; with_reducible rfl); rotate_left; (simp only [putS]; rfl)
                   refine take_ (i := 29) (N := some 115) (v := ?_) (a' := ?_) #[true, true, true, true, true, true, true, true, true, true, true, true, true, true, true, true, true, true, true, true, true, true, true, true, true, true, true, true, true, true, false, true, false, true, true, false, false, false, false, false] rfl rfl (take_ofW HT_.out HW_.out (by kernel_rfl)) (fun _ _ _ h => h) (Or.inl ⟨by rfl, ?_⟩) hHeld ?_ ?_
                   rotate_left
                   ·
                    rintro w' ⟨s0, s1, s2, s3, s4, s5, s6, s7, s8, s9, s10, s11, s12, s13, s14, s15, s16, s17, s18, s19, s20, s21, s22, s23, s24, s25, s26⟩
                    go_simp
                    with_reducible rfl
                   rotate_left; (simp only [putS]; rfl)
                   refine pure_ (i := 30) (N := some 116) (v := ?_) (a' := ?_) #[true, true, true, true, true, true, true, true, true, true, true, true, true, true, true, true, true, true, true, true, true, true, true, true, true, true, true, true, true, true, true, true, false, true, true, false, false, false, false, false] rfl rfl (any_of HT_.out (by kernel_rfl)) (fun _ _ _ h => h) (Or.inl ⟨by rfl, ?_⟩) ?_ ?_; rotate_left; (intro w'; go_simp; with_reducible rfl); rotate_left; (simp only [putS]; rfl)
                   refine take_ (i := 32) (N := some 118) (v := ?_) (a' := ?_) (upT 35 5) rfl rfl (take_ofW HT_.out HW_.out (by kernel_rfl)) (fun _ _ _ h => h) (Or.inl ⟨by rfl, ?_⟩) hHeld ?_ ?_
                   rotate_left
                   ·
                    rintro w' ⟨s0, s1, s2, s3, s4, s5, s6, s7, s8, s9, s10, s11, s12, s13, s14, s15, s16, s17, s18, s19, s20, s21, s22, s23, s24, s25, s26⟩
                    go_simp
                    with_reducible rfl
                   rotate_left; (simp only [putS]; rfl)
                   refine pq 35 121 ?_ (upT 36 4) rfl rfl HT_ (by kernel_rfl) (fun _ _ _ h => h) (Or.inl ⟨by rfl, ?_⟩) ?_ ?_ ?_; rotate_left; (intro w'; go_simp; with_reducible rfl); rotate_left; (simp only [putS]; rfl)
                   refine pq 36 122 ?_ (upT 37 3) rfl rfl HT_ (by kernel_rfl) (fun _ _ _ h => h) (Or.inl ⟨by rfl, ?_⟩) ?_ ?_ ?_; rotate_left; (intro w'; go_simp; with_reducible rfl); rotate_left; (simp only [putS]; rfl)
                   refine take_ (i := 37) (N := some 123) (v := ?_) (a' := ?_) (upT 38 2) rfl rfl (take_ofW HT_.out HW_.out (by kernel_rfl)) (fun _ _ _ h => h) (Or.inl ⟨by rfl, ?_⟩) hHeld ?_ ?_
                   rotate_left
                   ·
                    rintro w' ⟨s0, s1, s2, s3, s4, s5, s6, s7, s8, s9, s10, s11, s12, s13, s14, s15, s16, s17, s18, s19, s20, s21, s22, s23, s24, s25, s26⟩
                    go_simp
                    with_reducible rfl
                   rotate_left; (simp only [putS]; rfl)
                   refine pq 38 124 ?_ (upT 39 1) rfl rfl HT_ (by kernel_rfl) (fun _ _ _ h => h) (Or.inl ⟨by rfl, ?_⟩) ?_ ?_ ?_; rotate_left; (intro w'; go_simp; with_reducible rfl); rotate_left; (simp only [putS]; rfl)
                   refine pq 39 125 ?_ (upT 40 0) rfl rfl HT_ (by kernel_rfl) (fun _ _ _ h => h) (Or.inl ⟨by rfl, ?_⟩) ?_ ?_ ?_; rotate_left; (intro w'; go_simp; with_reducible rfl); rotate_left; (simp only [putS]; rfl)
                   refine done_ (done_of HT_.out (by kernel_rfl)) ?_
                   try go_wp2
                   go_meet
                   case rel => exact ⟨_, (((wrap64 (((rd_T32 l0_6 x15_1).f0) - 1)) == ((rd_T32 l0_6 (ji57)).f0))), (by first | rfl | (simp; done) | (simp only [← hji57] <;> (first | rfl | simp)) | (simp [*]; done)), H', ⟨by have := HK1.out; have := HJ8.out; have := HJ33.out; first | omega | exact Nat.le_refl _⟩, ⟨by (with_reducible repeat (first | refine blk_drewN ?_ _ | refine blk_drew ?_ | refine blk_alloc ?_ _)); exact BK122.out⟩, ⟨by (with_reducible repeat (first | refine blk_drewN ?_ _ | refine blk_drew ?_ | refine blk_alloc ?_ _)); exact BK124.out⟩, ⟨by repeat (first | (with_reducible first | exact HB.out | apply below_alloc | apply pw_below_drewN | apply below_drew1 | refine below_set ?_ GE122.out | refine below_set ?_ GE124.out) | exact HB.out)⟩⟩
                  ·
                   rw [if_neg c62] at H
                   have c62b0 : decide (((rd_T32 l0_6 (ji57)).f0) < ((rd_T32 l0_6 x15_1).f0)) = false := decide_eq_false c62
                   clear c62
                   have H' := Aside0.mk H
                   clear H
                   try go_wp2
                   have n0_ := Aside0.mk (blk_drew BK122.out)
                   have n1_ := Aside0.mk (blk_drew BK124.out)
                   have n2_ := Aside0.mk (below_drew1 HB.out)
                   clear BK122
                   clear BK124
                   clear HB
                   have BK122 := n0_
                   have BK124 := n1_
                   have HB := n2_
                   clear n0_ n1_ n2_
                   have p128 : 0 ≤ ((ji57) : Int) := of_decide_eq_true (by first | (with_reducible assumption) | assumption)
                   have q128 : (ji57) < (l0_6.length : Int) := of_decide_eq_true (by first | (with_reducible assumption) | assumption)
                   obtain ⟨ad128, e128, hx128_0, hx128_1, hx128_2, hx128_3, hx128_4⟩ := at_T32 HR0_6.out (ji57) p128 q128
                   have hw128_4 := hx128_4
                   have hw128_3 := hx128_3
                   have hw128_2 := hx128_2
                   have hw128_1 := hx128_1
                   have hw128_0 := hx128_0
                   obtain rfl : ad123 = ad128 := (by injection e128)
                   replace hx128_0 := (HB.out.cell (World.block_lt_of_cell? w _ hx128_0)).trans hx128_0
                   replace hx128_1 := (HB.out.cell (World.block_lt_of_cell? w _ hx128_1)).trans hx128_1
                   replace hx128_2 := (HB.out.cell (World.block_lt_of_cell? w _ hx128_2)).trans hx128_2
                   replace hx128_3 := (HB.out.cell (World.block_lt_of_cell? w _ hx128_3)).trans hx128_3
                   replace hx128_4 := (HB.out.cell (World.block_lt_of_cell? w _ hx128_4)).trans hx128_4
                   replace p128 := eq_true p128
                   replace q128 := eq_true q128
                   have p130 : 0 ≤ ((ji57) : Int) := of_decide_eq_true (by first | (with_reducible assumption) | assumption)
                   have q130 : (ji57) < (l0_6.length : Int) := of_decide_eq_true (by first | (with_reducible assumption) | assumption)
                   obtain ⟨ad130, e130, hx130_0, hx130_1, hx130_2, hx130_3, hx130_4⟩ := at_T32 HR0_6.out (ji57) p130 q130
                   have hw130_4 := hx130_4
                   have hw130_3 := hx130_3
                   have hw130_2 := hx130_2
                   have hw130_1 := hx130_1
                   have hw130_0 := hx130_0
                   obtain rfl : ad123 = ad130 := (by injection e130)
                   replace hx130_0 := (HB.out.cell (World.block_lt_of_cell? w _ hx130_0)).trans hx130_0
                   replace hx130_1 := (HB.out.cell (World.block_lt_of_cell? w _ hx130_1)).trans hx130_1
                   replace hx130_2 := (HB.out.cell (World.block_lt_of_cell? w _ hx130_2)).trans hx130_2
                   replace hx130_3 := (HB.out.cell (World.block_lt_of_cell? w _ hx130_3)).trans hx130_3
                   replace hx130_4 := (HB.out.cell (World.block_lt_of_cell? w _ hx130_4)).trans hx130_4
                   replace p130 := eq_true p130
                   replace q130 := eq_true q130
                   refine start_ (n := 40) (S := fun w' => w'.cell? ⟨gb122, 0, none⟩ = some (.string a0_0) ∧ w'.cell? ⟨gb122, 1, none⟩ = some (.int .i64 a0_1) ∧ w'.cell? ⟨gb122, 2, none⟩ = some (.int .i64 a0_2) ∧ w'.cell? ⟨gb122, 3, none⟩ = some (.int .i64 a0_3) ∧ w'.cell? ⟨gb122, 4, none⟩ = some (.int .i64 a0_4) ∧ w'.cell? ⟨gb122, 5, none⟩ = some (.int .i64 a0_5) ∧ w'.cell? ⟨gb122, 6, none⟩ = some (.slice (some ad123) l0_6.length c0_6) ∧ w'.cell? ⟨gb124, 0, none⟩ = some (.int .i64 ((rd_T32 l0_6 x15_1).f0)) ∧ w'.cell? ⟨gb124, 1, none⟩ = some (.int .i64 ((rd_T32 l0_6 x15_1).f1)) ∧ w'.cell? ⟨gb124, 2, none⟩ = some (.int .i64 ((rd_T32 l0_6 x15_1).f2)) ∧ w'.cell? ⟨gb124, 3, none⟩ = some (.int .i64 ((rd_T32 l0_6 x15_1).f3)) ∧ w'.cell? ⟨gb124, 4, none⟩ = some (.int .u8 ((rd_T32 l0_6 x15_1).f4)) ∧ w'.cell? (ad123.add (((ji57)).toNat * 5)) = some (.int .i64 ((rd_T32 l0_6 (ji57)).f0)) ∧ w'.cell? ⟨(ad123.add (((ji57)).toNat * 5)).block, (ad123.add (((ji57)).toNat * 5)).off + 1, none⟩ = some (.int .i64 ((rd_T32 l0_6 (ji57)).f1)) ∧ w'.cell? ⟨(ad123.add (((ji57)).toNat * 5)).block, (ad123.add (((ji57)).toNat * 5)).off + 2, none⟩ = some (.int .i64 ((rd_T32 l0_6 (ji57)).f2)) ∧ w'.cell? ⟨(ad123.add (((ji57)).toNat * 5)).block, (ad123.add (((ji57)).toNat * 5)).off + 3, none⟩ = some (.int .i64 ((rd_T32 l0_6 (ji57)).f3)) ∧ w'.cell? ⟨(ad123.add (((ji57)).toNat * 5)).block, (ad123.add (((ji57)).toNat * 5)).off + 4, none⟩ = some (.int .u8 ((rd_T32 l0_6 (ji57)).f4)) ∧ w'.cell? (ad123.add (((ji57)).toNat * 5)) = some (.int .i64 ((rd_T32 l0_6 (ji57)).f0)) ∧ w'.cell? ⟨(ad123.add (((ji57)).toNat * 5)).block, (ad123.add (((ji57)).toNat * 5)).off + 1, none⟩ = some (.int .i64 ((rd_T32 l0_6 (ji57)).f1)) ∧ w'.cell? ⟨(ad123.add (((ji57)).toNat * 5)).block, (ad123.add (((ji57)).toNat * 5)).off + 2, none⟩ = some (.int .i64 ((rd_T32 l0_6 (ji57)).f2)) ∧ w'.cell? ⟨(ad123.add (((ji57)).toNat * 5)).block, (ad123.add (((ji57)).toNat * 5)).off + 3, none⟩ = some (.int .i64 ((rd_T32 l0_6 (ji57)).f3)) ∧ w'.cell? ⟨(ad123.add (((ji57)).toNat * 5)).block, (ad123.add (((ji57)).toNat * 5)).off + 4, none⟩ = some (.int .u8 ((rd_T32 l0_6 (ji57)).f4))) (ds := []) (upT 0 40) (by kernel_rfl) rfl rfl ⟨(blk_cell BK122.out 0).trans rfl, (blk_cell BK122.out 1).trans rfl, (blk_cell BK122.out 2).trans rfl, (blk_cell BK122.out 3).trans rfl, (blk_cell BK122.out 4).trans rfl, (blk_cell BK122.out 5).trans rfl, (blk_cell BK122.out 6).trans rfl, (blk_cell BK124.out 0).trans rfl, (blk_cell BK124.out 1).trans rfl, (blk_cell BK124.out 2).trans rfl, (blk_cell BK124.out 3).trans rfl, (blk_cell BK124.out 4).trans rfl, ((HB.out.cell (World.block_lt_of_cell? w _ hw128_0)).trans hw128_0), ((HB.out.cell (World.block_lt_of_cell? w _ hw128_1)).trans hw128_1), ((HB.out.cell (World.block_lt_of_cell? w _ hw128_2)).trans hw128_2), ((HB.out.cell (World.block_lt_of_cell? w _ hw128_3)).trans hw128_3), ((HB.out.cell (World.block_lt_of_cell? w _ hw128_4)).trans hw128_4), ((HB.out.cell (World.block_lt_of_cell? w _ hw130_0)).trans hw130_0), ((HB.out.cell (World.block_lt_of_cell? w _ hw130_1)).trans hw130_1), ((HB.out.cell (World.block_lt_of_cell? w _ hw130_2)).trans hw130_2), ((HB.out.cell (World.block_lt_of_cell? w _ hw130_3)).trans hw130_3), ((HB.out.cell (World.block_lt_of_cell? w _ hw130_4)).trans hw130_4)⟩ (fun hHeld => ?_); refine with_tabW pylonref10_Check.tab10 pylonref10_Check.bits10 (fun HT_ HW_ => ?_)
                   generalize wc.drew = w65 at BK122 BK124 HB hx128_0 hx128_1 hx128_2 hx128_3 hx128_4 hx130_0 hx130_1 hx130_2 hx130_3 hx130_4 hHeld ⊢
                   refine pq 0 86 ?_ (upT 1 39) rfl rfl HT_ (by kernel_rfl) (fun _ _ _ h => h) (Or.inl ⟨by rfl, ?_⟩) ?_ ?_ ?_; rotate_left; (intro w'; go_simp; with_reducible rfl); rotate_left; (simp only [putS]; rfl)
                   refine pq 1 87 ?_ (upT 2 38) rfl rfl HT_ (by kernel_rfl) (fun _ _ _ h => h) (Or.inl ⟨by rfl, ?_⟩) ?_ ?_ ?_; rotate_left; (intro w'; go_simp; with_reducible rfl); rotate_left; (simp only [putS]; rfl)
                   refine pq 2 88 ?_ (upT 3 37) rfl rfl HT_ (by kernel_rfl) (fun _ _ _ h => h) (Or.inl ⟨by rfl, ?_⟩) ?_ ?_ ?_; rotate_left; (intro w'; go_simp; with_reducible rfl); rotate_left; (simp only [putS]; rfl)
                   refine pq 3 89 ?_ (upT 4 36) rfl rfl HT_ (by kernel_rfl) (fun _ _ _ h => h) (Or.inl ⟨by rfl, ?_⟩) ?_ ?_ ?_; rotate_left; (intro w'; go_simp; with_reducible rfl); rotate_left; (simp only [putS]; rfl)
                   refine pq 4 90 ?_ (upT 5 35) rfl rfl HT_ (by kernel_rfl) (fun _ _ _ h => h) (Or.inl ⟨by rfl, ?_⟩) ?_ ?_ ?_; rotate_left; (intro w'; go_simp; with_reducible rfl); rotate_left; (simp only [putS]; rfl)
                   refine pq 5 91 ?_ (upT 6 34) rfl rfl HT_ (by kernel_rfl) (fun _ _ _ h => h) (Or.inl ⟨by rfl, ?_⟩) ?_ ?_ ?_; rotate_left; (intro w'; go_simp; with_reducible rfl); rotate_left; (simp only [putS]; rfl)
                   refine pq 6 92 ?_ (upT 7 33) rfl rfl HT_ (by kernel_rfl) (fun _ _ _ h => h) (Or.inl ⟨by rfl, ?_⟩) ?_ ?_ ?_; rotate_left; (intro w'; go_simp; with_reducible rfl); rotate_left; (simp only [putS]; rfl)
                   refine pq 7 93 ?_ (upT 8 32) rfl rfl HT_ (by kernel_rfl) (fun _ _ _ h => h) (Or.inl ⟨by rfl, ?_⟩) ?_ ?_ ?_; rotate_left; (intro w'; go_simp; with_reducible rfl); rotate_left; (simp only [putS]; rfl)
                   refine pure_ (i := 9) (N := some 95) (v := ?_) (a' := ?_) #[true, true, true, true, true, true, true, true, false, true, false, false, false, false, false, false, false, false, false, false, false, false, false, false, false, false, false, false, false, false, false, false, false, false, false, false, false, false, false, false] rfl rfl (any_of HT_.out (by kernel_rfl)) (fun _ _ _ h => h) (Or.inl ⟨by rfl, ?_⟩) ?_ ?_; rotate_left; (intro w'; go_simp; with_reducible rfl); rotate_left; (simp only [putS]; rfl)
                   refine pure_ (i := 10) (N := some 96) (v := ?_) (a' := ?_) #[true, true, true, true, true, true, true, true, false, true, true, false, false, false, false, false, false, false, false, false, false, false, false, false, false, false, false, false, false, false, false, false, false, false, false, false, false, false, false, false] rfl rfl (any_of HT_.out (by kernel_rfl)) (fun _ _ _ h => h) (Or.inl ⟨by rfl, ?_⟩) ?_ ?_; rotate_left; (intro w'; go_simp; with_reducible rfl); rotate_left; (simp only [putS]; rfl)
                   refine take_ (i := 8) (N := some 94) (v := ?_) (a' := ?_) (upT 11 29) rfl rfl (take_ofW HT_.out HW_.out (by kernel_rfl)) (fun _ _ _ h => h) (Or.inl ⟨by rfl, ?_⟩) hHeld ?_ ?_
                   rotate_left
                   ·
                    rintro w' ⟨s0, s1, s2, s3, s4, s5, s6, s7, s8, s9, s10, s11, s12, s13, s14, s15, s16, s17, s18, s19, s20, s21⟩
                    go_simp
                    with_reducible rfl
                   rotate_left; (simp only [putS]; rfl)
                   refine pq 11 97 ?_ (upT 12 28) rfl rfl HT_ (by kernel_rfl) (fun _ _ _ h => h) (Or.inl ⟨by rfl, ?_⟩) ?_ ?_ ?_; rotate_left; (intro w'; go_simp; with_reducible rfl); rotate_left; (simp only [putS]; rfl)
                   refine take_ (i := 12) (N := some 98) (v := ?_) (a' := ?_) (upT 13 27) rfl rfl (take_ofW HT_.out HW_.out (by kernel_rfl)) (fun _ _ _ h => h) (Or.inl ⟨by rfl, ?_⟩) hHeld ?_ ?_
                   rotate_left
                   ·
                    rintro w' ⟨s0, s1, s2, s3, s4, s5, s6, s7, s8, s9, s10, s11, s12, s13, s14, s15, s16, s17, s18, s19, s20, s21⟩
                    go_simp
                    with_reducible rfl
                   rotate_left; (simp only [putS]; rfl)
                   refine one_ (i := 13) (N := some 99) (upT 14 26) rfl rfl (one_of HT_.out (by kernel_rfl)) (by decide) (fun K hK => ?_)
                   refine goes_ Try.func18 (by kernel_rfl) rfl #[.agg #[.int .i64 ((rd_T32 l0_6 (ji57)).f0), .int .i64 ((rd_T32 l0_6 (ji57)).f1), .int .i64 ((rd_T32 l0_6 (ji57)).f2), .int .i64 ((rd_T32 l0_6 (ji57)).f3), .int .u8 ((rd_T32 l0_6 (ji57)).f4)]] (by rfl) rfl rfl (by (try simp only [List.map_toArray, List.map_cons, List.map_nil]); first | done | (simp only [hji57]; rfl) | rfl | (simp only [List.length_drop, List.length_take]; rfl)) ?_
                   with_reducible refine (pylonref10_Good.calls ((rd_T32 l0_6 (ji57)).f0) ((rd_T32 l0_6 (ji57)).f1) ((rd_T32 l0_6 (ji57)).f2) ((rd_T32 l0_6 (ji57)).f3) ((rd_T32 l0_6 (ji57)).f4) true _ A60.out).mono ?_
                   rintro e w66 ⟨rfl, hb⟩
                   refine ⟨_, rfl, ?_⟩
                   have n0_ := Aside0.mk (blk_below (g := gb122) (o := .cells #[.string a0_0, .int .i64 a0_1, .int .i64 a0_2, .int .i64 a0_3, .int .i64 a0_4, .int .i64 a0_5, .slice (some ad123) l0_6.length c0_6] 24 (0, 0)) (by (with_reducible repeat (first | refine blk_drewN ?_ _ | refine blk_drew ?_ | refine blk_alloc ?_ _)); exact BK122.out) hb)
                   have n1_ := Aside0.mk (blk_below (g := gb124) (o := .cells #[.int .i64 ((rd_T32 l0_6 x15_1).f0), .int .i64 ((rd_T32 l0_6 x15_1).f1), .int .i64 ((rd_T32 l0_6 x15_1).f2), .int .i64 ((rd_T32 l0_6 x15_1).f3), .int .u8 ((rd_T32 l0_6 x15_1).f4)] 32 (0, 0)) (by (with_reducible repeat (first | refine blk_drewN ?_ _ | refine blk_drew ?_ | refine blk_alloc ?_ _)); exact BK124.out) hb)
                   have n2_ := Aside0.mk (below_step (by repeat (first | (with_reducible first | exact HB.out | apply below_alloc | apply pw_below_drewN | apply below_drew1 | refine below_set ?_ GE122.out | refine below_set ?_ GE124.out) | exact HB.out)) hb)
                   clear BK122
                   clear BK124
                   clear HB
                   have BK122 := n0_
                   have BK124 := n1_
                   have HB := n2_
                   clear n0_ n1_ n2_
                   (try clear hb)
                   (try clear hb2)
                   (try clear hk)
                   (try clear hi)
                   refine hK.out _ _ ⟨(blk_cell BK122.out 0).trans rfl, (blk_cell BK122.out 1).trans rfl, (blk_cell BK122.out 2).trans rfl, (blk_cell BK122.out 3).trans rfl, (blk_cell BK122.out 4).trans rfl, (blk_cell BK122.out 5).trans rfl, (blk_cell BK122.out 6).trans rfl, (blk_cell BK124.out 0).trans rfl, (blk_cell BK124.out 1).trans rfl, (blk_cell BK124.out 2).trans rfl, (blk_cell BK124.out 3).trans rfl, (blk_cell BK124.out 4).trans rfl, ((HB.out.cell (World.block_lt_of_cell? w _ hw128_0)).trans hw128_0), ((HB.out.cell (World.block_lt_of_cell? w _ hw128_1)).trans hw128_1), ((HB.out.cell (World.block_lt_of_cell? w _ hw128_2)).trans hw128_2), ((HB.out.cell (World.block_lt_of_cell? w _ hw128_3)).trans hw128_3), ((HB.out.cell (World.block_lt_of_cell? w _ hw128_4)).trans hw128_4), ((HB.out.cell (World.block_lt_of_cell? w _ hw130_0)).trans hw130_0), ((HB.out.cell (World.block_lt_of_cell? w _ hw130_1)).trans hw130_1), ((HB.out.cell (World.block_lt_of_cell? w _ hw130_2)).trans hw130_2), ((HB.out.cell (World.block_lt_of_cell? w _ hw130_3)).trans hw130_3), ((HB.out.cell (World.block_lt_of_cell? w _ hw130_4)).trans hw130_4)⟩ (fun hHeld => ?_)
                   clear hK K
                   refine norm_ (a' := ?_) ?_ ?_
                   rotate_left
                   ·
                    show Act.put _ (some 99) _ = _
                    simp only [putS]
                    rfl
                   refine pq 14 100 ?_ (upT 15 25) rfl rfl HT_ (by kernel_rfl) (fun _ _ _ h => h) (Or.inl ⟨by rfl, ?_⟩) ?_ ?_ ?_; rotate_left; (intro w'; go_simp; with_reducible rfl); rotate_left; (simp only [putS]; rfl)
                   refine pq 15 101 ?_ (upT 16 24) rfl rfl HT_ (by kernel_rfl) (fun _ _ _ h => h) (Or.inl ⟨by rfl, ?_⟩) ?_ ?_ ?_; rotate_left; (intro w'; go_simp; with_reducible rfl); rotate_left; (simp only [putS]; rfl)
                   refine pq 16 102 ?_ (upT 17 23) rfl rfl HT_ (by kernel_rfl) (fun _ _ _ h => h) (Or.inl ⟨by rfl, ?_⟩) ?_ ?_ ?_; rotate_left; (intro w'; go_simp; with_reducible rfl); rotate_left; (simp only [putS]; rfl)
                   refine pure_ (i := 18) (N := some 104) (v := ?_) (a' := ?_) #[true, true, true, true, true, true, true, true, true, true, true, true, true, true, true, true, true, false, true, false, false, false, false, false, false, false, false, false, false, false, false, false, false, false, false, false, false, false, false, false] rfl rfl (any_of HT_.out (by kernel_rfl)) (fun _ _ _ h => h) (Or.inl ⟨by rfl, ?_⟩) ?_ ?_; rotate_left; (intro w'; go_simp; with_reducible rfl); rotate_left; (simp only [putS]; rfl)
                   refine pure_ (i := 20) (N := some 106) (v := ?_) (a' := ?_) #[true, true, true, true, true, true, true, true, true, true, true, true, true, true, true, true, true, false, true, false, true, false, false, false, false, false, false, false, false, false, false, false, false, false, false, false, false, false, false, false] rfl rfl (any_of HT_.out (by kernel_rfl)) (fun _ _ _ h => h) (Or.inl ⟨by rfl, ?_⟩) ?_ ?_; rotate_left; (intro w'; go_simp; with_reducible rfl); rotate_left; (simp only [putS]; rfl)
                   refine pure_ (i := 21) (N := some 107) (v := ?_) (a' := ?_) #[true, true, true, true, true, true, true, true, true, true, true, true, true, true, true, true, true, false, true, false, true, true, false, false, false, false, false, false, false, false, false, false, false, false, false, false, false, false, false, false] rfl rfl (any_of HT_.out (by kernel_rfl)) (fun _ _ _ h => h) (Or.inl ⟨by rfl, ?_⟩) ?_ ?_; rotate_left; (intro w'; go_simp; with_reducible rfl); rotate_left; (simp only [putS]; rfl)
                   refine take_ (i := 17) (N := some 103) (v := ?_) (a' := ?_) #[true, true, true, true, true, true, true, true, true, true, true, true, true, true, true, true, true, true, true, false, true, true, false, false, false, false, false, false, false, false, false, false, false, false, false, false, false, false, false, false] rfl rfl (take_ofW HT_.out HW_.out (by kernel_rfl)) (fun _ _ _ h => h) (Or.inl ⟨by rfl, ?_⟩) hHeld ?_ ?_
                   rotate_left
                   ·
                    rintro w' ⟨s0, s1, s2, s3, s4, s5, s6, s7, s8, s9, s10, s11, s12, s13, s14, s15, s16, s17, s18, s19, s20, s21⟩
                    go_simp
                    with_reducible rfl
                   rotate_left; (simp only [putS]; rfl)
                   refine take_ (i := 19) (N := some 105) (v := ?_) (a' := ?_) (upT 22 18) rfl rfl (take_ofW HT_.out HW_.out (by kernel_rfl)) (fun _ _ _ h => h) (Or.inl ⟨by rfl, ?_⟩) hHeld ?_ ?_
                   rotate_left
                   ·
                    rintro w' ⟨s0, s1, s2, s3, s4, s5, s6, s7, s8, s9, s10, s11, s12, s13, s14, s15, s16, s17, s18, s19, s20, s21⟩
                    go_simp
                    with_reducible rfl
                   rotate_left; (simp only [putS]; rfl)
                   refine pq 22 108 ?_ (upT 23 17) rfl rfl HT_ (by kernel_rfl) (fun _ _ _ h => h) (Or.inl ⟨by rfl, ?_⟩) ?_ ?_ ?_; rotate_left; (intro w'; go_simp; with_reducible rfl); rotate_left; (simp only [putS]; rfl)
                   refine pq 23 109 ?_ (upT 24 16) rfl rfl HT_ (by kernel_rfl) (fun _ _ _ h => h) (Or.inl ⟨by rfl, ?_⟩) ?_ ?_ ?_; rotate_left; (intro w'; go_simp; with_reducible rfl); rotate_left; (simp only [putS]; rfl)
                   refine take_ (i := 24) (N := some 110) (v := ?_) (a' := ?_) (upT 25 15) rfl rfl (take_ofW HT_.out HW_.out (by kernel_rfl)) (fun _ _ _ h => h) (Or.inl ⟨by rfl, ?_⟩) hHeld ?_ ?_
                   rotate_left
                   ·
                    rintro w' ⟨s0, s1, s2, s3, s4, s5, s6, s7, s8, s9, s10, s11, s12, s13, s14, s15, s16, s17, s18, s19, s20, s21⟩
                    go_simp
                    with_reducible rfl
                   rotate_left; (simp only [putS]; rfl)
                   refine pq 25 111 ?_ (upT 26 14) rfl rfl HT_ (by kernel_rfl) (fun _ _ _ h => h) (Or.inl ⟨by rfl, ?_⟩) ?_ ?_ ?_; rotate_left; (intro w'; go_simp; with_reducible rfl); rotate_left; (simp only [putS]; rfl)
                   refine pq 26 112 ?_ (upT 27 13) rfl rfl HT_ (by kernel_rfl) (fun _ _ _ h => h) (Or.inl ⟨by rfl, ?_⟩) ?_ ?_ ?_; rotate_left; (intro w'; go_simp; with_reducible rfl); rotate_left; (simp only [putS]; rfl)
                   refine pq 27 113 ?_ (upT 28 12) rfl rfl HT_ (by kernel_rfl) (fun _ _ _ h => h) (Or.inl ⟨by rfl, ?_⟩) ?_ ?_ ?_; rotate_left; (intro w'; go_simp; with_reducible rfl); rotate_left; (simp only [putS]; rfl)
                   refine pq 28 114 undef (upT 29 11) rfl rfl HT_ (by kernel_rfl) (fun _ _ _ h => h) (Or.inr ⟨by rfl, rfl⟩) ?_ ?_ ?_
                   rotate_left; (simp only [putS]; rfl)
                   refine pq 29 115 undef (upT 30 10) rfl rfl HT_ (by kernel_rfl) (fun _ _ _ h => h) (Or.inr ⟨by rfl, rfl⟩) ?_ ?_ ?_
                   rotate_left; (simp only [putS]; rfl)
                   refine pq 30 116 undef (upT 31 9) rfl rfl HT_ (by kernel_rfl) (fun _ _ _ h => h) (Or.inr ⟨by rfl, rfl⟩) ?_ ?_ ?_
                   rotate_left; (simp only [putS]; rfl)
                   refine pq 31 117 undef (upT 32 8) rfl rfl HT_ (by kernel_rfl) (fun _ _ _ h => h) (Or.inr ⟨by rfl, rfl⟩) ?_ ?_ ?_
                   rotate_left; (simp only [putS]; rfl)
                   refine pq 32 118 undef (upT 33 7) rfl rfl HT_ (by kernel_rfl) (fun _ _ _ h => h) (Or.inr ⟨by rfl, rfl⟩) ?_ ?_ ?_
                   rotate_left; (simp only [putS]; rfl)
                   refine pq 33 119 undef (upT 34 6) rfl rfl HT_ (by kernel_rfl) (fun _ _ _ h => h) (Or.inr ⟨by rfl, rfl⟩) ?_ ?_ ?_
                   rotate_left; (simp only [putS]; rfl)
                   refine pq 34 120 undef (upT 35 5) rfl rfl HT_ (by kernel_rfl) (fun _ _ _ h => h) (Or.inr ⟨by rfl, rfl⟩) ?_ ?_ ?_
                   rotate_left; (simp only [putS]; rfl)
                   refine pq 35 121 undef (upT 36 4) rfl rfl HT_ (by kernel_rfl) (fun _ _ _ h => h) (Or.inr ⟨by rfl, rfl⟩) ?_ ?_ ?_
                   rotate_left; (simp only [putS]; rfl)
                   refine pq 36 122 undef (upT 37 3) rfl rfl HT_ (by kernel_rfl) (fun _ _ _ h => h) (Or.inr ⟨by rfl, rfl⟩) ?_ ?_ ?_
                   rotate_left; (simp only [putS]; rfl)
                   refine pq 37 123 undef (upT 38 2) rfl rfl HT_ (by kernel_rfl) (fun _ _ _ h => h) (Or.inr ⟨by rfl, rfl⟩) ?_ ?_ ?_
                   rotate_left; (simp only [putS]; rfl)
                   refine pq 38 124 undef (upT 39 1) rfl rfl HT_ (by kernel_rfl) (fun _ _ _ h => h) (Or.inr ⟨by rfl, rfl⟩) ?_ ?_ ?_
                   rotate_left; (simp only [putS]; rfl)
                   refine pq 39 125 ?_ (upT 40 0) rfl rfl HT_ (by kernel_rfl) (fun _ _ _ h => h) (Or.inl ⟨by rfl, ?_⟩) ?_ ?_ ?_; rotate_left; (intro w'; go_simp; with_reducible rfl); rotate_left; (simp only [putS]; rfl)
                   refine done_ (done_of HT_.out (by kernel_rfl)) ?_
                   try go_wp2
                   go_meet
                   case rel => exact ⟨_, (false), (by first | rfl | (simp; done) | (simp [*]; done)), H', ⟨by have := HK1.out; have := HJ8.out; have := HJ33.out; first | omega | exact Nat.le_refl _⟩, ⟨by (with_reducible repeat (first | refine blk_drewN ?_ _ | refine blk_drew ?_ | refine blk_alloc ?_ _)); exact BK122.out⟩, ⟨by (with_reducible repeat (first | refine blk_drewN ?_ _ | refine blk_drew ?_ | refine blk_alloc ?_ _)); exact BK124.out⟩, ⟨by repeat (first | (with_reducible first | exact HB.out | apply below_alloc | apply pw_below_drewN | apply below_drew1 | refine below_set ?_ GE122.out | refine below_set ?_ GE124.out) | exact HB.out)⟩⟩
                 ·
                  replace c61 := Bool.eq_false_iff.mpr c61
                  subst c61
                  have H1 : (pylonref10_Check.j3 kj33 a1 a2 (wrap64 (x8_1 + 1)) x15_1 x11_33 (l0_6.length : Int) x15_1 false a0_0 a0_1 a0_2 a0_3 a0_4 a0_5 l0_6 ((rd_T32 l0_6 x15_1).f0) ((rd_T32 l0_6 x15_1).f1) ((rd_T32 l0_6 x15_1).f2) ((rd_T32 l0_6 x15_1).f3) ((rd_T32 l0_6 x15_1).f4)) = some (r1, r2) := by rw [if_neg (show ¬ (false = true) by decide)] at H; exact H
                  clear H
                  have H := H1
                  clear H1
                  have H' := Aside0.mk H
                  clear H
                  try go_wp2
                  have n0_ := Aside0.mk (blk_drew BK122.out)
                  have n1_ := Aside0.mk (blk_drew BK124.out)
                  have n2_ := Aside0.mk (below_drew1 HB.out)
                  clear BK122
                  clear BK124
                  clear HB
                  have BK122 := n0_
                  have BK124 := n1_
                  have HB := n2_
                  clear n0_ n1_ n2_
                  have p128 : 0 ≤ ((ji57) : Int) := of_decide_eq_true (by first | (with_reducible assumption) | assumption)
                  have q128 : (ji57) < (l0_6.length : Int) := of_decide_eq_true (by first | (with_reducible assumption) | assumption)
                  obtain ⟨ad128, e128, hx128_0, hx128_1, hx128_2, hx128_3, hx128_4⟩ := at_T32 HR0_6.out (ji57) p128 q128
                  have hw128_4 := hx128_4
                  have hw128_3 := hx128_3
                  have hw128_2 := hx128_2
                  have hw128_1 := hx128_1
                  have hw128_0 := hx128_0
                  obtain rfl : ad123 = ad128 := (by injection e128)
                  replace hx128_0 := (HB.out.cell (World.block_lt_of_cell? w _ hx128_0)).trans hx128_0
                  replace hx128_1 := (HB.out.cell (World.block_lt_of_cell? w _ hx128_1)).trans hx128_1
                  replace hx128_2 := (HB.out.cell (World.block_lt_of_cell? w _ hx128_2)).trans hx128_2
                  replace hx128_3 := (HB.out.cell (World.block_lt_of_cell? w _ hx128_3)).trans hx128_3
                  replace hx128_4 := (HB.out.cell (World.block_lt_of_cell? w _ hx128_4)).trans hx128_4
                  replace p128 := eq_true p128
                  replace q128 := eq_true q128
                  refine start_ (n := 40) (S := fun w' => w'.cell? ⟨gb122, 0, none⟩ = some (.string a0_0) ∧ w'.cell? ⟨gb122, 1, none⟩ = some (.int .i64 a0_1) ∧ w'.cell? ⟨gb122, 2, none⟩ = some (.int .i64 a0_2) ∧ w'.cell? ⟨gb122, 3, none⟩ = some (.int .i64 a0_3) ∧ w'.cell? ⟨gb122, 4, none⟩ = some (.int .i64 a0_4) ∧ w'.cell? ⟨gb122, 5, none⟩ = some (.int .i64 a0_5) ∧ w'.cell? ⟨gb122, 6, none⟩ = some (.slice (some ad123) l0_6.length c0_6) ∧ w'.cell? (ad123.add (((ji57)).toNat * 5)) = some (.int .i64 ((rd_T32 l0_6 (ji57)).f0)) ∧ w'.cell? ⟨(ad123.add (((ji57)).toNat * 5)).block, (ad123.add (((ji57)).toNat * 5)).off + 1, none⟩ = some (.int .i64 ((rd_T32 l0_6 (ji57)).f1)) ∧ w'.cell? ⟨(ad123.add (((ji57)).toNat * 5)).block, (ad123.add (((ji57)).toNat * 5)).off + 2, none⟩ = some (.int .i64 ((rd_T32 l0_6 (ji57)).f2)) ∧ w'.cell? ⟨(ad123.add (((ji57)).toNat * 5)).block, (ad123.add (((ji57)).toNat * 5)).off + 3, none⟩ = some (.int .i64 ((rd_T32 l0_6 (ji57)).f3)) ∧ w'.cell? ⟨(ad123.add (((ji57)).toNat * 5)).block, (ad123.add (((ji57)).toNat * 5)).off + 4, none⟩ = some (.int .u8 ((rd_T32 l0_6 (ji57)).f4))) (ds := []) (upT 0 40) (by kernel_rfl) rfl rfl ⟨(blk_cell BK122.out 0).trans rfl, (blk_cell BK122.out 1).trans rfl, (blk_cell BK122.out 2).trans rfl, (blk_cell BK122.out 3).trans rfl, (blk_cell BK122.out 4).trans rfl, (blk_cell BK122.out 5).trans rfl, (blk_cell BK122.out 6).trans rfl, ((HB.out.cell (World.block_lt_of_cell? w _ hw128_0)).trans hw128_0), ((HB.out.cell (World.block_lt_of_cell? w _ hw128_1)).trans hw128_1), ((HB.out.cell (World.block_lt_of_cell? w _ hw128_2)).trans hw128_2), ((HB.out.cell (World.block_lt_of_cell? w _ hw128_3)).trans hw128_3), ((HB.out.cell (World.block_lt_of_cell? w _ hw128_4)).trans hw128_4)⟩ (fun hHeld => ?_); refine with_tabW pylonref10_Check.tab10 pylonref10_Check.bits10 (fun HT_ HW_ => ?_)
                  generalize wc.drew = w67 at BK122 BK124 HB hx128_0 hx128_1 hx128_2 hx128_3 hx128_4 hHeld ⊢
                  refine pq 0 86 ?_ (upT 1 39) rfl rfl HT_ (by kernel_rfl) (fun _ _ _ h => h) (Or.inl ⟨by rfl, ?_⟩) ?_ ?_ ?_; rotate_left; (intro w'; go_simp; with_reducible rfl); rotate_left; (simp only [putS]; rfl)
                  refine pq 1 87 ?_ (upT 2 38) rfl rfl HT_ (by kernel_rfl) (fun _ _ _ h => h) (Or.inl ⟨by rfl, ?_⟩) ?_ ?_ ?_; rotate_left; (intro w'; go_simp; with_reducible rfl); rotate_left; (simp only [putS]; rfl)
                  refine pq 2 88 ?_ (upT 3 37) rfl rfl HT_ (by kernel_rfl) (fun _ _ _ h => h) (Or.inl ⟨by rfl, ?_⟩) ?_ ?_ ?_; rotate_left; (intro w'; go_simp; with_reducible rfl); rotate_left; (simp only [putS]; rfl)
                  refine pq 3 89 ?_ (upT 4 36) rfl rfl HT_ (by kernel_rfl) (fun _ _ _ h => h) (Or.inl ⟨by rfl, ?_⟩) ?_ ?_ ?_; rotate_left; (intro w'; go_simp; with_reducible rfl); rotate_left; (simp only [putS]; rfl)
                  refine pq 4 90 ?_ (upT 5 35) rfl rfl HT_ (by kernel_rfl) (fun _ _ _ h => h) (Or.inl ⟨by rfl, ?_⟩) ?_ ?_ ?_; rotate_left; (intro w'; go_simp; with_reducible rfl); rotate_left; (simp only [putS]; rfl)
                  refine pq 5 91 ?_ (upT 6 34) rfl rfl HT_ (by kernel_rfl) (fun _ _ _ h => h) (Or.inl ⟨by rfl, ?_⟩) ?_ ?_ ?_; rotate_left; (intro w'; go_simp; with_reducible rfl); rotate_left; (simp only [putS]; rfl)
                  refine pq 6 92 ?_ (upT 7 33) rfl rfl HT_ (by kernel_rfl) (fun _ _ _ h => h) (Or.inl ⟨by rfl, ?_⟩) ?_ ?_ ?_; rotate_left; (intro w'; go_simp; with_reducible rfl); rotate_left; (simp only [putS]; rfl)
                  refine pq 7 93 ?_ (upT 8 32) rfl rfl HT_ (by kernel_rfl) (fun _ _ _ h => h) (Or.inl ⟨by rfl, ?_⟩) ?_ ?_ ?_; rotate_left; (intro w'; go_simp; with_reducible rfl); rotate_left; (simp only [putS]; rfl)
                  refine pure_ (i := 9) (N := some 95) (v := ?_) (a' := ?_) #[true, true, true, true, true, true, true, true, false, true, false, false, false, false, false, false, false, false, false, false, false, false, false, false, false, false, false, false, false, false, false, false, false, false, false, false, false, false, false, false] rfl rfl (any_of HT_.out (by kernel_rfl)) (fun _ _ _ h => h) (Or.inl ⟨by rfl, ?_⟩) ?_ ?_; rotate_left; (intro w'; go_simp; with_reducible rfl); rotate_left; (simp only [putS]; rfl)
                  refine pure_ (i := 10) (N := some 96) (v := ?_) (a' := ?_) #[true, true, true, true, true, true, true, true, false, true, true, false, false, false, false, false, false, false, false, false, false, false, false, false, false, false, false, false, false, false, false, false, false, false, false, false, false, false, false, false] rfl rfl (any_of HT_.out (by kernel_rfl)) (fun _ _ _ h => h) (Or.inl ⟨by rfl, ?_⟩) ?_ ?_; rotate_left; (intro w'; go_simp; with_reducible rfl); rotate_left; (simp only [putS]; rfl)
                  refine take_ (i := 8) (N := some 94) (v := ?_) (a' := ?_) (upT 11 29) rfl rfl (take_ofW HT_.out HW_.out (by kernel_rfl)) (fun _ _ _ h => h) (Or.inl ⟨by rfl, ?_⟩) hHeld ?_ ?_
                  rotate_left
                  ·
                   rintro w' ⟨s0, s1, s2, s3, s4, s5, s6, s7, s8, s9, s10, s11⟩
                   go_simp
                   with_reducible rfl
                  rotate_left; (simp only [putS]; rfl)
                  refine pq 11 97 ?_ (upT 12 28) rfl rfl HT_ (by kernel_rfl) (fun _ _ _ h => h) (Or.inl ⟨by rfl, ?_⟩) ?_ ?_ ?_; rotate_left; (intro w'; go_simp; with_reducible rfl); rotate_left; (simp only [putS]; rfl)
                  refine take_ (i := 12) (N := some 98) (v := ?_) (a' := ?_) (upT 13 27) rfl rfl (take_ofW HT_.out HW_.out (by kernel_rfl)) (fun _ _ _ h => h) (Or.inl ⟨by rfl, ?_⟩) hHeld ?_ ?_
                  rotate_left
                  ·
                   rintro w' ⟨s0, s1, s2, s3, s4, s5, s6, s7, s8, s9, s10, s11⟩
                   go_simp
                   with_reducible rfl
                  rotate_left; (simp only [putS]; rfl)
                  refine one_ (i := 13) (N := some 99) (upT 14 26) rfl rfl (one_of HT_.out (by kernel_rfl)) (by decide) (fun K hK => ?_)
                  refine goes_ Try.func18 (by kernel_rfl) rfl #[.agg #[.int .i64 ((rd_T32 l0_6 (ji57)).f0), .int .i64 ((rd_T32 l0_6 (ji57)).f1), .int .i64 ((rd_T32 l0_6 (ji57)).f2), .int .i64 ((rd_T32 l0_6 (ji57)).f3), .int .u8 ((rd_T32 l0_6 (ji57)).f4)]] (by rfl) rfl rfl (by (try simp only [List.map_toArray, List.map_cons, List.map_nil]); first | done | (simp only [hji57]; rfl) | rfl | (simp only [List.length_drop, List.length_take]; rfl)) ?_
                  with_reducible refine (pylonref10_Good.calls ((rd_T32 l0_6 (ji57)).f0) ((rd_T32 l0_6 (ji57)).f1) ((rd_T32 l0_6 (ji57)).f2) ((rd_T32 l0_6 (ji57)).f3) ((rd_T32 l0_6 (ji57)).f4) false _ A60.out).mono ?_
                  rintro e w68 ⟨rfl, hb⟩
                  refine ⟨_, rfl, ?_⟩
                  have n0_ := Aside0.mk (blk_below (g := gb122) (o := .cells #[.string a0_0, .int .i64 a0_1, .int .i64 a0_2, .int .i64 a0_3, .int .i64 a0_4, .int .i64 a0_5, .slice (some ad123) l0_6.length c0_6] 24 (0, 0)) (by (with_reducible repeat (first | refine blk_drewN ?_ _ | refine blk_drew ?_ | refine blk_alloc ?_ _)); exact BK122.out) hb)
                  have n1_ := Aside0.mk (blk_below (g := gb124) (o := .cells #[.int .i64 ((rd_T32 l0_6 x15_1).f0), .int .i64 ((rd_T32 l0_6 x15_1).f1), .int .i64 ((rd_T32 l0_6 x15_1).f2), .int .i64 ((rd_T32 l0_6 x15_1).f3), .int .u8 ((rd_T32 l0_6 x15_1).f4)] 32 (0, 0)) (by (with_reducible repeat (first | refine blk_drewN ?_ _ | refine blk_drew ?_ | refine blk_alloc ?_ _)); exact BK124.out) hb)
                  have n2_ := Aside0.mk (below_step (by repeat (first | (with_reducible first | exact HB.out | apply below_alloc | apply pw_below_drewN | apply below_drew1 | refine below_set ?_ GE122.out | refine below_set ?_ GE124.out) | exact HB.out)) hb)
                  clear BK122
                  clear BK124
                  clear HB
                  have BK122 := n0_
                  have BK124 := n1_
                  have HB := n2_
                  clear n0_ n1_ n2_
                  (try clear hb)
                  (try clear hb2)
                  (try clear hk)
                  (try clear hi)
                  refine hK.out _ _ ⟨(blk_cell BK122.out 0).trans rfl, (blk_cell BK122.out 1).trans rfl, (blk_cell BK122.out 2).trans rfl, (blk_cell BK122.out 3).trans rfl, (blk_cell BK122.out 4).trans rfl, (blk_cell BK122.out 5).trans rfl, (blk_cell BK122.out 6).trans rfl, ((HB.out.cell (World.block_lt_of_cell? w _ hw128_0)).trans hw128_0), ((HB.out.cell (World.block_lt_of_cell? w _ hw128_1)).trans hw128_1), ((HB.out.cell (World.block_lt_of_cell? w _ hw128_2)).trans hw128_2), ((HB.out.cell (World.block_lt_of_cell? w _ hw128_3)).trans hw128_3), ((HB.out.cell (World.block_lt_of_cell? w _ hw128_4)).trans hw128_4)⟩ (fun hHeld => ?_)
                  clear hK K
                  refine norm_ (a' := ?_) ?_ ?_
                  rotate_left
                  ·
                   show Act.put _ (some 99) _ = _
                   simp only [putS]
                   rfl
                  refine pq 14 100 ?_ (upT 15 25) rfl rfl HT_ (by kernel_rfl) (fun _ _ _ h => h) (Or.inl ⟨by rfl, ?_⟩) ?_ ?_ ?_; rotate_left; (intro w'; go_simp; with_reducible rfl); rotate_left; (simp only [putS]; rfl)
                  refine pq 15 101 ?_ (upT 16 24) rfl rfl HT_ (by kernel_rfl) (fun _ _ _ h => h) (Or.inl ⟨by rfl, ?_⟩) ?_ ?_ ?_; rotate_left; (intro w'; go_simp; with_reducible rfl); rotate_left; (simp only [putS]; rfl)
                  refine pq 16 102 undef (upT 17 23) rfl rfl HT_ (by kernel_rfl) (fun _ _ _ h => h) (Or.inr ⟨by rfl, rfl⟩) ?_ ?_ ?_
                  rotate_left; (simp only [putS]; rfl)
                  refine pq 17 103 undef (upT 18 22) rfl rfl HT_ (by kernel_rfl) (fun _ _ _ h => h) (Or.inr ⟨by rfl, rfl⟩) ?_ ?_ ?_
                  rotate_left; (simp only [putS]; rfl)
                  refine pq 18 104 undef (upT 19 21) rfl rfl HT_ (by kernel_rfl) (fun _ _ _ h => h) (Or.inr ⟨by rfl, rfl⟩) ?_ ?_ ?_
                  rotate_left; (simp only [putS]; rfl)
                  refine pq 19 105 undef (upT 20 20) rfl rfl HT_ (by kernel_rfl) (fun _ _ _ h => h) (Or.inr ⟨by rfl, rfl⟩) ?_ ?_ ?_
                  rotate_left; (simp only [putS]; rfl)
                  refine pq 20 106 undef (upT 21 19) rfl rfl HT_ (by kernel_rfl) (fun _ _ _ h => h) (Or.inr ⟨by rfl, rfl⟩) ?_ ?_ ?_
                  rotate_left; (simp only [putS]; rfl)
                  refine pq 21 107 undef (upT 22 18) rfl rfl HT_ (by kernel_rfl) (fun _ _ _ h => h) (Or.inr ⟨by rfl, rfl⟩) ?_ ?_ ?_
                  rotate_left; (simp only [putS]; rfl)
                  refine pq 22 108 undef (upT 23 17) rfl rfl HT_ (by kernel_rfl) (fun _ _ _ h => h) (Or.inr ⟨by rfl, rfl⟩) ?_ ?_ ?_
                  rotate_left; (simp only [putS]; rfl)
                  refine pq 23 109 undef (upT 24 16) rfl rfl HT_ (by kernel_rfl) (fun _ _ _ h => h) (Or.inr ⟨by rfl, rfl⟩) ?_ ?_ ?_
                  rotate_left; (simp only [putS]; rfl)
                  refine pq 24 110 undef (upT 25 15) rfl rfl HT_ (by kernel_rfl) (fun _ _ _ h => h) (Or.inr ⟨by rfl, rfl⟩) ?_ ?_ ?_
                  rotate_left; (simp only [putS]; rfl)
                  refine pq 25 111 undef (upT 26 14) rfl rfl HT_ (by kernel_rfl) (fun _ _ _ h => h) (Or.inr ⟨by rfl, rfl⟩) ?_ ?_ ?_
                  rotate_left; (simp only [putS]; rfl)
                  refine pq 26 112 ?_ (upT 27 13) rfl rfl HT_ (by kernel_rfl) (fun _ _ _ h => h) (Or.inl ⟨by rfl, ?_⟩) ?_ ?_ ?_; rotate_left; (intro w'; go_simp; with_reducible rfl); rotate_left; (simp only [putS]; rfl)
                  refine pq 27 113 ?_ (upT 28 12) rfl rfl HT_ (by kernel_rfl) (fun _ _ _ h => h) (Or.inl ⟨by rfl, ?_⟩) ?_ ?_ ?_; rotate_left; (intro w'; go_simp; with_reducible rfl); rotate_left; (simp only [putS]; rfl)
                  refine pq 28 114 undef (upT 29 11) rfl rfl HT_ (by kernel_rfl) (fun _ _ _ h => h) (Or.inr ⟨by rfl, rfl⟩) ?_ ?_ ?_
                  rotate_left; (simp only [putS]; rfl)
                  refine pq 29 115 undef (upT 30 10) rfl rfl HT_ (by kernel_rfl) (fun _ _ _ h => h) (Or.inr ⟨by rfl, rfl⟩) ?_ ?_ ?_
                  rotate_left; (simp only [putS]; rfl)
                  refine pq 30 116 undef (upT 31 9) rfl rfl HT_ (by kernel_rfl) (fun _ _ _ h => h) (Or.inr ⟨by rfl, rfl⟩) ?_ ?_ ?_
                  rotate_left; (simp only [putS]; rfl)
                  refine pq 31 117 undef (upT 32 8) rfl rfl HT_ (by kernel_rfl) (fun _ _ _ h => h) (Or.inr ⟨by rfl, rfl⟩) ?_ ?_ ?_
                  rotate_left; (simp only [putS]; rfl)
                  refine pq 32 118 undef (upT 33 7) rfl rfl HT_ (by kernel_rfl) (fun _ _ _ h => h) (Or.inr ⟨by rfl, rfl⟩) ?_ ?_ ?_
                  rotate_left; (simp only [putS]; rfl)
                  refine pq 33 119 undef (upT 34 6) rfl rfl HT_ (by kernel_rfl) (fun _ _ _ h => h) (Or.inr ⟨by rfl, rfl⟩) ?_ ?_ ?_
                  rotate_left; (simp only [putS]; rfl)
                  refine pq 34 120 undef (upT 35 5) rfl rfl HT_ (by kernel_rfl) (fun _ _ _ h => h) (Or.inr ⟨by rfl, rfl⟩) ?_ ?_ ?_
                  rotate_left; (simp only [putS]; rfl)
                  refine pq 35 121 undef (upT 36 4) rfl rfl HT_ (by kernel_rfl) (fun _ _ _ h => h) (Or.inr ⟨by rfl, rfl⟩) ?_ ?_ ?_
                  rotate_left; (simp only [putS]; rfl)
                  refine pq 36 122 undef (upT 37 3) rfl rfl HT_ (by kernel_rfl) (fun _ _ _ h => h) (Or.inr ⟨by rfl, rfl⟩) ?_ ?_ ?_
                  rotate_left; (simp only [putS]; rfl)
                  refine pq 37 123 undef (upT 38 2) rfl rfl HT_ (by kernel_rfl) (fun _ _ _ h => h) (Or.inr ⟨by rfl, rfl⟩) ?_ ?_ ?_
                  rotate_left; (simp only [putS]; rfl)
                  refine pq 38 124 undef (upT 39 1) rfl rfl HT_ (by kernel_rfl) (fun _ _ _ h => h) (Or.inr ⟨by rfl, rfl⟩) ?_ ?_ ?_
                  rotate_left; (simp only [putS]; rfl)
                  refine pq 39 125 ?_ (upT 40 0) rfl rfl HT_ (by kernel_rfl) (fun _ _ _ h => h) (Or.inl ⟨by rfl, ?_⟩) ?_ ?_ ?_; rotate_left; (intro w'; go_simp; with_reducible rfl); rotate_left; (simp only [putS]; rfl)
                  refine done_ (done_of HT_.out (by kernel_rfl)) ?_
                  try go_wp2
                  go_meet
                  case rel => exact ⟨_, (false), (by first | rfl | (simp; done) | (simp [*]; done)), H', ⟨by have := HK1.out; have := HJ8.out; have := HJ33.out; first | omega | exact Nat.le_refl _⟩, ⟨by (with_reducible repeat (first | refine blk_drewN ?_ _ | refine blk_drew ?_ | refine blk_alloc ?_ _)); exact BK122.out⟩, ⟨by (with_reducible repeat (first | refine blk_drewN ?_ _ | refine blk_drew ?_ | refine blk_alloc ?_ _)); exact BK124.out⟩, ⟨by repeat (first | (with_reducible first | exact HB.out | apply below_alloc | apply pw_below_drewN | apply below_drew1 | refine below_set ?_ GE122.out | refine below_set ?_ GE124.out) | exact HB.out)⟩⟩
                ·
                 rw [if_neg c59] at H
                 exact absurd H (by simp)
               ·
                rw [if_neg c58] at H
                exact absurd H (by simp)
              ·
               rw [if_neg c56] at H
               have c56b0 : decide (0 < a2) = false := decide_eq_false c56
               clear c56
               have H' := Aside0.mk H
               clear H
               try go_wp2
               have n0_ := Aside0.mk (blk_drew BK122.out)
               have n1_ := Aside0.mk (blk_drew BK124.out)
               have n2_ := Aside0.mk (below_drew1 HB.out)
               clear BK122
               clear BK124
               clear HB
               have BK122 := n0_
               have BK124 := n1_
               have HB := n2_
               clear n0_ n1_ n2_
               refine start_ (n := 40) (S := fun w' => True) (ds := []) (upT 0 40) (by kernel_rfl) rfl rfl trivial (fun hHeld => ?_); refine with_tabW pylonref10_Check.tab10 pylonref10_Check.bits10 (fun HT_ HW_ => ?_)
               generalize wc.drew = w69 at BK122 BK124 HB hHeld ⊢
               refine pq 0 86 ?_ (upT 1 39) rfl rfl HT_ (by kernel_rfl) (fun _ _ _ h => h) (Or.inl ⟨by rfl, ?_⟩) ?_ ?_ ?_; rotate_left; (intro w'; go_simp; with_reducible rfl); rotate_left; (simp only [putS]; rfl)
               refine pq 1 87 ?_ (upT 2 38) rfl rfl HT_ (by kernel_rfl) (fun _ _ _ h => h) (Or.inl ⟨by rfl, ?_⟩) ?_ ?_ ?_; rotate_left; (intro w'; go_simp; with_reducible rfl); rotate_left; (simp only [putS]; rfl)
               refine pq 2 88 ?_ (upT 3 37) rfl rfl HT_ (by kernel_rfl) (fun _ _ _ h => h) (Or.inl ⟨by rfl, ?_⟩) ?_ ?_ ?_; rotate_left; (intro w'; go_simp; with_reducible rfl); rotate_left; (simp only [putS]; rfl)
               refine pq 3 89 ?_ (upT 4 36) rfl rfl HT_ (by kernel_rfl) (fun _ _ _ h => h) (Or.inl ⟨by rfl, ?_⟩) ?_ ?_ ?_; rotate_left; (intro w'; go_simp; with_reducible rfl); rotate_left; (simp only [putS]; rfl)
               refine pq 4 90 ?_ (upT 5 35) rfl rfl HT_ (by kernel_rfl) (fun _ _ _ h => h) (Or.inl ⟨by rfl, ?_⟩) ?_ ?_ ?_; rotate_left; (intro w'; go_simp; with_reducible rfl); rotate_left; (simp only [putS]; rfl)
               refine pq 5 91 ?_ (upT 6 34) rfl rfl HT_ (by kernel_rfl) (fun _ _ _ h => h) (Or.inl ⟨by rfl, ?_⟩) ?_ ?_ ?_; rotate_left; (intro w'; go_simp; with_reducible rfl); rotate_left; (simp only [putS]; rfl)
               refine pq 6 92 ?_ (upT 7 33) rfl rfl HT_ (by kernel_rfl) (fun _ _ _ h => h) (Or.inl ⟨by rfl, ?_⟩) ?_ ?_ ?_; rotate_left; (intro w'; go_simp; with_reducible rfl); rotate_left; (simp only [putS]; rfl)
               refine pq 7 93 undef (upT 8 32) rfl rfl HT_ (by kernel_rfl) (fun _ _ _ h => h) (Or.inr ⟨by rfl, rfl⟩) ?_ ?_ ?_
               rotate_left; (simp only [putS]; rfl)
               refine pq 8 94 undef (upT 9 31) rfl rfl HT_ (by kernel_rfl) (fun _ _ _ h => h) (Or.inr ⟨by rfl, rfl⟩) ?_ ?_ ?_
               rotate_left; (simp only [putS]; rfl)
               refine pq 9 95 undef (upT 10 30) rfl rfl HT_ (by kernel_rfl) (fun _ _ _ h => h) (Or.inr ⟨by rfl, rfl⟩) ?_ ?_ ?_
               rotate_left; (simp only [putS]; rfl)
               refine pq 10 96 undef (upT 11 29) rfl rfl HT_ (by kernel_rfl) (fun _ _ _ h => h) (Or.inr ⟨by rfl, rfl⟩) ?_ ?_ ?_
               rotate_left; (simp only [putS]; rfl)
               refine pq 11 97 undef (upT 12 28) rfl rfl HT_ (by kernel_rfl) (fun _ _ _ h => h) (Or.inr ⟨by rfl, rfl⟩) ?_ ?_ ?_
               rotate_left; (simp only [putS]; rfl)
               refine pq 12 98 undef (upT 13 27) rfl rfl HT_ (by kernel_rfl) (fun _ _ _ h => h) (Or.inr ⟨by rfl, rfl⟩) ?_ ?_ ?_
               rotate_left; (simp only [putS]; rfl)
               refine pq 13 99 undef (upT 14 26) rfl rfl HT_ (by kernel_rfl) (fun _ _ _ h => h) (Or.inr ⟨by rfl, rfl⟩) ?_ ?_ ?_
               rotate_left; (simp only [putS]; rfl)
               refine pq 14 100 ?_ (upT 15 25) rfl rfl HT_ (by kernel_rfl) (fun _ _ _ h => h) (Or.inl ⟨by rfl, ?_⟩) ?_ ?_ ?_; rotate_left; (intro w'; go_simp; with_reducible rfl); rotate_left; (simp only [putS]; rfl)
               refine pq 15 101 ?_ (upT 16 24) rfl rfl HT_ (by kernel_rfl) (fun _ _ _ h => h) (Or.inl ⟨by rfl, ?_⟩) ?_ ?_ ?_; rotate_left; (intro w'; go_simp; with_reducible rfl); rotate_left; (simp only [putS]; rfl)
               refine pq 16 102 undef (upT 17 23) rfl rfl HT_ (by kernel_rfl) (fun _ _ _ h => h) (Or.inr ⟨by rfl, rfl⟩) ?_ ?_ ?_
               rotate_left; (simp only [putS]; rfl)
               refine pq 17 103 undef (upT 18 22) rfl rfl HT_ (by kernel_rfl) (fun _ _ _ h => h) (Or.inr ⟨by rfl, rfl⟩) ?_ ?_ ?_
               rotate_left; (simp only [putS]; rfl)
               refine pq 18 104 undef (upT 19 21) rfl rfl HT_ (by kernel_rfl) (fun _ _ _ h => h) (Or.inr ⟨by rfl, rfl⟩) ?_ ?_ ?_
               rotate_left; (simp only [putS]; rfl)
               refine pq 19 105 undef (upT 20 20) rfl rfl HT_ (by kernel_rfl) (fun _ _ _ h => h) (Or.inr ⟨by rfl, rfl⟩) ?_ ?_ ?_
               rotate_left; (simp only [putS]; rfl)
               refine pq 20 106 undef (upT 21 19) rfl rfl HT_ (by kernel_rfl) (fun _ _ _ h => h) (Or.inr ⟨by rfl, rfl⟩) ?_ ?_ ?_
               rotate_left; (simp only [putS]; rfl)
               refine pq 21 107 undef (upT 22 18) rfl rfl HT_ (by kernel_rfl) (fun _ _ _ h => h) (Or.inr ⟨by rfl, rfl⟩) ?_ ?_ ?_
               rotate_left; (simp only [putS]; rfl)
               refine pq 22 108 undef (upT 23 17) rfl rfl HT_ (by kernel_rfl) (fun _ _ _ h => h) (Or.inr ⟨by rfl, rfl⟩) ?_ ?_ ?_
               rotate_left; (simp only [putS]; rfl)
               refine pq 23 109 undef (upT 24 16) rfl rfl HT_ (by kernel_rfl) (fun _ _ _ h => h) (Or.inr ⟨by rfl, rfl⟩) ?_ ?_ ?_
               rotate_left; (simp only [putS]; rfl)
               refine pq 24 110 undef (upT 25 15) rfl rfl HT_ (by kernel_rfl) (fun _ _ _ h => h) (Or.inr ⟨by rfl, rfl⟩) ?_ ?_ ?_
               rotate_left; (simp only [putS]; rfl)
               refine pq 25 111 undef (upT 26 14) rfl rfl HT_ (by kernel_rfl) (fun _ _ _ h => h) (Or.inr ⟨by rfl, rfl⟩) ?_ ?_ ?_
               rotate_left; (simp only [putS]; rfl)
               refine pq 26 112 ?_ (upT 27 13) rfl rfl HT_ (by kernel_rfl) (fun _ _ _ h => h) (Or.inl ⟨by rfl, ?_⟩) ?_ ?_ ?_; rotate_left; (intro w'; go_simp; with_reducible rfl); rotate_left; (simp only [putS]; rfl)
               refine pq 27 113 ?_ (upT 28 12) rfl rfl HT_ (by kernel_rfl) (fun _ _ _ h => h) (Or.inl ⟨by rfl, ?_⟩) ?_ ?_ ?_; rotate_left; (intro w'; go_simp; with_reducible rfl); rotate_left; (simp only [putS]; rfl)
               refine pq 28 114 undef (upT 29 11) rfl rfl HT_ (by kernel_rfl) (fun _ _ _ h => h) (Or.inr ⟨by rfl, rfl⟩) ?_ ?_ ?_
               rotate_left; (simp only [putS]; rfl)
               refine pq 29 115 undef (upT 30 10) rfl rfl HT_ (by kernel_rfl) (fun _ _ _ h => h) (Or.inr ⟨by rfl, rfl⟩) ?_ ?_ ?_
               rotate_left; (simp only [putS]; rfl)
               refine pq 30 116 undef (upT 31 9) rfl rfl HT_ (by kernel_rfl) (fun _ _ _ h => h) (Or.inr ⟨by rfl, rfl⟩) ?_ ?_ ?_
               rotate_left; (simp only [putS]; rfl)
               refine pq 31 117 undef (upT 32 8) rfl rfl HT_ (by kernel_rfl) (fun _ _ _ h => h) (Or.inr ⟨by rfl, rfl⟩) ?_ ?_ ?_
               rotate_left; (simp only [putS]; rfl)
               refine pq 32 118 undef (upT 33 7) rfl rfl HT_ (by kernel_rfl) (fun _ _ _ h => h) (Or.inr ⟨by rfl, rfl⟩) ?_ ?_ ?_
               rotate_left; (simp only [putS]; rfl)
               refine pq 33 119 undef (upT 34 6) rfl rfl HT_ (by kernel_rfl) (fun _ _ _ h => h) (Or.inr ⟨by rfl, rfl⟩) ?_ ?_ ?_
               rotate_left; (simp only [putS]; rfl)
               refine pq 34 120 undef (upT 35 5) rfl rfl HT_ (by kernel_rfl) (fun _ _ _ h => h) (Or.inr ⟨by rfl, rfl⟩) ?_ ?_ ?_
               rotate_left; (simp only [putS]; rfl)
               refine pq 35 121 undef (upT 36 4) rfl rfl HT_ (by kernel_rfl) (fun _ _ _ h => h) (Or.inr ⟨by rfl, rfl⟩) ?_ ?_ ?_
               rotate_left; (simp only [putS]; rfl)
               refine pq 36 122 undef (upT 37 3) rfl rfl HT_ (by kernel_rfl) (fun _ _ _ h => h) (Or.inr ⟨by rfl, rfl⟩) ?_ ?_ ?_
               rotate_left; (simp only [putS]; rfl)
               refine pq 37 123 undef (upT 38 2) rfl rfl HT_ (by kernel_rfl) (fun _ _ _ h => h) (Or.inr ⟨by rfl, rfl⟩) ?_ ?_ ?_
               rotate_left; (simp only [putS]; rfl)
               refine pq 38 124 undef (upT 39 1) rfl rfl HT_ (by kernel_rfl) (fun _ _ _ h => h) (Or.inr ⟨by rfl, rfl⟩) ?_ ?_ ?_
               rotate_left; (simp only [putS]; rfl)
               refine pq 39 125 ?_ (upT 40 0) rfl rfl HT_ (by kernel_rfl) (fun _ _ _ h => h) (Or.inl ⟨by rfl, ?_⟩) ?_ ?_ ?_; rotate_left; (intro w'; go_simp; with_reducible rfl); rotate_left; (simp only [putS]; rfl)
               refine done_ (done_of HT_.out (by kernel_rfl)) ?_
               try go_wp2
               go_meet
               case rel => exact ⟨_, (false), (by first | rfl | (simp; done) | (simp [*]; done)), H', ⟨by have := HK1.out; have := HJ8.out; have := HJ33.out; first | omega | exact Nat.le_refl _⟩, ⟨by (with_reducible repeat (first | refine blk_drewN ?_ _ | refine blk_drew ?_ | refine blk_alloc ?_ _)); exact BK122.out⟩, ⟨by (with_reducible repeat (first | refine blk_drewN ?_ _ | refine blk_drew ?_ | refine blk_alloc ?_ _)); exact BK124.out⟩, ⟨by repeat (first | (with_reducible first | exact HB.out | apply below_alloc | apply pw_below_drewN | apply below_drew1 | refine below_set ?_ GE122.out | refine below_set ?_ GE124.out) | exact HB.out)⟩⟩
             ·
              rw [if_neg c55] at H
              have c55b0 : decide (0 < x15_1) = false := decide_eq_false c55
              clear c55
              (first | rw [c55b0] | (simp only [i64_w, i32_w]; rw [c55b0]) | skip)
              have H' := Aside0.mk H
              clear H
              try go_wp2
              have n0_ := Aside0.mk (blk_drew BK122.out)
              have n1_ := Aside0.mk (blk_drew BK124.out)
              have n2_ := Aside0.mk (below_drew1 HB.out)
              clear BK122
              clear BK124
              clear HB
              have BK122 := n0_
              have BK124 := n1_
              have HB := n2_
              clear n0_ n1_ n2_
              refine start_ (n := 40) (S := fun w' => True) (ds := []) (upT 0 40) (by kernel_rfl) rfl rfl trivial (fun hHeld => ?_); refine with_tabW pylonref10_Check.tab10 pylonref10_Check.bits10 (fun HT_ HW_ => ?_)
              generalize wc.drew = w70 at BK122 BK124 HB hHeld ⊢
              refine pq 0 86 ?_ (upT 1 39) rfl rfl HT_ (by kernel_rfl) (fun _ _ _ h => h) (Or.inl ⟨by rfl, ?_⟩) ?_ ?_ ?_; rotate_left; (intro w'; go_simp; with_reducible rfl); rotate_left; (simp only [putS]; rfl)
              refine pq 1 87 ?_ (upT 2 38) rfl rfl HT_ (by kernel_rfl) (fun _ _ _ h => h) (Or.inl ⟨by rfl, ?_⟩) ?_ ?_ ?_; rotate_left; (intro w'; go_simp; with_reducible rfl); rotate_left; (simp only [putS]; rfl)
              refine pq 2 88 ?_ (upT 3 37) rfl rfl HT_ (by kernel_rfl) (fun _ _ _ h => h) (Or.inl ⟨by rfl, ?_⟩) ?_ ?_ ?_; rotate_left; (intro w'; go_simp; with_reducible rfl); rotate_left; (simp only [putS]; rfl)
              refine pq 3 89 undef (upT 4 36) rfl rfl HT_ (by kernel_rfl) (fun _ _ _ h => h) (Or.inr ⟨by rfl, rfl⟩) ?_ ?_ ?_
              rotate_left; (simp only [putS]; rfl)
              refine pq 4 90 undef (upT 5 35) rfl rfl HT_ (by kernel_rfl) (fun _ _ _ h => h) (Or.inr ⟨by rfl, rfl⟩) ?_ ?_ ?_
              rotate_left; (simp only [putS]; rfl)
              refine pq 5 91 ?_ (upT 6 34) rfl rfl HT_ (by kernel_rfl) (fun _ _ _ h => h) (Or.inl ⟨by rfl, ?_⟩) ?_ ?_ ?_; rotate_left; (intro w'; go_simp; with_reducible rfl); rotate_left; (simp only [putS]; rfl)
              refine pq 6 92 ?_ (upT 7 33) rfl rfl HT_ (by kernel_rfl) (fun _ _ _ h => h) (Or.inl ⟨by rfl, ?_⟩) ?_ ?_ ?_; rotate_left; (intro w'; go_simp; with_reducible rfl); rotate_left; (simp only [putS]; rfl)
              refine pq 7 93 undef (upT 8 32) rfl rfl HT_ (by kernel_rfl) (fun _ _ _ h => h) (Or.inr ⟨by rfl, rfl⟩) ?_ ?_ ?_
              rotate_left; (simp only [putS]; rfl)
              refine pq 8 94 undef (upT 9 31) rfl rfl HT_ (by kernel_rfl) (fun _ _ _ h => h) (Or.inr ⟨by rfl, rfl⟩) ?_ ?_ ?_
              rotate_left; (simp only [putS]; rfl)
              refine pq 9 95 undef (upT 10 30) rfl rfl HT_ (by kernel_rfl) (fun _ _ _ h => h) (Or.inr ⟨by rfl, rfl⟩) ?_ ?_ ?_
              rotate_left; (simp only [putS]; rfl)
              refine pq 10 96 undef (upT 11 29) rfl rfl HT_ (by kernel_rfl) (fun _ _ _ h => h) (Or.inr ⟨by rfl, rfl⟩) ?_ ?_ ?_
              rotate_left; (simp only [putS]; rfl)
              refine pq 11 97 undef (upT 12 28) rfl rfl HT_ (by kernel_rfl) (fun _ _ _ h => h) (Or.inr ⟨by rfl, rfl⟩) ?_ ?_ ?_
              rotate_left; (simp only [putS]; rfl)
              refine pq 12 98 undef (upT 13 27) rfl rfl HT_ (by kernel_rfl) (fun _ _ _ h => h) (Or.inr ⟨by rfl, rfl⟩) ?_ ?_ ?_
              rotate_left; (simp only [putS]; rfl)
              refine pq 13 99 undef (upT 14 26) rfl rfl HT_ (by kernel_rfl) (fun _ _ _ h => h) (Or.inr ⟨by rfl, rfl⟩) ?_ ?_ ?_
              rotate_left; (simp only [putS]; rfl)
              refine pq 14 100 ?_ (upT 15 25) rfl rfl HT_ (by kernel_rfl) (fun _ _ _ h => h) (Or.inl ⟨by rfl, ?_⟩) ?_ ?_ ?_; rotate_left; (intro w'; go_simp; with_reducible rfl); rotate_left; (simp only [putS]; rfl)
              refine pq 15 101 ?_ (upT 16 24) rfl rfl HT_ (by kernel_rfl) (fun _ _ _ h => h) (Or.inl ⟨by rfl, ?_⟩) ?_ ?_ ?_; rotate_left; (intro w'; go_simp; with_reducible rfl); rotate_left; (simp only [putS]; rfl)
              refine pq 16 102 undef (upT 17 23) rfl rfl HT_ (by kernel_rfl) (fun _ _ _ h => h) (Or.inr ⟨by rfl, rfl⟩) ?_ ?_ ?_
              rotate_left; (simp only [putS]; rfl)
              refine pq 17 103 undef (upT 18 22) rfl rfl HT_ (by kernel_rfl) (fun _ _ _ h => h) (Or.inr ⟨by rfl, rfl⟩) ?_ ?_ ?_
              rotate_left; (simp only [putS]; rfl)
              refine pq 18 104 undef (upT 19 21) rfl rfl HT_ (by kernel_rfl) (fun _ _ _ h => h) (Or.inr ⟨by rfl, rfl⟩) ?_ ?_ ?_
              rotate_left; (simp only [putS]; rfl)
              refine pq 19 105 undef (upT 20 20) rfl rfl HT_ (by kernel_rfl) (fun _ _ _ h => h) (Or.inr ⟨by rfl, rfl⟩) ?_ ?_ ?_
              rotate_left; (simp only [putS]; rfl)
              refine pq 20 106 undef (upT 21 19) rfl rfl HT_ (by kernel_rfl) (fun _ _ _ h => h) (Or.inr ⟨by rfl, rfl⟩) ?_ ?_ ?_
              rotate_left; (simp only [putS]; rfl)
              refine pq 21 107 undef (upT 22 18) rfl rfl HT_ (by kernel_rfl) (fun _ _ _ h => h) (Or.inr ⟨by rfl, rfl⟩) ?_ ?_ ?_
              rotate_left; (simp only [putS]; rfl)
              refine pq 22 108 undef (upT 23 17) rfl rfl HT_ (by kernel_rfl) (fun _ _ _ h => h) (Or.inr ⟨by rfl, rfl⟩) ?_ ?_ ?_
              rotate_left; (simp only [putS]; rfl)
              refine pq 23 109 undef (upT 24 16) rfl rfl HT_ (by kernel_rfl) (fun _ _ _ h => h) (Or.inr ⟨by rfl, rfl⟩) ?_ ?_ ?_
              rotate_left; (simp only [putS]; rfl)
              refine pq 24 110 undef (upT 25 15) rfl rfl HT_ (by kernel_rfl) (fun _ _ _ h => h) (Or.inr ⟨by rfl, rfl⟩) ?_ ?_ ?_
              rotate_left; (simp only [putS]; rfl)
              refine pq 25 111 undef (upT 26 14) rfl rfl HT_ (by kernel_rfl) (fun _ _ _ h => h) (Or.inr ⟨by rfl, rfl⟩) ?_ ?_ ?_
              rotate_left; (simp only [putS]; rfl)
              refine pq 26 112 ?_ (upT 27 13) rfl rfl HT_ (by kernel_rfl) (fun _ _ _ h => h) (Or.inl ⟨by rfl, ?_⟩) ?_ ?_ ?_; rotate_left; (intro w'; go_simp; with_reducible rfl); rotate_left; (simp only [putS]; rfl)
              refine pq 27 113 ?_ (upT 28 12) rfl rfl HT_ (by kernel_rfl) (fun _ _ _ h => h) (Or.inl ⟨by rfl, ?_⟩) ?_ ?_ ?_; rotate_left; (intro w'; go_simp; with_reducible rfl); rotate_left; (simp only [putS]; rfl)
              refine pq 28 114 undef (upT 29 11) rfl rfl HT_ (by kernel_rfl) (fun _ _ _ h => h) (Or.inr ⟨by rfl, rfl⟩) ?_ ?_ ?_
              rotate_left; (simp only [putS]; rfl)
              refine pq 29 115 undef (upT 30 10) rfl rfl HT_ (by kernel_rfl) (fun _ _ _ h => h) (Or.inr ⟨by rfl, rfl⟩) ?_ ?_ ?_
              rotate_left; (simp only [putS]; rfl)
              refine pq 30 116 undef (upT 31 9) rfl rfl HT_ (by kernel_rfl) (fun _ _ _ h => h) (Or.inr ⟨by rfl, rfl⟩) ?_ ?_ ?_
              rotate_left; (simp only [putS]; rfl)
              refine pq 31 117 undef (upT 32 8) rfl rfl HT_ (by kernel_rfl) (fun _ _ _ h => h) (Or.inr ⟨by rfl, rfl⟩) ?_ ?_ ?_
              rotate_left; (simp only [putS]; rfl)
              refine pq 32 118 undef (upT 33 7) rfl rfl HT_ (by kernel_rfl) (fun _ _ _ h => h) (Or.inr ⟨by rfl, rfl⟩) ?_ ?_ ?_
              rotate_left; (simp only [putS]; rfl)
              refine pq 33 119 undef (upT 34 6) rfl rfl HT_ (by kernel_rfl) (fun _ _ _ h => h) (Or.inr ⟨by rfl, rfl⟩) ?_ ?_ ?_
              rotate_left; (simp only [putS]; rfl)
              refine pq 34 120 undef (upT 35 5) rfl rfl HT_ (by kernel_rfl) (fun _ _ _ h => h) (Or.inr ⟨by rfl, rfl⟩) ?_ ?_ ?_
              rotate_left; (simp only [putS]; rfl)
              refine pq 35 121 undef (upT 36 4) rfl rfl HT_ (by kernel_rfl) (fun _ _ _ h => h) (Or.inr ⟨by rfl, rfl⟩) ?_ ?_ ?_
              rotate_left; (simp only [putS]; rfl)
              refine pq 36 122 undef (upT 37 3) rfl rfl HT_ (by kernel_rfl) (fun _ _ _ h => h) (Or.inr ⟨by rfl, rfl⟩) ?_ ?_ ?_
              rotate_left; (simp only [putS]; rfl)
              refine pq 37 123 undef (upT 38 2) rfl rfl HT_ (by kernel_rfl) (fun _ _ _ h => h) (Or.inr ⟨by rfl, rfl⟩) ?_ ?_ ?_
              rotate_left; (simp only [putS]; rfl)
              refine pq 38 124 undef (upT 39 1) rfl rfl HT_ (by kernel_rfl) (fun _ _ _ h => h) (Or.inr ⟨by rfl, rfl⟩) ?_ ?_ ?_
              rotate_left; (simp only [putS]; rfl)
              refine pq 39 125 ?_ (upT 40 0) rfl rfl HT_ (by kernel_rfl) (fun _ _ _ h => h) (Or.inl ⟨by rfl, ?_⟩) ?_ ?_ ?_; rotate_left; (intro w'; go_simp; with_reducible rfl); rotate_left; (simp only [putS]; rfl)
              refine done_ (done_of HT_.out (by kernel_rfl)) ?_
              try go_wp2
              go_meet
              case rel => exact ⟨_, (false), (by first | rfl | (simp; done) | (simp [*]; done)), H', ⟨by have := HK1.out; have := HJ8.out; have := HJ33.out; first | omega | exact Nat.le_refl _⟩, ⟨by (with_reducible repeat (first | refine blk_drewN ?_ _ | refine blk_drew ?_ | refine blk_alloc ?_ _)); exact BK122.out⟩, ⟨by (with_reducible repeat (first | refine blk_drewN ?_ _ | refine blk_drew ?_ | refine blk_alloc ?_ _)); exact BK124.out⟩, ⟨by repeat (first | (with_reducible first | exact HB.out | apply below_alloc | apply pw_below_drewN | apply below_drew1 | refine below_set ?_ GE122.out | refine below_set ?_ GE124.out) | exact HB.out)⟩⟩
            case rest =>
             clear HC54
             (try clear p2); (try clear c5); (try clear c55); (try clear c55b0); (try clear c56); (try clear c56b0); (try clear c58); (try clear c59)
             obtain ⟨kq, x125_53, rfl, HA, HJ53, BK122, BK124, HB⟩ := hcut
             cases kq with
             | zero => exact absurd HA.out (by simp [pylonref10_Check.j3])
             | succ kj53 =>
              have H := HA.out
              clear HA
              simp only [pylonref10_Check.j3] at H
              by_cases c71 : x125_53 = true
              ·
               subst c71
               have H1 : (if x11_33 = true then (pylonref10_Check.j4 kj53 a1 a2 (wrap64 (x8_1 + 1)) x15_1 true (l0_6.length : Int) x15_1 a0_0 a0_1 a0_2 a0_3 a0_4 a0_5 l0_6 ((rd_T32 l0_6 x15_1).f0) ((rd_T32 l0_6 x15_1).f1) ((rd_T32 l0_6 x15_1).f2) ((rd_T32 l0_6 x15_1).f3) ((rd_T32 l0_6 x15_1).f4)) else (if 0 ≤ (wrap64 (x15_1 - 1)) then (if (wrap64 (x15_1 - 1)) < (l0_6.length : Int) then ((pylonref10_farther.f kj53 ((rd_T32 l0_6 x15_1).f1) ((rd_T32 l0_6 (wrap64 (x15_1 - 1))).f1) a2).bind fun t133 => (if t133 = true then (pylonref10_Check.j4 kj53 a1 a2 (wrap64 (x8_1 + 1)) x15_1 true (l0_6.length : Int) x15_1 a0_0 a0_1 a0_2 a0_3 a0_4 a0_5 l0_6 ((rd_T32 l0_6 x15_1).f0) ((rd_T32 l0_6 x15_1).f1) ((rd_T32 l0_6 x15_1).f2) ((rd_T32 l0_6 x15_1).f3) ((rd_T32 l0_6 x15_1).f4)) else ((pylonref10_farther.f kj53 ((rd_T32 l0_6 x15_1).f2) ((rd_T32 l0_6 (wrap64 (x15_1 - 1))).f2) a2).bind fun t135 => (pylonref10_Check.j4 kj53 a1 a2 (wrap64 (x8_1 + 1)) x15_1 t135 (l0_6.length : Int) x15_1 a0_0 a0_1 a0_2 a0_3 a0_4 a0_5 l0_6 ((rd_T32 l0_6 x15_1).f0) ((rd_T32 l0_6 x15_1).f1) ((rd_T32 l0_6 x15_1).f2) ((rd_T32 l0_6 x15_1).f3) ((rd_T32 l0_6 x15_1).f4))))) else (none)) else (none))) = some (r1, r2) := by rw [if_pos rfl] at H; exact H
               clear H
               have H := H1
               clear H1
               by_cases c72 : x11_33 = true
               ·
                subst c72
                have H1 : (pylonref10_Check.j4 kj53 a1 a2 (wrap64 (x8_1 + 1)) x15_1 true (l0_6.length : Int) x15_1 a0_0 a0_1 a0_2 a0_3 a0_4 a0_5 l0_6 ((rd_T32 l0_6 x15_1).f0) ((rd_T32 l0_6 x15_1).f1) ((rd_T32 l0_6 x15_1).f2) ((rd_T32 l0_6 x15_1).f3) ((rd_T32 l0_6 x15_1).f4)) = some (r1, r2) := by rw [if_pos rfl] at H; exact H
                clear H
                have H := H1
                clear H1
                have H' := Aside0.mk H
                clear H
                try go_wp2
                have n0_ := Aside0.mk (blk_drew BK122.out)
                have n1_ := Aside0.mk (blk_drew BK124.out)
                have n2_ := Aside0.mk (below_drew1 HB.out)
                clear BK122
                clear BK124
                clear HB
                have BK122 := n0_
                have BK124 := n1_
                have HB := n2_
                clear n0_ n1_ n2_
                refine start_ (n := 28) (S := fun w' => True) (ds := []) (upT 0 28) (by kernel_rfl) rfl rfl trivial (fun hHeld => ?_); refine with_tabW pylonref10_Check.tab11 pylonref10_Check.bits11 (fun HT_ HW_ => ?_)
                generalize wc.drew = w73 at BK122 BK124 HB hHeld ⊢
                refine pq 0 126 ?_ (upT 1 27) rfl rfl HT_ (by kernel_rfl) (fun _ _ _ h => h) (Or.inl ⟨by rfl, ?_⟩) ?_ ?_ ?_; rotate_left; (intro w'; go_simp; with_reducible rfl); rotate_left; (simp only [putS]; rfl)
                refine pq 1 127 ?_ (upT 2 26) rfl rfl HT_ (by kernel_rfl) (fun _ _ _ h => h) (Or.inl ⟨by rfl, ?_⟩) ?_ ?_ ?_; rotate_left; (intro w'; go_simp; with_reducible rfl); rotate_left; (simp only [putS]; rfl)
                refine pq 2 128 undef (upT 3 25) rfl rfl HT_ (by kernel_rfl) (fun _ _ _ h => h) (Or.inr ⟨by rfl, rfl⟩) ?_ ?_ ?_
                rotate_left; (simp only [putS]; rfl)
                refine pq 3 129 undef (upT 4 24) rfl rfl HT_ (by kernel_rfl) (fun _ _ _ h => h) (Or.inr ⟨by rfl, rfl⟩) ?_ ?_ ?_
                rotate_left; (simp only [putS]; rfl)
                refine pq 4 130 undef (upT 5 23) rfl rfl HT_ (by kernel_rfl) (fun _ _ _ h => h) (Or.inr ⟨by rfl, rfl⟩) ?_ ?_ ?_
                rotate_left; (simp only [putS]; rfl)
                refine pq 5 131 undef (upT 6 22) rfl rfl HT_ (by kernel_rfl) (fun _ _ _ h => h) (Or.inr ⟨by rfl, rfl⟩) ?_ ?_ ?_
                rotate_left; (simp only [putS]; rfl)
                refine pq 6 132 undef (upT 7 21) rfl rfl HT_ (by kernel_rfl) (fun _ _ _ h => h) (Or.inr ⟨by rfl, rfl⟩) ?_ ?_ ?_
                rotate_left; (simp only [putS]; rfl)
                refine pq 7 133 undef (upT 8 20) rfl rfl HT_ (by kernel_rfl) (fun _ _ _ h => h) (Or.inr ⟨by rfl, rfl⟩) ?_ ?_ ?_
                rotate_left; (simp only [putS]; rfl)
                refine pq 8 134 undef (upT 9 19) rfl rfl HT_ (by kernel_rfl) (fun _ _ _ h => h) (Or.inr ⟨by rfl, rfl⟩) ?_ ?_ ?_
                rotate_left; (simp only [putS]; rfl)
                refine pq 9 135 undef (upT 10 18) rfl rfl HT_ (by kernel_rfl) (fun _ _ _ h => h) (Or.inr ⟨by rfl, rfl⟩) ?_ ?_ ?_
                rotate_left; (simp only [putS]; rfl)
                refine pq 10 136 undef (upT 11 17) rfl rfl HT_ (by kernel_rfl) (fun _ _ _ h => h) (Or.inr ⟨by rfl, rfl⟩) ?_ ?_ ?_
                rotate_left; (simp only [putS]; rfl)
                refine pq 11 137 undef (upT 12 16) rfl rfl HT_ (by kernel_rfl) (fun _ _ _ h => h) (Or.inr ⟨by rfl, rfl⟩) ?_ ?_ ?_
                rotate_left; (simp only [putS]; rfl)
                refine pq 12 138 undef (upT 13 15) rfl rfl HT_ (by kernel_rfl) (fun _ _ _ h => h) (Or.inr ⟨by rfl, rfl⟩) ?_ ?_ ?_
                rotate_left; (simp only [putS]; rfl)
                refine pq 13 139 ?_ (upT 14 14) rfl rfl HT_ (by kernel_rfl) (fun _ _ _ h => h) (Or.inl ⟨by rfl, ?_⟩) ?_ ?_ ?_; rotate_left; (intro w'; go_simp; with_reducible rfl); rotate_left; (simp only [putS]; rfl)
                refine pq 14 140 ?_ (upT 15 13) rfl rfl HT_ (by kernel_rfl) (fun _ _ _ h => h) (Or.inl ⟨by rfl, ?_⟩) ?_ ?_ ?_; rotate_left; (intro w'; go_simp; with_reducible rfl); rotate_left; (simp only [putS]; rfl)
                refine pq 15 141 undef (upT 16 12) rfl rfl HT_ (by kernel_rfl) (fun _ _ _ h => h) (Or.inr ⟨by rfl, rfl⟩) ?_ ?_ ?_
                rotate_left; (simp only [putS]; rfl)
                refine pq 16 142 undef (upT 17 11) rfl rfl HT_ (by kernel_rfl) (fun _ _ _ h => h) (Or.inr ⟨by rfl, rfl⟩) ?_ ?_ ?_
                rotate_left; (simp only [putS]; rfl)
                refine pq 17 143 undef (upT 18 10) rfl rfl HT_ (by kernel_rfl) (fun _ _ _ h => h) (Or.inr ⟨by rfl, rfl⟩) ?_ ?_ ?_
                rotate_left; (simp only [putS]; rfl)
                refine pq 18 144 undef (upT 19 9) rfl rfl HT_ (by kernel_rfl) (fun _ _ _ h => h) (Or.inr ⟨by rfl, rfl⟩) ?_ ?_ ?_
                rotate_left; (simp only [putS]; rfl)
                refine pq 19 145 undef (upT 20 8) rfl rfl HT_ (by kernel_rfl) (fun _ _ _ h => h) (Or.inr ⟨by rfl, rfl⟩) ?_ ?_ ?_
                rotate_left; (simp only [putS]; rfl)
                refine pq 20 146 undef (upT 21 7) rfl rfl HT_ (by kernel_rfl) (fun _ _ _ h => h) (Or.inr ⟨by rfl, rfl⟩) ?_ ?_ ?_
                rotate_left; (simp only [putS]; rfl)
                refine pq 21 147 undef (upT 22 6) rfl rfl HT_ (by kernel_rfl) (fun _ _ _ h => h) (Or.inr ⟨by rfl, rfl⟩) ?_ ?_ ?_
                rotate_left; (simp only [putS]; rfl)
                refine pq 22 148 undef (upT 23 5) rfl rfl HT_ (by kernel_rfl) (fun _ _ _ h => h) (Or.inr ⟨by rfl, rfl⟩) ?_ ?_ ?_
                rotate_left; (simp only [putS]; rfl)
                refine pq 23 149 undef (upT 24 4) rfl rfl HT_ (by kernel_rfl) (fun _ _ _ h => h) (Or.inr ⟨by rfl, rfl⟩) ?_ ?_ ?_
                rotate_left; (simp only [putS]; rfl)
                refine pq 24 150 undef (upT 25 3) rfl rfl HT_ (by kernel_rfl) (fun _ _ _ h => h) (Or.inr ⟨by rfl, rfl⟩) ?_ ?_ ?_
                rotate_left; (simp only [putS]; rfl)
                refine pq 25 151 undef (upT 26 2) rfl rfl HT_ (by kernel_rfl) (fun _ _ _ h => h) (Or.inr ⟨by rfl, rfl⟩) ?_ ?_ ?_
                rotate_left; (simp only [putS]; rfl)
                refine pq 26 152 ?_ (upT 27 1) rfl rfl HT_ (by kernel_rfl) (fun _ _ _ h => h) (Or.inl ⟨by rfl, ?_⟩) ?_ ?_ ?_; rotate_left; (intro w'; go_simp; with_reducible rfl); rotate_left; (simp only [putS]; rfl)
                refine pq 27 11 ?_ (upT 28 0) rfl rfl HT_ (by kernel_rfl) (fun _ _ _ h => h) (Or.inl ⟨by rfl, ?_⟩) ?_ ?_ ?_; rotate_left; (intro w'; go_simp; with_reducible rfl); rotate_left; (simp only [putS]; rfl)
                refine done_ (done_of HT_.out (by kernel_rfl)) ?_
                try go_wp2
                go_meet
                case rel => exact ⟨_, ((wrap64 (x8_1 + 1))), (true), (by first | rfl | (simp; done) | (simp [*]; done)), (by first | rfl | (simp; done) | (simp [*]; done)), H', ⟨by have := HK1.out; have := HJ8.out; have := HJ33.out; have := HJ53.out; first | omega | exact Nat.le_refl _⟩, ⟨by (with_reducible repeat (first | refine blk_drewN ?_ _ | refine blk_drew ?_ | refine blk_alloc ?_ _)); exact BK122.out⟩, ⟨by (with_reducible repeat (first | refine blk_drewN ?_ _ | refine blk_drew ?_ | refine blk_alloc ?_ _)); exact BK124.out⟩, ⟨by repeat (first | (with_reducible first | exact HB.out | apply below_alloc | apply pw_below_drewN | apply below_drew1 | refine below_set ?_ GE122.out | refine below_set ?_ GE124.out) | exact HB.out)⟩⟩
               ·
                replace c72 := Bool.eq_false_iff.mpr c72
                subst c72
                have H1 : (if 0 ≤ (wrap64 (x15_1 - 1)) then (if (wrap64 (x15_1 - 1)) < (l0_6.length : Int) then ((pylonref10_farther.f kj53 ((rd_T32 l0_6 x15_1).f1) ((rd_T32 l0_6 (wrap64 (x15_1 - 1))).f1) a2).bind fun t133 => (if t133 = true then (pylonref10_Check.j4 kj53 a1 a2 (wrap64 (x8_1 + 1)) x15_1 true (l0_6.length : Int) x15_1 a0_0 a0_1 a0_2 a0_3 a0_4 a0_5 l0_6 ((rd_T32 l0_6 x15_1).f0) ((rd_T32 l0_6 x15_1).f1) ((rd_T32 l0_6 x15_1).f2) ((rd_T32 l0_6 x15_1).f3) ((rd_T32 l0_6 x15_1).f4)) else ((pylonref10_farther.f kj53 ((rd_T32 l0_6 x15_1).f2) ((rd_T32 l0_6 (wrap64 (x15_1 - 1))).f2) a2).bind fun t135 => (pylonref10_Check.j4 kj53 a1 a2 (wrap64 (x8_1 + 1)) x15_1 t135 (l0_6.length : Int) x15_1 a0_0 a0_1 a0_2 a0_3 a0_4 a0_5 l0_6 ((rd_T32 l0_6 x15_1).f0) ((rd_T32 l0_6 x15_1).f1) ((rd_T32 l0_6 x15_1).f2) ((rd_T32 l0_6 x15_1).f3) ((rd_T32 l0_6 x15_1).f4))))) else (none)) else (none)) = some (r1, r2) := by rw [if_neg (show ¬ (false = true) by decide)] at H; exact H
                clear H
                have H := H1
                clear H1
                obtain ⟨ji74, hji74⟩ : ∃ j_ : Int, (wrap64 (x15_1 - 1)) = j_ := ⟨_, rfl⟩
                replace H : (if 0 ≤ (ji74) then (if (ji74) < (l0_6.length : Int) then ((pylonref10_farther.f kj53 ((rd_T32 l0_6 x15_1).f1) ((rd_T32 l0_6 (ji74)).f1) a2).bind fun t133 => (if t133 = true then (pylonref10_Check.j4 kj53 a1 a2 (wrap64 (x8_1 + 1)) x15_1 true (l0_6.length : Int) x15_1 a0_0 a0_1 a0_2 a0_3 a0_4 a0_5 l0_6 ((rd_T32 l0_6 x15_1).f0) ((rd_T32 l0_6 x15_1).f1) ((rd_T32 l0_6 x15_1).f2) ((rd_T32 l0_6 x15_1).f3) ((rd_T32 l0_6 x15_1).f4)) else ((pylonref10_farther.f kj53 ((rd_T32 l0_6 x15_1).f2) ((rd_T32 l0_6 (ji74)).f2) a2).bind fun t135 => (pylonref10_Check.j4 kj53 a1 a2 (wrap64 (x8_1 + 1)) x15_1 t135 (l0_6.length : Int) x15_1 a0_0 a0_1 a0_2 a0_3 a0_4 a0_5 l0_6 ((rd_T32 l0_6 x15_1).f0) ((rd_T32 l0_6 x15_1).f1) ((rd_T32 l0_6 x15_1).f2) ((rd_T32 l0_6 x15_1).f3) ((rd_T32 l0_6 x15_1).f4))))) else (none)) else (none)) = some (r1, r2) := by first | (rw [hji74] at H; exact H) | (simp only [hji74] at H ⊢; exact H)
                have hji74w : (IntKind.i64.wrap (x15_1 - 1)) = ji74 := (i64_w _).trans hji74
                by_cases c75 : 0 ≤ (ji74)
                ·
                 rw [if_pos c75] at H
                 have c75b0 : decide (0 ≤ (ji74)) = true := decide_eq_true c75
                 clear c75
                 by_cases c76 : (ji74) < (l0_6.length : Int)
                 ·
                  rw [if_pos c76] at H
                  have c76b0 : decide ((ji74) < (l0_6.length : Int)) = true := decide_eq_true c76
                  clear c76
                  replace H := Option.bind_eq_some_iff.mp H
                  obtain ⟨t133, A770, H⟩ := H
                  replace H : (if t133 = true then (pylonref10_Check.j4 kj53 a1 a2 (wrap64 (x8_1 + 1)) x15_1 true (l0_6.length : Int) x15_1 a0_0 a0_1 a0_2 a0_3 a0_4 a0_5 l0_6 ((rd_T32 l0_6 x15_1).f0) ((rd_T32 l0_6 x15_1).f1) ((rd_T32 l0_6 x15_1).f2) ((rd_T32 l0_6 x15_1).f3) ((rd_T32 l0_6 x15_1).f4)) else ((pylonref10_farther.f kj53 ((rd_T32 l0_6 x15_1).f2) ((rd_T32 l0_6 (ji74)).f2) a2).bind fun t135 => (pylonref10_Check.j4 kj53 a1 a2 (wrap64 (x8_1 + 1)) x15_1 t135 (l0_6.length : Int) x15_1 a0_0 a0_1 a0_2 a0_3 a0_4 a0_5 l0_6 ((rd_T32 l0_6 x15_1).f0) ((rd_T32 l0_6 x15_1).f1) ((rd_T32 l0_6 x15_1).f2) ((rd_T32 l0_6 x15_1).f3) ((rd_T32 l0_6 x15_1).f4)))) = some (r1, r2) := H
                  have A77 := Aside0.mk A770
                  clear A770
                  by_cases c78 : t133 = true
                  ·
                   subst c78
                   have H1 : (pylonref10_Check.j4 kj53 a1 a2 (wrap64 (x8_1 + 1)) x15_1 true (l0_6.length : Int) x15_1 a0_0 a0_1 a0_2 a0_3 a0_4 a0_5 l0_6 ((rd_T32 l0_6 x15_1).f0) ((rd_T32 l0_6 x15_1).f1) ((rd_T32 l0_6 x15_1).f2) ((rd_T32 l0_6 x15_1).f3) ((rd_T32 l0_6 x15_1).f4)) = some (r1, r2) := by rw [if_pos rfl] at H; exact H
                   clear H
                   have H := H1
                   clear H1
                   have H' := Aside0.mk H
                   clear H
                   try go_wp2
                   have n0_ := Aside0.mk (blk_drew BK122.out)
                   have n1_ := Aside0.mk (blk_drew BK124.out)
                   have n2_ := Aside0.mk (below_drew1 HB.out)
                   clear BK122
                   clear BK124
                   clear HB
                   have BK122 := n0_
                   have BK124 := n1_
                   have HB := n2_
                   clear n0_ n1_ n2_
                   have p132 : 0 ≤ ((ji74) : Int) := of_decide_eq_true (by first | (with_reducible assumption) | assumption)
                   have q132 : (ji74) < (l0_6.length : Int) := of_decide_eq_true (by first | (with_reducible assumption) | assumption)
                   obtain ⟨ad132, e132, hx132_0, hx132_1, hx132_2, hx132_3, hx132_4⟩ := at_T32 HR0_6.out (ji74) p132 q132
                   have hw132_4 := hx132_4
                   have hw132_3 := hx132_3
                   have hw132_2 := hx132_2
                   have hw132_1 := hx132_1
                   have hw132_0 := hx132_0
                   obtain rfl : ad123 = ad132 := (by injection e132)
                   replace hx132_0 := (HB.out.cell (World.block_lt_of_cell? w _ hx132_0)).trans hx132_0
                   replace hx132_1 := (HB.out.cell (World.block_lt_of_cell? w _ hx132_1)).trans hx132_1
                   replace hx132_2 := (HB.out.cell (World.block_lt_of_cell? w _ hx132_2)).trans hx132_2
                   replace hx132_3 := (HB.out.cell (World.block_lt_of_cell? w _ hx132_3)).trans hx132_3
                   replace hx132_4 := (HB.out.cell (World.block_lt_of_cell? w _ hx132_4)).trans hx132_4
                   replace p132 := eq_true p132
                   replace q132 := eq_true q132
                   refine start_ (n := 28) (S := fun w' => w'.cell? ⟨gb124, 0, none⟩ = some (.int .i64 ((rd_T32 l0_6 x15_1).f0)) ∧ w'.cell? ⟨gb124, 1, none⟩ = some (.int .i64 ((rd_T32 l0_6 x15_1).f1)) ∧ w'.cell? ⟨gb124, 2, none⟩ = some (.int .i64 ((rd_T32 l0_6 x15_1).f2)) ∧ w'.cell? ⟨gb124, 3, none⟩ = some (.int .i64 ((rd_T32 l0_6 x15_1).f3)) ∧ w'.cell? ⟨gb124, 4, none⟩ = some (.int .u8 ((rd_T32 l0_6 x15_1).f4)) ∧ w'.cell? ⟨gb122, 0, none⟩ = some (.string a0_0) ∧ w'.cell? ⟨gb122, 1, none⟩ = some (.int .i64 a0_1) ∧ w'.cell? ⟨gb122, 2, none⟩ = some (.int .i64 a0_2) ∧ w'.cell? ⟨gb122, 3, none⟩ = some (.int .i64 a0_3) ∧ w'.cell? ⟨gb122, 4, none⟩ = some (.int .i64 a0_4) ∧ w'.cell? ⟨gb122, 5, none⟩ = some (.int .i64 a0_5) ∧ w'.cell? ⟨gb122, 6, none⟩ = some (.slice (some ad123) l0_6.length c0_6) ∧ w'.cell? (ad123.add (((ji74)).toNat * 5)) = some (.int .i64 ((rd_T32 l0_6 (ji74)).f0)) ∧ w'.cell? ⟨(ad123.add (((ji74)).toNat * 5)).block, (ad123.add (((ji74)).toNat * 5)).off + 1, none⟩ = some (.int .i64 ((rd_T32 l0_6 (ji74)).f1)) ∧ w'.cell? ⟨(ad123.add (((ji74)).toNat * 5)).block, (ad123.add (((ji74)).toNat * 5)).off + 2, none⟩ = some (.int .i64 ((rd_T32 l0_6 (ji74)).f2)) ∧ w'.cell? ⟨(ad123.add (((ji74)).toNat * 5)).block, (ad123.add (((ji74)).toNat * 5)).off + 3, none⟩ = some (.int .i64 ((rd_T32 l0_6 (ji74)).f3)) ∧ w'.cell? ⟨(ad123.add (((ji74)).toNat * 5)).block, (ad123.add (((ji74)).toNat * 5)).off + 4, none⟩ = some (.int .u8 ((rd_T32 l0_6 (ji74)).f4))) (ds := []) (upT 0 28) (by kernel_rfl) rfl rfl ⟨(blk_cell BK124.out 0).trans rfl, (blk_cell BK124.out 1).trans rfl, (blk_cell BK124.out 2).trans rfl, (blk_cell BK124.out 3).trans rfl, (blk_cell BK124.out 4).trans rfl, (blk_cell BK122.out 0).trans rfl, (blk_cell BK122.out 1).trans rfl, (blk_cell BK122.out 2).trans rfl, (blk_cell BK122.out 3).trans rfl, (blk_cell BK122.out 4).trans rfl, (blk_cell BK122.out 5).trans rfl, (blk_cell BK122.out 6).trans rfl, ((HB.out.cell (World.block_lt_of_cell? w _ hw132_0)).trans hw132_0), ((HB.out.cell (World.block_lt_of_cell? w _ hw132_1)).trans hw132_1), ((HB.out.cell (World.block_lt_of_cell? w _ hw132_2)).trans hw132_2), ((HB.out.cell (World.block_lt_of_cell? w _ hw132_3)).trans hw132_3), ((HB.out.cell (World.block_lt_of_cell? w _ hw132_4)).trans hw132_4)⟩ (fun hHeld => ?_); refine with_tabW pylonref10_Check.tab11 pylonref10_Check.bits11 (fun HT_ HW_ => ?_)
                   generalize wc.drew = w79 at BK122 BK124 HB hx132_0 hx132_1 hx132_2 hx132_3 hx132_4 hHeld ⊢
                   refine pq 0 126 ?_ (upT 1 27) rfl rfl HT_ (by kernel_rfl) (fun _ _ _ h => h) (Or.inl ⟨by rfl, ?_⟩) ?_ ?_ ?_; rotate_left; (intro w'; go_simp; with_reducible rfl); rotate_left; (simp only [putS]; rfl)
                   refine pq 1 127 ?_ (upT 2 26) rfl rfl HT_ (by kernel_rfl) (fun _ _ _ h => h) (Or.inl ⟨by rfl, ?_⟩) ?_ ?_ ?_; rotate_left; (intro w'; go_simp; with_reducible rfl); rotate_left; (simp only [putS]; rfl)
                   refine pq 2 128 ?_ (upT 3 25) rfl rfl HT_ (by kernel_rfl) (fun _ _ _ h => h) (Or.inl ⟨by rfl, ?_⟩) ?_ ?_ ?_; rotate_left; (intro w'; go_simp; with_reducible rfl); rotate_left; (simp only [putS]; rfl)
                   refine pure_ (i := 4) (N := some 130) (v := ?_) (a' := ?_) #[true, true, true, false, true, false, false, false, false, false, false, false, false, false, false, false, false, false, false, false, false, false, false, false, false, false, false, false] rfl rfl (any_of HT_.out (by kernel_rfl)) (fun _ _ _ h => h) (Or.inl ⟨by rfl, ?_⟩) ?_ ?_; rotate_left; (intro w'; go_simp; with_reducible rfl); rotate_left; (simp only [putS]; rfl)
                   refine pure_ (i := 6) (N := some 132) (v := ?_) (a' := ?_) #[true, true, true, false, true, false, true, false, false, false, false, false, false, false, false, false, false, false, false, false, false, false, false, false, false, false, false, false] rfl rfl (any_of HT_.out (by kernel_rfl)) (fun _ _ _ h => h) (Or.inl ⟨by rfl, ?_⟩) ?_ ?_; rotate_left; (intro w'; go_simp; with_reducible rfl); rotate_left; (simp only [putS]; rfl)
                   refine pure_ (i := 7) (N := some 133) (v := ?_) (a' := ?_) #[true, true, true, false, true, false, true, true, false, false, false, false, false, false, false, false, false, false, false, false, false, false, false, false, false, false, false, false] rfl rfl (any_of HT_.out (by kernel_rfl)) (fun _ _ _ h => h) (Or.inl ⟨by rfl, ?_⟩) ?_ ?_; rotate_left; (intro w'; go_simp; with_reducible rfl); rotate_left; (simp only [putS]; rfl)
                   refine pure_ (i := 11) (N := some 137) (v := ?_) (a' := ?_) #[true, true, true, false, true, false, true, true, false, false, false, true, false, false, false, false, false, false, false, false, false, false, false, false, false, false, false, false] rfl rfl (any_of HT_.out (by kernel_rfl)) (fun _ _ _ h => h) (Or.inl ⟨by rfl, ?_⟩) ?_ ?_; rotate_left; (intro w'; go_simp; with_reducible rfl); rotate_left; (simp only [putS]; rfl)
                   refine take_ (i := 3) (N := some 129) (v := ?_) (a' := ?_) #[true, true, true, true, true, false, true, true, false, false, false, true, false, false, false, false, false, false, false, false, false, false, false, false, false, false, false, false] rfl rfl (take_ofW HT_.out HW_.out (by kernel_rfl)) (fun _ _ _ h => h) (Or.inl ⟨by rfl, ?_⟩) hHeld ?_ ?_
                   rotate_left
                   ·
                    rintro w' ⟨s0, s1, s2, s3, s4, s5, s6, s7, s8, s9, s10, s11, s12, s13, s14, s15, s16⟩
                    go_simp
                    with_reducible rfl
                   rotate_left; (simp only [putS]; rfl)
                   refine take_ (i := 5) (N := some 131) (v := ?_) (a' := ?_) #[true, true, true, true, true, true, true, true, false, false, false, true, false, false, false, false, false, false, false, false, false, false, false, false, false, false, false, false] rfl rfl (take_ofW HT_.out HW_.out (by kernel_rfl)) (fun _ _ _ h => h) (Or.inl ⟨by rfl, ?_⟩) hHeld ?_ ?_
                   rotate_left
                   ·
                    rintro w' ⟨s0, s1, s2, s3, s4, s5, s6, s7, s8, s9, s10, s11, s12, s13, s14, s15, s16⟩
                    go_simp
                    with_reducible rfl
                   rotate_left; (simp only [putS]; rfl)
                   refine pure_ (i := 8) (N := some 134) (v := ?_) (a' := ?_) #[true, true, true, true, true, true, true, true, true, false, false, true, false, false, false, false, false, false, false, false, false, false, false, false, false, false, false, false] rfl rfl (any_of HT_.out (by kernel_rfl)) (fun _ _ _ h => h) (Or.inl ⟨by rfl, ?_⟩) ?_ ?_; rotate_left; (intro w'; go_simp; with_reducible rfl); rotate_left; (simp only [putS]; rfl)
                   refine pure_ (i := 9) (N := some 135) (v := ?_) (a' := ?_) #[true, true, true, true, true, true, true, true, true, true, false, true, false, false, false, false, false, false, false, false, false, false, false, false, false, false, false, false] rfl rfl (any_of HT_.out (by kernel_rfl)) (fun _ _ _ h => h) (Or.inl ⟨by rfl, ?_⟩) ?_ ?_; rotate_left; (intro w'; go_simp; with_reducible rfl); rotate_left; (simp only [putS]; rfl)
                   refine take_ (i := 10) (N := some 136) (v := ?_) (a' := ?_) (upT 12 16) rfl rfl (take_ofW HT_.out HW_.out (by kernel_rfl)) (fun _ _ _ h => h) (Or.inl ⟨by rfl, ?_⟩) hHeld ?_ ?_
                   rotate_left
                   ·
                    rintro w' ⟨s0, s1, s2, s3, s4, s5, s6, s7, s8, s9, s10, s11, s12, s13, s14, s15, s16⟩
                    go_simp
                    with_reducible rfl
                   rotate_left; (simp only [putS]; rfl)
                   refine one_ (i := 12) (N := some 138) (upT 13 15) rfl rfl (one_of HT_.out (by kernel_rfl)) (by decide) (fun K hK => ?_)
                   refine goes_ Try.func27 (by kernel_rfl) rfl #[.int .i64 ((rd_T32 l0_6 x15_1).f1), .int .i64 ((rd_T32 l0_6 (ji74)).f1), .int .i64 a2] (by rfl) rfl rfl (by (try simp only [List.map_toArray, List.map_cons, List.map_nil]); first | done | (simp only [hji74]; rfl) | rfl | (simp only [List.length_drop, List.length_take]; rfl)) ?_
                   with_reducible refine (pylonref10_farther.calls kj53 ((rd_T32 l0_6 x15_1).f1) ((rd_T32 l0_6 (ji74)).f1) a2 true _ A77.out).mono ?_
                   rintro e w' ⟨rfl, ⟨nd, rfl⟩⟩
                   refine ⟨_, rfl, ?_⟩
                   refine hK.out _ _ ⟨(blk_cell BK124.out 0).trans rfl, (blk_cell BK124.out 1).trans rfl, (blk_cell BK124.out 2).trans rfl, (blk_cell BK124.out 3).trans rfl, (blk_cell BK124.out 4).trans rfl, (blk_cell BK122.out 0).trans rfl, (blk_cell BK122.out 1).trans rfl, (blk_cell BK122.out 2).trans rfl, (blk_cell BK122.out 3).trans rfl, (blk_cell BK122.out 4).trans rfl, (blk_cell BK122.out 5).trans rfl, (blk_cell BK122.out 6).trans rfl, ((HB.out.cell (World.block_lt_of_cell? w _ hw132_0)).trans hw132_0), ((HB.out.cell (World.block_lt_of_cell? w _ hw132_1)).trans hw132_1), ((HB.out.cell (World.block_lt_of_cell? w _ hw132_2)).trans hw132_2), ((HB.out.cell (World.block_lt_of_cell? w _ hw132_3)).trans hw132_3), ((HB.out.cell (World.block_lt_of_cell? w _ hw132_4)).trans hw132_4)⟩ (fun hHeld => ?_)
                   clear hK K
                   refine norm_ (a' := ?_) ?_ ?_
                   rotate_left
                   ·
                    show Act.put _ (some 138) _ = _
                    simp only [putS]
                    rfl
                   refine pq 13 139 ?_ (upT 14 14) rfl rfl HT_ (by kernel_rfl) (fun _ _ _ h => h) (Or.inl ⟨by rfl, ?_⟩) ?_ ?_ ?_; rotate_left; (intro w'; go_simp; with_reducible rfl); rotate_left; (simp only [putS]; rfl)
                   refine pq 14 140 ?_ (upT 15 13) rfl rfl HT_ (by kernel_rfl) (fun _ _ _ h => h) (Or.inl ⟨by rfl, ?_⟩) ?_ ?_ ?_; rotate_left; (intro w'; go_simp; with_reducible rfl); rotate_left; (simp only [putS]; rfl)
                   refine pq 15 141 undef (upT 16 12) rfl rfl HT_ (by kernel_rfl) (fun _ _ _ h => h) (Or.inr ⟨by rfl, rfl⟩) ?_ ?_ ?_
                   rotate_left; (simp only [putS]; rfl)
                   refine pq 16 142 undef (upT 17 11) rfl rfl HT_ (by kernel_rfl) (fun _ _ _ h => h) (Or.inr ⟨by rfl, rfl⟩) ?_ ?_ ?_
                   rotate_left; (simp only [putS]; rfl)
                   refine pq 17 143 undef (upT 18 10) rfl rfl HT_ (by kernel_rfl) (fun _ _ _ h => h) (Or.inr ⟨by rfl, rfl⟩) ?_ ?_ ?_
                   rotate_left; (simp only [putS]; rfl)
                   refine pq 18 144 undef (upT 19 9) rfl rfl HT_ (by kernel_rfl) (fun _ _ _ h => h) (Or.inr ⟨by rfl, rfl⟩) ?_ ?_ ?_
                   rotate_left; (simp only [putS]; rfl)
                   refine pq 19 145 undef (upT 20 8) rfl rfl HT_ (by kernel_rfl) (fun _ _ _ h => h) (Or.inr ⟨by rfl, rfl⟩) ?_ ?_ ?_
                   rotate_left; (simp only [putS]; rfl)
                   refine pq 20 146 undef (upT 21 7) rfl rfl HT_ (by kernel_rfl) (fun _ _ _ h => h) (Or.inr ⟨by rfl, rfl⟩) ?_ ?_ ?_
                   rotate_left; (simp only [putS]; rfl)
                   refine pq 21 147 undef (upT 22 6) rfl rfl HT_ (by kernel_rfl) (fun _ _ _ h => h) (Or.inr ⟨by rfl, rfl⟩) ?_ ?_ ?_
                   rotate_left; (simp only [putS]; rfl)
                   refine pq 22 148 undef (upT 23 5) rfl rfl HT_ (by kernel_rfl) (fun _ _ _ h => h) (Or.inr ⟨by rfl, rfl⟩) ?_ ?_ ?_
                   rotate_left; (simp only [putS]; rfl)
                   refine pq 23 149 undef (upT 24 4) rfl rfl HT_ (by kernel_rfl) (fun _ _ _ h => h) (Or.inr ⟨by rfl, rfl⟩) ?_ ?_ ?_
                   rotate_left; (simp only [putS]; rfl)
                   refine pq 24 150 undef (upT 25 3) rfl rfl HT_ (by kernel_rfl) (fun _ _ _ h => h) (Or.inr ⟨by rfl, rfl⟩) ?_ ?_ ?_
                   rotate_left; (simp only [putS]; rfl)
                   refine pq 25 151 undef (upT 26 2) rfl rfl HT_ (by kernel_rfl) (fun _ _ _ h => h) (Or.inr ⟨by rfl, rfl⟩) ?_ ?_ ?_
                   rotate_left; (simp only [putS]; rfl)
                   refine pq 26 152 ?_ (upT 27 1) rfl rfl HT_ (by kernel_rfl) (fun _ _ _ h => h) (Or.inl ⟨by rfl, ?_⟩) ?_ ?_ ?_; rotate_left; (intro w'; go_simp; with_reducible rfl); rotate_left; (simp only [putS]; rfl)
                   refine pq 27 11 ?_ (upT 28 0) rfl rfl HT_ (by kernel_rfl) (fun _ _ _ h => h) (Or.inl ⟨by rfl, ?_⟩) ?_ ?_ ?_; rotate_left; (intro w'; go_simp; with_reducible rfl); rotate_left; (simp only [putS]; rfl)
                   refine done_ (done_of HT_.out (by kernel_rfl)) ?_
                   try go_wp2
                   go_meet
                   case rel => exact ⟨_, ((wrap64 (x8_1 + 1))), (true), (by first | rfl | (simp; done) | (simp [*]; done)), (by first | rfl | (simp; done) | (simp [*]; done)), H', ⟨by have := HK1.out; have := HJ8.out; have := HJ33.out; have := HJ53.out; first | omega | exact Nat.le_refl _⟩, ⟨by (with_reducible repeat (first | refine blk_drewN ?_ _ | refine blk_drew ?_ | refine blk_alloc ?_ _)); exact BK122.out⟩, ⟨by (with_reducible repeat (first | refine blk_drewN ?_ _ | refine blk_drew ?_ | refine blk_alloc ?_ _)); exact BK124.out⟩, ⟨by repeat (first | (with_reducible first | exact HB.out | apply below_alloc | apply pw_below_drewN | apply below_drew1 | refine below_set ?_ GE122.out | refine below_set ?_ GE124.out) | exact HB.out)⟩⟩
                  ·
                   replace c78 := Bool.eq_false_iff.mpr c78
                   subst c78
                   have H1 : ((pylonref10_farther.f kj53 ((rd_T32 l0_6 x15_1).f2) ((rd_T32 l0_6 (ji74)).f2) a2).bind fun t135 => (pylonref10_Check.j4 kj53 a1 a2 (wrap64 (x8_1 + 1)) x15_1 t135 (l0_6.length : Int) x15_1 a0_0 a0_1 a0_2 a0_3 a0_4 a0_5 l0_6 ((rd_T32 l0_6 x15_1).f0) ((rd_T32 l0_6 x15_1).f1) ((rd_T32 l0_6 x15_1).f2) ((rd_T32 l0_6 x15_1).f3) ((rd_T32 l0_6 x15_1).f4))) = some (r1, r2) := by rw [if_neg (show ¬ (false = true) by decide)] at H; exact H
                   clear H
                   have H := H1
                   clear H1
                   replace H := Option.bind_eq_some_iff.mp H
                   obtain ⟨t135, A800, H⟩ := H
                   replace H : (pylonref10_Check.j4 kj53 a1 a2 (wrap64 (x8_1 + 1)) x15_1 t135 (l0_6.length : Int) x15_1 a0_0 a0_1 a0_2 a0_3 a0_4 a0_5 l0_6 ((rd_T32 l0_6 x15_1).f0) ((rd_T32 l0_6 x15_1).f1) ((rd_T32 l0_6 x15_1).f2) ((rd_T32 l0_6 x15_1).f3) ((rd_T32 l0_6 x15_1).f4)) = some (r1, r2) := H
                   have A80 := Aside0.mk A800
                   clear A800
                   have H' := Aside0.mk H
                   clear H
                   try go_wp2
                   have n0_ := Aside0.mk (blk_drew BK122.out)
                   have n1_ := Aside0.mk (blk_drew BK124.out)
                   have n2_ := Aside0.mk (below_drew1 HB.out)
                   clear BK122
                   clear BK124
                   clear HB
                   have BK122 := n0_
                   have BK124 := n1_
                   have HB := n2_
                   clear n0_ n1_ n2_
                   have p132 : 0 ≤ ((ji74) : Int) := of_decide_eq_true (by first | (with_reducible assumption) | assumption)
                   have q132 : (ji74) < (l0_6.length : Int) := of_decide_eq_true (by first | (with_reducible assumption) | assumption)
                   obtain ⟨ad132, e132, hx132_0, hx132_1, hx132_2, hx132_3, hx132_4⟩ := at_T32 HR0_6.out (ji74) p132 q132
                   have hw132_4 := hx132_4
                   have hw132_3 := hx132_3
                   have hw132_2 := hx132_2
                   have hw132_1 := hx132_1
                   have hw132_0 := hx132_0
                   obtain rfl : ad123 = ad132 := (by injection e132)
                   replace hx132_0 := (HB.out.cell (World.block_lt_of_cell? w _ hx132_0)).trans hx132_0
                   replace hx132_1 := (HB.out.cell (World.block_lt_of_cell? w _ hx132_1)).trans hx132_1
                   replace hx132_2 := (HB.out.cell (World.block_lt_of_cell? w _ hx132_2)).trans hx132_2
                   replace hx132_3 := (HB.out.cell (World.block_lt_of_cell? w _ hx132_3)).trans hx132_3
                   replace hx132_4 := (HB.out.cell (World.block_lt_of_cell? w _ hx132_4)).trans hx132_4
                   replace p132 := eq_true p132
                   replace q132 := eq_true q132
                   have p134 : 0 ≤ ((ji74) : Int) := of_decide_eq_true (by first | (with_reducible assumption) | assumption)
                   have q134 : (ji74) < (l0_6.length : Int) := of_decide_eq_true (by first | (with_reducible assumption) | assumption)
                   obtain ⟨ad134, e134, hx134_0, hx134_1, hx134_2, hx134_3, hx134_4⟩ := at_T32 HR0_6.out (ji74) p134 q134
                   have hw134_4 := hx134_4
                   have hw134_3 := hx134_3
                   have hw134_2 := hx134_2
                   have hw134_1 := hx134_1
                   have hw134_0 := hx134_0
                   obtain rfl : ad123 = ad134 := (by injection e134)
                   replace hx134_0 := (HB.out.cell (World.block_lt_of_cell? w _ hx134_0)).trans hx134_0
                   replace hx134_1 := (HB.out.cell (World.block_lt_of_cell? w _ hx134_1)).trans hx134_1
                   replace hx134_2 := (HB.out.cell (World.block_lt_of_cell? w _ hx134_2)).trans hx134_2
                   replace hx134_3 := (HB.out.cell (World.block_lt_of_cell? w _ hx134_3)).trans hx134_3
                   replace hx134_4 := (HB.out.cell (World.block_lt_of_cell? w _ hx134_4)).trans hx134_4
                   replace p134 := eq_true p134
                   replace q134 := eq_true q134
                   refine start_ (n := 28) (S := fun w' => w'.cell? ⟨gb124, 0, none⟩ = some (.int .i64 ((rd_T32 l0_6 x15_1).f0)) ∧ w'.cell? ⟨gb124, 1, none⟩ = some (.int .i64 ((rd_T32 l0_6 x15_1).f1)) ∧ w'.cell? ⟨gb124, 2, none⟩ = some (.int .i64 ((rd_T32 l0_6 x15_1).f2)) ∧ w'.cell? ⟨gb124, 3, none⟩ = some (.int .i64 ((rd_T32 l0_6 x15_1).f3)) ∧ w'.cell? ⟨gb124, 4, none⟩ = some (.int .u8 ((rd_T32 l0_6 x15_1).f4)) ∧ w'.cell? ⟨gb122, 0, none⟩ = some (.string a0_0) ∧ w'.cell? ⟨gb122, 1, none⟩ = some (.int .i64 a0_1) ∧ w'.cell? ⟨gb122, 2, none⟩ = some (.int .i64 a0_2) ∧ w'.cell? ⟨gb122, 3, none⟩ = some (.int .i64 a0_3) ∧ w'.cell? ⟨gb122, 4, none⟩ = some (.int .i64 a0_4) ∧ w'.cell? ⟨gb122, 5, none⟩ = some (.int .i64 a0_5) ∧ w'.cell? ⟨gb122, 6, none⟩ = some (.slice (some ad123) l0_6.length c0_6) ∧ w'.cell? (ad123.add (((ji74)).toNat * 5)) = some (.int .i64 ((rd_T32 l0_6 (ji74)).f0)) ∧ w'.cell? ⟨(ad123.add (((ji74)).toNat * 5)).block, (ad123.add (((ji74)).toNat * 5)).off + 1, none⟩ = some (.int .i64 ((rd_T32 l0_6 (ji74)).f1)) ∧ w'.cell? ⟨(ad123.add (((ji74)).toNat * 5)).block, (ad123.add (((ji74)).toNat * 5)).off + 2, none⟩ = some (.int .i64 ((rd_T32 l0_6 (ji74)).f2)) ∧ w'.cell? ⟨(ad123.add (((ji74)).toNat * 5)).block, (ad123.add (((ji74)).toNat * 5)).off + 3, none⟩ = some (.int .i64 ((rd_T32 l0_6 (ji74)).f3)) ∧ w'.cell? ⟨(ad123.add (((ji74)).toNat * 5)).block, (ad123.add (((ji74)).toNat * 5)).off + 4, none⟩ = some (.int .u8 ((rd_T32 l0_6 (ji74)).f4)) ∧ w'.cell? (ad123.add (((ji74)).toNat * 5)) = some (.int .i64 ((rd_T32 l0_6 (ji74)).f0)) ∧ w'.cell? ⟨(ad123.add (((ji74)).toNat * 5)).block, (ad123.add (((ji74)).toNat * 5)).off + 1, none⟩ = some (.int .i64 ((rd_T32 l0_6 (ji74)).f1)) ∧ w'.cell? ⟨(ad123.add (((ji74)).toNat * 5)).block, (ad123.add (((ji74)).toNat * 5)).off + 2, none⟩ = some (.int .i64 ((rd_T32 l0_6 (ji74)).f2)) ∧ w'.cell? ⟨(ad123.add (((ji74)).toNat * 5)).block, (ad123.add (((ji74)).toNat * 5)).off + 3, none⟩ = some (.int .i64 ((rd_T32 l0_6 (ji74)).f3)) ∧ w'.cell? ⟨(ad123.add (((ji74)).toNat * 5)).block, (ad123.add (((ji74)).toNat * 5)).off + 4, none⟩ = some (.int .u8 ((rd_T32 l0_6 (ji74)).f4))) (ds := []) (upT 0 28) (by kernel_rfl) rfl rfl ⟨(blk_cell BK124.out 0).trans rfl, (blk_cell BK124.out 1).trans rfl, (blk_cell BK124.out 2).trans rfl, (blk_cell BK124.out 3).trans rfl, (blk_cell BK124.out 4).trans rfl, (blk_cell BK122.out 0).trans rfl, (blk_cell BK122.out 1).trans rfl, (blk_cell BK122.out 2).trans rfl, (blk_cell BK122.out 3).trans rfl, (blk_cell BK122.out 4).trans rfl, (blk_cell BK122.out 5).trans rfl, (blk_cell BK122.out 6).trans rfl, ((HB.out.cell (World.block_lt_of_cell? w _ hw132_0)).trans hw132_0), ((HB.out.cell (World.block_lt_of_cell? w _ hw132_1)).trans hw132_1), ((HB.out.cell (World.block_lt_of_cell? w _ hw132_2)).trans hw132_2), ((HB.out.cell (World.block_lt_of_cell? w _ hw132_3)).trans hw132_3), ((HB.out.cell (World.block_lt_of_cell? w _ hw132_4)).trans hw132_4), ((HB.out.cell (World.block_lt_of_cell? w _ hw134_0)).trans hw134_0), ((HB.out.cell (World.block_lt_of_cell? w _ hw134_1)).trans hw134_1), ((HB.out.cell (World.block_lt_of_cell? w _ hw134_2)).trans hw134_2), ((HB.out.cell (World.block_lt_of_cell? w _ hw134_3)).trans hw134_3), ((HB.out.cell (World.block_lt_of_cell? w _ hw134_4)).trans hw134_4)⟩ (fun hHeld => ?_); refine with_tabW pylonref10_Check.tab11 pylonref10_Check.bits11 (fun HT_ HW_ => ?_)
                   generalize wc.drew = w81 at BK122 BK124 HB hx132_0 hx132_1 hx132_2 hx132_3 hx132_4 hx134_0 hx134_1 hx134_2 hx134_3 hx134_4 hHeld ⊢
                   refine pq 0 126 ?_ (upT 1 27) rfl rfl HT_ (by kernel_rfl) (fun _ _ _ h => h) (Or.inl ⟨by rfl, ?_⟩) ?_ ?_ ?_; rotate_left; (intro w'; go_simp; with_reducible rfl); rotate_left; (simp only [putS]; rfl)
                   refine pq 1 127 ?_ (upT 2 26) rfl rfl HT_ (by kernel_rfl) (fun _ _ _ h => h) (Or.inl ⟨by rfl, ?_⟩) ?_ ?_ ?_; rotate_left; (intro w'; go_simp; with_reducible rfl); rotate_left; (simp only [putS]; rfl)
                   refine pq 2 128 ?_ (upT 3 25) rfl rfl HT_ (by kernel_rfl) (fun _ _ _ h => h) (Or.inl ⟨by rfl, ?_⟩) ?_ ?_ ?_; rotate_left; (intro w'; go_simp; with_reducible rfl); rotate_left; (simp only [putS]; rfl)
                   refine pure_ (i := 4) (N := some 130) (v := ?_) (a' := ?_) #[true, true, true, false, true, false, false, false, false, false, false, false, false, false, false, false, false, false, false, false, false, false, false, false, false, false, false, false] rfl rfl (any_of HT_.out (by kernel_rfl)) (fun _ _ _ h => h) (Or.inl ⟨by rfl, ?_⟩) ?_ ?_; rotate_left; (intro w'; go_simp; with_reducible rfl); rotate_left; (simp only [putS]; rfl)
                   refine pure_ (i := 6) (N := some 132) (v := ?_) (a' := ?_) #[true, true, true, false, true, false, true, false, false, false, false, false, false, false, false, false, false, false, false, false, false, false, false, false, false, false, false, false] rfl rfl (any_of HT_.out (by kernel_rfl)) (fun _ _ _ h => h) (Or.inl ⟨by rfl, ?_⟩) ?_ ?_; rotate_left; (intro w'; go_simp; with_reducible rfl); rotate_left; (simp only [putS]; rfl)
                   refine pure_ (i := 7) (N := some 133) (v := ?_) (a' := ?_) #[true, true, true, false, true, false, true, true, false, false, false, false, false, false, false, false, false, false, false, false, false, false, false, false, false, false, false, false] rfl rfl (any_of HT_.out (by kernel_rfl)) (fun _ _ _ h => h) (Or.inl ⟨by rfl, ?_⟩) ?_ ?_; rotate_left; (intro w'; go_simp; with_reducible rfl); rotate_left; (simp only [putS]; rfl)
                   refine pure_ (i := 11) (N := some 137) (v := ?_) (a' := ?_) #[true, true, true, false, true, false, true, true, false, false, false, true, false, false, false, false, false, false, false, false, false, false, false, false, false, false, false, false] rfl rfl (any_of HT_.out (by kernel_rfl)) (fun _ _ _ h => h) (Or.inl ⟨by rfl, ?_⟩) ?_ ?_; rotate_left; (intro w'; go_simp; with_reducible rfl); rotate_left; (simp only [putS]; rfl)
                   refine take_ (i := 3) (N := some 129) (v := ?_) (a' := ?_) #[true, true, true, true, true, false, true, true, false, false, false, true, false, false, false, false, false, false, false, false, false, false, false, false, false, false, false, false] rfl rfl (take_ofW HT_.out HW_.out (by kernel_rfl)) (fun _ _ _ h => h) (Or.inl ⟨by rfl, ?_⟩) hHeld ?_ ?_
                   rotate_left
                   ·
                    rintro w' ⟨s0, s1, s2, s3, s4, s5, s6, s7, s8, s9, s10, s11, s12, s13, s14, s15, s16, s17, s18, s19, s20, s21⟩
                    go_simp
                    with_reducible rfl
                   rotate_left; (simp only [putS]; rfl)
                   refine take_ (i := 5) (N := some 131) (v := ?_) (a' := ?_) #[true, true, true, true, true, true, true, true, false, false, false, true, false, false, false, false, false, false, false, false, false, false, false, false, false, false, false, false] rfl rfl (take_ofW HT_.out HW_.out (by kernel_rfl)) (fun _ _ _ h => h) (Or.inl ⟨by rfl, ?_⟩) hHeld ?_ ?_
                   rotate_left
                   ·
                    rintro w' ⟨s0, s1, s2, s3, s4, s5, s6, s7, s8, s9, s10, s11, s12, s13, s14, s15, s16, s17, s18, s19, s20, s21⟩
                    go_simp
                    with_reducible rfl
                   rotate_left; (simp only [putS]; rfl)
                   refine pure_ (i := 8) (N := some 134) (v := ?_) (a' := ?_) #[true, true, true, true, true, true, true, true, true, false, false, true, false, false, false, false, false, false, false, false, false, false, false, false, false, false, false, false] rfl rfl (any_of HT_.out (by kernel_rfl)) (fun _ _ _ h => h) (Or.inl ⟨by rfl, ?_⟩) ?_ ?_; rotate_left; (intro w'; go_simp; with_reducible rfl); rotate_left; (simp only [putS]; rfl)
                   refine pure_ (i := 9) (N := some 135) (v := ?_) (a' := ?_) #[true, true, true, true, true, true, true, true, true, true, false, true, false, false, false, false, false, false, false, false, false, false, false, false, false, false, false, false] rfl rfl (any_of HT_.out (by kernel_rfl)) (fun _ _ _ h => h) (Or.inl ⟨by rfl, ?_⟩) ?_ ?_; rotate_left; (intro w'; go_simp; with_reducible rfl); rotate_left; (simp only [putS]; rfl)
                   refine take_ (i := 10) (N := some 136) (v := ?_) (a' := ?_) (upT 12 16) rfl rfl (take_ofW HT_.out HW_.out (by kernel_rfl)) (fun _ _ _ h => h) (Or.inl ⟨by rfl, ?_⟩) hHeld ?_ ?_
                   rotate_left
                   ·
                    rintro w' ⟨s0, s1, s2, s3, s4, s5, s6, s7, s8, s9, s10, s11, s12, s13, s14, s15, s16, s17, s18, s19, s20, s21⟩
                    go_simp
                    with_reducible rfl
                   rotate_left; (simp only [putS]; rfl)
                   refine one_ (i := 12) (N := some 138) (upT 13 15) rfl rfl (one_of HT_.out (by kernel_rfl)) (by decide) (fun K hK => ?_)
                   refine goes_ Try.func27 (by kernel_rfl) rfl #[.int .i64 ((rd_T32 l0_6 x15_1).f1), .int .i64 ((rd_T32 l0_6 (ji74)).f1), .int .i64 a2] (by rfl) rfl rfl (by (try simp only [List.map_toArray, List.map_cons, List.map_nil]); first | done | (simp only [hji74]; rfl) | rfl | (simp only [List.length_drop, List.length_take]; rfl)) ?_
                   with_reducible refine (pylonref10_farther.calls kj53 ((rd_T32 l0_6 x15_1).f1) ((rd_T32 l0_6 (ji74)).f1) a2 false _ A77.out).mono ?_
                   rintro e w' ⟨rfl, ⟨nd, rfl⟩⟩
                   refine ⟨_, rfl, ?_⟩
                   refine hK.out _ _ ⟨(blk_cell BK124.out 0).trans rfl, (blk_cell BK124.out 1).trans rfl, (blk_cell BK124.out 2).trans rfl, (blk_cell BK124.out 3).trans rfl, (blk_cell BK124.out 4).trans rfl, (blk_cell BK122.out 0).trans rfl, (blk_cell BK122.out 1).trans rfl, (blk_cell BK122.out 2).trans rfl, (blk_cell BK122.out 3).trans rfl, (blk_cell BK122.out 4).trans rfl, (blk_cell BK122.out 5).trans rfl, (blk_cell BK122.out 6).trans rfl, ((HB.out.cell (World.block_lt_of_cell? w _ hw132_0)).trans hw132_0), ((HB.out.cell (World.block_lt_of_cell? w _ hw132_1)).trans hw132_1), ((HB.out.cell (World.block_lt_of_cell? w _ hw132_2)).trans hw132_2), ((HB.out.cell (World.block_lt_of_cell? w _ hw132_3)).trans hw132_3), ((HB.out.cell (World.block_lt_of_cell? w _ hw132_4)).trans hw132_4), ((HB.out.cell (World.block_lt_of_cell? w _ hw134_0)).trans hw134_0), ((HB.out.cell (World.block_lt_of_cell? w _ hw134_1)).trans hw134_1), ((HB.out.cell (World.block_lt_of_cell? w _ hw134_2)).trans hw134_2), ((HB.out.cell (World.block_lt_of_cell? w _ hw134_3)).trans hw134_3), ((HB.out.cell (World.block_lt_of_cell? w _ hw134_4)).trans hw134_4)⟩ (fun hHeld => ?_)
                   clear hK K
                   refine norm_ (a' := ?_) ?_ ?_
                   rotate_left
                   ·
                    show Act.put _ (some 138) _ = _
                    simp only [putS]
                    rfl
                   refine pq 13 139 ?_ (upT 14 14) rfl rfl HT_ (by kernel_rfl) (fun _ _ _ h => h) (Or.inl ⟨by rfl, ?_⟩) ?_ ?_ ?_; rotate_left; (intro w'; go_simp; with_reducible rfl); rotate_left; (simp only [putS]; rfl)
                   refine pq 14 140 ?_ (upT 15 13) rfl rfl HT_ (by kernel_rfl) (fun _ _ _ h => h) (Or.inl ⟨by rfl, ?_⟩) ?_ ?_ ?_; rotate_left; (intro w'; go_simp; with_reducible rfl); rotate_left; (simp only [putS]; rfl)
                   refine pq 15 141 ?_ (upT 16 12) rfl rfl HT_ (by kernel_rfl) (fun _ _ _ h => h) (Or.inl ⟨by rfl, ?_⟩) ?_ ?_ ?_; rotate_left; (intro w'; go_simp; with_reducible rfl); rotate_left; (simp only [putS]; rfl)
                   refine pure_ (i := 17) (N := some 143) (v := ?_) (a' := ?_) #[true, true, true, true, true, true, true, true, true, true, true, true, true, true, true, true, false, true, false, false, false, false, false, false, false, false, false, false] rfl rfl (any_of HT_.out (by kernel_rfl)) (fun _ _ _ h => h) (Or.inl ⟨by rfl, ?_⟩) ?_ ?_; rotate_left; (intro w'; go_simp; with_reducible rfl); rotate_left; (simp only [putS]; rfl)
                   refine pure_ (i := 19) (N := some 145) (v := ?_) (a' := ?_) #[true, true, true, true, true, true, true, true, true, true, true, true, true, true, true, true, false, true, false, true, false, false, false, false, false, false, false, false] rfl rfl (any_of HT_.out (by kernel_rfl)) (fun _ _ _ h => h) (Or.inl ⟨by rfl, ?_⟩) ?_ ?_; rotate_left; (intro w'; go_simp; with_reducible rfl); rotate_left; (simp only [putS]; rfl)
                   refine pure_ (i := 20) (N := some 146) (v := ?_) (a' := ?_) #[true, true, true, true, true, true, true, true, true, true, true, true, true, true, true, true, false, true, false, true, true, false, false, false, false, false, false, false] rfl rfl (any_of HT_.out (by kernel_rfl)) (fun _ _ _ h => h) (Or.inl ⟨by rfl, ?_⟩) ?_ ?_; rotate_left; (intro w'; go_simp; with_reducible rfl); rotate_left; (simp only [putS]; rfl)
                   refine pure_ (i := 24) (N := some 150) (v := ?_) (a' := ?_) #[true, true, true, true, true, true, true, true, true, true, true, true, true, true, true, true, false, true, false, true, true, false, false, false, true, false, false, false] rfl rfl (any_of HT_.out (by kernel_rfl)) (fun _ _ _ h => h) (Or.inl ⟨by rfl, ?_⟩) ?_ ?_; rotate_left; (intro w'; go_simp; with_reducible rfl); rotate_left; (simp only [putS]; rfl)
                   refine take_ (i := 16) (N := some 142) (v := ?_) (a' := ?_) #[true, true, true, true, true, true, true, true, true, true, true, true, true, true, true, true, true, true, false, true, true, false, false, false, true, false, false, false] rfl rfl (take_ofW HT_.out HW_.out (by kernel_rfl)) (fun _ _ _ h => h) (Or.inl ⟨by rfl, ?_⟩) hHeld ?_ ?_
                   rotate_left
                   ·
                    rintro w' ⟨s0, s1, s2, s3, s4, s5, s6, s7, s8, s9, s10, s11, s12, s13, s14, s15, s16, s17, s18, s19, s20, s21⟩
                    go_simp
                    with_reducible rfl
                   rotate_left; (simp only [putS]; rfl)
                   refine take_ (i := 18) (N := some 144) (v := ?_) (a' := ?_) #[true, true, true, true, true, true, true, true, true, true, true, true, true, true, true, true, true, true, true, true, true, false, false, false, true, false, false, false] rfl rfl (take_ofW HT_.out HW_.out (by kernel_rfl)) (fun _ _ _ h => h) (Or.inl ⟨by rfl, ?_⟩) hHeld ?_ ?_
                   rotate_left
                   ·
                    rintro w' ⟨s0, s1, s2, s3, s4, s5, s6, s7, s8, s9, s10, s11, s12, s13, s14, s15, s16, s17, s18, s19, s20, s21⟩
                    go_simp
                    with_reducible rfl
                   rotate_left; (simp only [putS]; rfl)
                   refine pure_ (i := 21) (N := some 147) (v := ?_) (a' := ?_) #[true, true, true, true, true, true, true, true, true, true, true, true, true, true, true, true, true, true, true, true, true, true, false, false, true, false, false, false] rfl rfl (any_of HT_.out (by kernel_rfl)) (fun _ _ _ h => h) (Or.inl ⟨by rfl, ?_⟩) ?_ ?_; rotate_left; (intro w'; go_simp; with_reducible rfl); rotate_left; (simp only [putS]; rfl)
                   refine pure_ (i := 22) (N := some 148) (v := ?_) (a' := ?_) #[true, true, true, true, true, true, true, true, true, true, true, true, true, true, true, true, true, true, true, true, true, true, true, false, true, false, false, false] rfl rfl (any_of HT_.out (by kernel_rfl)) (fun _ _ _ h => h) (Or.inl ⟨by rfl, ?_⟩) ?_ ?_; rotate_left; (intro w'; go_simp; with_reducible rfl); rotate_left; (simp only [putS]; rfl)
                   refine take_ (i := 23) (N := some 149) (v := ?_) (a' := ?_) (upT 25 3) rfl rfl (take_ofW HT_.out HW_.out (by kernel_rfl)) (fun _ _ _ h => h) (Or.inl ⟨by rfl, ?_⟩) hHeld ?_ ?_
                   rotate_left
                   ·
                    rintro w' ⟨s0, s1, s2, s3, s4, s5, s6, s7, s8, s9, s10, s11, s12, s13, s14, s15, s16, s17, s18, s19, s20, s21⟩
                    go_simp
                    with_reducible rfl
                   rotate_left; (simp only [putS]; rfl)
                   refine one_ (i := 25) (N := some 151) (upT 26 2) rfl rfl (one_of HT_.out (by kernel_rfl)) (by decide) (fun K hK => ?_)
                   refine goes_ Try.func27 (by kernel_rfl) rfl #[.int .i64 ((rd_T32 l0_6 x15_1).f2), .int .i64 ((rd_T32 l0_6 (ji74)).f2), .int .i64 a2] (by rfl) rfl rfl (by (try simp only [List.map_toArray, List.map_cons, List.map_nil]); first | done | (simp only [hji74]; rfl) | rfl | (simp only [List.length_drop, List.length_take]; rfl)) ?_
                   with_reducible refine (pylonref10_farther.calls kj53 ((rd_T32 l0_6 x15_1).f2) ((rd_T32 l0_6 (ji74)).f2) a2 t135 _ A80.out).mono ?_
                   rintro e w' ⟨rfl, ⟨nd, rfl⟩⟩
                   refine ⟨_, rfl, ?_⟩
                   refine hK.out _ _ ⟨(blk_cell BK124.out 0).trans rfl, (blk_cell BK124.out 1).trans rfl, (blk_cell BK124.out 2).trans rfl, (blk_cell BK124.out 3).trans rfl, (blk_cell BK124.out 4).trans rfl, (blk_cell BK122.out 0).trans rfl, (blk_cell BK122.out 1).trans rfl, (blk_cell BK122.out 2).trans rfl, (blk_cell BK122.out 3).trans rfl, (blk_cell BK122.out 4).trans rfl, (blk_cell BK122.out 5).trans rfl, (blk_cell BK122.out 6).trans rfl, ((HB.out.cell (World.block_lt_of_cell? w _ hw132_0)).trans hw132_0), ((HB.out.cell (World.block_lt_of_cell? w _ hw132_1)).trans hw132_1), ((HB.out.cell (World.block_lt_of_cell? w _ hw132_2)).trans hw132_2), ((HB.out.cell (World.block_lt_of_cell? w _ hw132_3)).trans hw132_3), ((HB.out.cell (World.block_lt_of_cell? w _ hw132_4)).trans hw132_4), ((HB.out.cell (World.block_lt_of_cell? w _ hw134_0)).trans hw134_0), ((HB.out.cell (World.block_lt_of_cell? w _ hw134_1)).trans hw134_1), ((HB.out.cell (World.block_lt_of_cell? w _ hw134_2)).trans hw134_2), ((HB.out.cell (World.block_lt_of_cell? w _ hw134_3)).trans hw134_3), ((HB.out.cell (World.block_lt_of_cell? w _ hw134_4)).trans hw134_4)⟩ (fun hHeld => ?_)
                   clear hK K
                   refine norm_ (a' := ?_) ?_ ?_
                   rotate_left
                   ·
                    show Act.put _ (some 151) _ = _
                    simp only [putS]
                    rfl
                   refine pq 26 152 ?_ (upT 27 1) rfl rfl HT_ (by kernel_rfl) (fun _ _ _ h => h) (Or.inl ⟨by rfl, ?_⟩) ?_ ?_ ?_; rotate_left; (intro w'; go_simp; with_reducible rfl); rotate_left; (simp only [putS]; rfl)
                   refine pq 27 11 ?_ (upT 28 0) rfl rfl HT_ (by kernel_rfl) (fun _ _ _ h => h) (Or.inl ⟨by rfl, ?_⟩) ?_ ?_ ?_; rotate_left; (intro w'; go_simp; with_reducible rfl); rotate_left; (simp only [putS]; rfl)
                   refine done_ (done_of HT_.out (by kernel_rfl)) ?_
                   try go_wp2
                   go_meet
                   case rel => exact ⟨_, ((wrap64 (x8_1 + 1))), (t135), (by first | rfl | (simp; done) | (simp [*]; done)), (by first | rfl | (simp; done) | (simp [*]; done)), H', ⟨by have := HK1.out; have := HJ8.out; have := HJ33.out; have := HJ53.out; first | omega | exact Nat.le_refl _⟩, ⟨by (with_reducible repeat (first | refine blk_drewN ?_ _ | refine blk_drew ?_ | refine blk_alloc ?_ _)); exact BK122.out⟩, ⟨by (with_reducible repeat (first | refine blk_drewN ?_ _ | refine blk_drew ?_ | refine blk_alloc ?_ _)); exact BK124.out⟩, ⟨by repeat (first | (with_reducible first | exact HB.out | apply below_alloc | apply pw_below_drewN | apply below_drew1 | refine below_set ?_ GE122.out | refine below_set ?_ GE124.out) | exact HB.out)⟩⟩
                 ·
                  rw [if_neg c76] at H
                  exact absurd H (by simp)
                ·
                 rw [if_neg c75] at H
                 exact absurd H (by simp)
              ·
               replace c71 := Bool.eq_false_iff.mpr c71
               subst c71
               have H1 : (pylonref10_Check.j4 kj53 a1 a2 (wrap64 (x8_1 + 1)) x15_1 x11_33 (l0_6.length : Int) x15_1 a0_0 a0_1 a0_2 a0_3 a0_4 a0_5 l0_6 ((rd_T32 l0_6 x15_1).f0) ((rd_T32 l0_6 x15_1).f1) ((rd_T32 l0_6 x15_1).f2) ((rd_T32 l0_6 x15_1).f3) ((rd_T32 l0_6 x15_1).f4)) = some (r1, r2) := by rw [if_neg (show ¬ (false = true) by decide)] at H; exact H
               clear H
               have H := H1
               clear H1
               have H' := Aside0.mk H
               clear H
               go_wp2
               go_meet
               case rel => exact ⟨_, ((wrap64 (x8_1 + 1))), (x11_33), (by first | rfl | (simp; done) | (simp [*]; done)), (by first | rfl | (simp; done) | (simp [*]; done)), H', ⟨by have := HK1.out; have := HJ8.out; have := HJ33.out; have := HJ53.out; first | omega | exact Nat.le_refl _⟩, ⟨by (with_reducible repeat (first | refine blk_drewN ?_ _ | refine blk_drew ?_ | refine blk_alloc ?_ _)); exact BK122.out⟩, ⟨by (with_reducible repeat (first | refine blk_drewN ?_ _ | refine blk_drew ?_ | refine blk_alloc ?_ _)); exact BK124.out⟩, ⟨by repeat (first | (with_reducible first | exact HB.out | apply below_alloc | apply pw_below_drewN | apply below_drew1 | refine below_set ?_ GE122.out | refine below_set ?_ GE124.out) | exact HB.out)⟩⟩
         ·
          replace c33 := Bool.eq_false_iff.mpr c33
          subst c33
          have H1 : (pylonref10_Check.j4 kj8 a1 a2 x8_1 x15_1 x11_8 (l0_6.length : Int) x15_1 a0_0 a0_1 a0_2 a0_3 a0_4 a0_5 l0_6 ((rd_T32 l0_6 x15_1).f0) ((rd_T32 l0_6 x15_1).f1) ((rd_T32 l0_6 x15_1).f2) ((rd_T32 l0_6 x15_1).f3) ((rd_T32 l0_6 x15_1).f4)) = some (r1, r2) := by rw [if_neg (show ¬ (false = true) by decide)] at H; exact H
          clear H
          have H := H1
          clear H1
          have H' := Aside0.mk H
          clear H
          go_wp2
          go_meet
          case rel => exact ⟨_, (x8_1), (x11_8), (by first | rfl | (simp; done) | (simp [*]; done)), (by first | rfl | (simp; done) | (simp [*]; done)), H', ⟨by have := HK1.out; have := HJ8.out; first | omega | exact Nat.le_refl _⟩, ⟨by (with_reducible repeat (first | refine blk_drewN ?_ _ | refine blk_drew ?_ | refine blk_alloc ?_ _)); exact BK122.out⟩, ⟨by (with_reducible repeat (first | refine blk_drewN ?_ _ | refine blk_drew ?_ | refine blk_alloc ?_ _)); exact BK124.out⟩, ⟨by repeat (first | (with_reducible first | exact HB.out | apply below_alloc | apply pw_below_drewN | apply below_drew1 | refine below_set ?_ GE122.out | refine below_set ?_ GE124.out) | exact HB.out)⟩⟩
        case rest =>
         clear HC29
         (try clear p1); (try clear q1); (try clear hx1); (try clear c2); (try clear p2); (try clear c3); (try clear p6); (try clear c7); (try clear p13); (try clear q13); (try clear hx13); (try clear c27); (try clear c33); (try clear p64); (try clear c71); (try clear c72); (try clear c75); (try clear c75b0); (try clear c76); (try clear c76b0); (try clear c78); (try clear hx132_0); (try clear hx132_1); (try clear hx132_2); (try clear hx132_3); (try clear hx132_4); (try clear hx134_0); (try clear hx134_1); (try clear hx134_2); (try clear hx134_3); (try clear hx134_4); (try clear p132); (try clear p134); (try clear q132); (try clear q134)
         obtain ⟨kq, x8_28, x11_28, rfl, rfl, HA, HJ28, BK122, BK124, HB⟩ := hcut
         cases kq with
         | zero => exact absurd HA.out (by simp [pylonref10_Check.j4])
         | succ kj28 =>
          have H := HA.out
          clear HA
          simp only [pylonref10_Check.j4] at H
          by_cases c82 : x11_28 = true
          ·
           subst c82
           have H1 : (some (x15_1, 3)) = some (r1, r2) := by rw [if_pos rfl] at H; exact H
           clear H
           have H := H1
           clear H1
           simp only [Option.some.injEq, Prod.mk.injEq] at H
           obtain ⟨rfl, rfl⟩ := H
           go_wp2
           go_ret2
           exact ⟨by first | rfl | (simp [errW_none, errW_some] <;> rfl) | (simp [*, errW_none, errW_some] <;> rfl), by repeat (first | (with_reducible first | exact HB.out | apply below_alloc | apply pw_below_drewN | apply below_drew1 | refine below_set ?_ GE122.out | refine below_set ?_ GE124.out) | exact HB.out)⟩
          ·
           replace c82 := Bool.eq_false_iff.mpr c82
           subst c82
           have H1 : ((pylonref10_Good.f ((rd_T32 l0_6 x15_1).f0) ((rd_T32 l0_6 x15_1).f1) ((rd_T32 l0_6 x15_1).f2) ((rd_T32 l0_6 x15_1).f3) ((rd_T32 l0_6 x15_1).f4)).bind fun t136 => (if t136 = true then (pylonref10_Check.l0 kj28 a1 a2 x8_28 (l0_6.length : Int) (wrap64 (x15_1 + 1)) a0_0 a0_1 a0_2 a0_3 a0_4 a0_5 l0_6) else (if ((rd_T32 l0_6 x15_1).f4) = 83 then (pylonref10_Check.l0 kj28 a1 a2 x8_28 (l0_6.length : Int) (wrap64 (x15_1 + 1)) a0_0 a0_1 a0_2 a0_3 a0_4 a0_5 l0_6) else (some (x15_1, 3))))) = some (r1, r2) := by rw [if_neg (show ¬ (false = true) by decide)] at H; exact H
           clear H
           have H := H1
           clear H1
           replace H := Option.bind_eq_some_iff.mp H
           obtain ⟨t136, A830, H⟩ := H
           replace H : (if t136 = true then (pylonref10_Check.l0 kj28 a1 a2 x8_28 (l0_6.length : Int) (wrap64 (x15_1 + 1)) a0_0 a0_1 a0_2 a0_3 a0_4 a0_5 l0_6) else (if ((rd_T32 l0_6 x15_1).f4) = 83 then (pylonref10_Check.l0 kj28 a1 a2 x8_28 (l0_6.length : Int) (wrap64 (x15_1 + 1)) a0_0 a0_1 a0_2 a0_3 a0_4 a0_5 l0_6) else (some (x15_1, 3)))) = some (r1, r2) := H
           have A83 := Aside0.mk A830
           clear A830
           by_cases c84 : t136 = true
           ·
            subst c84
            have H1 : (pylonref10_Check.l0 kj28 a1 a2 x8_28 (l0_6.length : Int) (wrap64 (x15_1 + 1)) a0_0 a0_1 a0_2 a0_3 a0_4 a0_5 l0_6) = some (r1, r2) := by rw [if_pos rfl] at H; exact H
            clear H
            have H := H1
            clear H1
            have H' := Aside0.mk H
            clear H
            have hnb85 := NB124_122.out
            have hnc85 := NB122_124.out
            have hcz86_0 : wc.cell? ⟨gb124, 0, none⟩ = some (.int .i64 ((rd_T32 l0_6 x15_1).f0)) := (blk_cell BK124.out 0).trans rfl
            have hcz86_1 : wc.cell? ⟨gb124, 1, none⟩ = some (.int .i64 ((rd_T32 l0_6 x15_1).f1)) := (blk_cell BK124.out 1).trans rfl
            have hcz86_2 : wc.cell? ⟨gb124, 2, none⟩ = some (.int .i64 ((rd_T32 l0_6 x15_1).f2)) := (blk_cell BK124.out 2).trans rfl
            have hcz86_3 : wc.cell? ⟨gb124, 3, none⟩ = some (.int .i64 ((rd_T32 l0_6 x15_1).f3)) := (blk_cell BK124.out 3).trans rfl
            have hcz86_4 : wc.cell? ⟨gb124, 4, none⟩ = some (.int .u8 ((rd_T32 l0_6 x15_1).f4)) := (blk_cell BK124.out 4).trans rfl
            have hfz86_0 := blk_frozen BK124.out 0
            have hfz86_1 := blk_frozen BK124.out 1
            have hfz86_2 := blk_frozen BK124.out 2
            have hfz86_3 := blk_frozen BK124.out 3
            have hfz86_4 := blk_frozen BK124.out 4
            go_wp2_with (first | (go_at_call 18; (with_reducible refine (pylonref10_Good.calls ((rd_T32 l0_6 x15_1).f0) ((rd_T32 l0_6 x15_1).f1) ((rd_T32 l0_6 x15_1).f2) ((rd_T32 l0_6 x15_1).f3) ((rd_T32 l0_6 x15_1).f4) true _ A83.out).mono ?_); rintro e w87 ⟨rfl, hb⟩; have n0_ := Aside0.mk (blk_below (g := gb122) (o := .cells #[.string a0_0, .int .i64 a0_1, .int .i64 a0_2, .int .i64 a0_3, .int .i64 a0_4, .int .i64 a0_5, .slice (some ad123) l0_6.length c0_6] 24 (0, 0)) (by (with_reducible repeat (first | refine blk_drewN ?_ _ | refine blk_drew ?_ | refine blk_alloc ?_ _)); exact BK122.out) hb); have n1_ := Aside0.mk (blk_below (g := gb124) (o := .cells #[.int .i64 ((rd_T32 l0_6 x15_1).f0), .int .i64 ((rd_T32 l0_6 x15_1).f1), .int .i64 ((rd_T32 l0_6 x15_1).f2), .int .i64 ((rd_T32 l0_6 x15_1).f3), .int .u8 ((rd_T32 l0_6 x15_1).f4)] 32 (0, 0)) (by (with_reducible repeat (first | refine blk_drewN ?_ _ | refine blk_drew ?_ | refine blk_alloc ?_ _)); exact BK124.out) hb); have n2_ := Aside0.mk (below_step (by repeat (first | (with_reducible first | exact HB.out | apply below_alloc | apply pw_below_drewN | apply below_drew1 | refine below_set ?_ GE122.out | refine below_set ?_ GE124.out) | exact HB.out)) hb); clear BK122; clear BK124; clear HB; have BK122 := n0_; have BK124 := n1_; have HB := n2_; clear n0_ n1_ n2_; (try clear hb); (try clear hb2); (try clear hk); (try clear hi)))
            go_roundg kj28
            case measure => have := HK1.out; have := HJ8.out; have := HJ28.out; omega
            case rel => exact ⟨(x8_28), (wrap64 (x15_1 + 1)), (by first | rfl | (simp; done) | (simp [*]; done)), (by first | rfl | (simp; done) | (simp [*]; done)), H', ⟨by have := HK1.out; have := HJ8.out; have := HJ28.out; omega⟩, ⟨by (with_reducible repeat (first | refine blk_drewN ?_ _ | refine blk_drew ?_ | refine blk_alloc ?_ _)); exact BK122.out⟩, ⟨by repeat (first | (with_reducible first | exact HB.out | apply below_alloc | apply pw_below_drewN | apply below_drew1 | refine below_set ?_ GE122.out | refine below_set ?_ GE124.out) | exact HB.out)⟩⟩
           ·
            replace c84 := Bool.eq_false_iff.mpr c84
            subst c84
            have H1 : (if ((rd_T32 l0_6 x15_1).f4) = 83 then (pylonref10_Check.l0 kj28 a1 a2 x8_28 (l0_6.length : Int) (wrap64 (x15_1 + 1)) a0_0 a0_1 a0_2 a0_3 a0_4 a0_5 l0_6) else (some (x15_1, 3))) = some (r1, r2) := by rw [if_neg (show ¬ (false = true) by decide)] at H; exact H
            clear H
            have H := H1
            clear H1
            by_cases c88 : ((rd_T32 l0_6 x15_1).f4) = 83
            ·
             rw [if_pos c88] at H
             have c88b0 : (((rd_T32 l0_6 x15_1).f4) == 83) = true := beq_iff_eq.mpr c88
             have c88b1 : (((rd_T32 l0_6 x15_1).f4) != 83) = false := bne_eq_false_iff_eq.mpr c88
             clear c88
             have H' := Aside0.mk H
             clear H
             have hnb89 := NB124_122.out
             have hnc89 := NB122_124.out
             have hcz90_0 : wc.cell? ⟨gb124, 0, none⟩ = some (.int .i64 ((rd_T32 l0_6 x15_1).f0)) := (blk_cell BK124.out 0).trans rfl
             have hcz90_1 : wc.cell? ⟨gb124, 1, none⟩ = some (.int .i64 ((rd_T32 l0_6 x15_1).f1)) := (blk_cell BK124.out 1).trans rfl
             have hcz90_2 : wc.cell? ⟨gb124, 2, none⟩ = some (.int .i64 ((rd_T32 l0_6 x15_1).f2)) := (blk_cell BK124.out 2).trans rfl
             have hcz90_3 : wc.cell? ⟨gb124, 3, none⟩ = some (.int .i64 ((rd_T32 l0_6 x15_1).f3)) := (blk_cell BK124.out 3).trans rfl
             have hcz90_4 : wc.cell? ⟨gb124, 4, none⟩ = some (.int .u8 ((rd_T32 l0_6 x15_1).f4)) := (blk_cell BK124.out 4).trans rfl
             have hfz90_0 := blk_frozen BK124.out 0
             have hfz90_1 := blk_frozen BK124.out 1
             have hfz90_2 := blk_frozen BK124.out 2
             have hfz90_3 := blk_frozen BK124.out 3
             have hfz90_4 := blk_frozen BK124.out 4
             go_wp2_with (first | (go_at_call 18; (with_reducible refine (pylonref10_Good.calls ((rd_T32 l0_6 x15_1).f0) ((rd_T32 l0_6 x15_1).f1) ((rd_T32 l0_6 x15_1).f2) ((rd_T32 l0_6 x15_1).f3) ((rd_T32 l0_6 x15_1).f4) false _ A83.out).mono ?_); rintro e w91 ⟨rfl, hb⟩; have n0_ := Aside0.mk (blk_below (g := gb122) (o := .cells #[.string a0_0, .int .i64 a0_1, .int .i64 a0_2, .int .i64 a0_3, .int .i64 a0_4, .int .i64 a0_5, .slice (some ad123) l0_6.length c0_6] 24 (0, 0)) (by (with_reducible repeat (first | refine blk_drewN ?_ _ | refine blk_drew ?_ | refine blk_alloc ?_ _)); exact BK122.out) hb); have n1_ := Aside0.mk (blk_below (g := gb124) (o := .cells #[.int .i64 ((rd_T32 l0_6 x15_1).f0), .int .i64 ((rd_T32 l0_6 x15_1).f1), .int .i64 ((rd_T32 l0_6 x15_1).f2), .int .i64 ((rd_T32 l0_6 x15_1).f3), .int .u8 ((rd_T32 l0_6 x15_1).f4)] 32 (0, 0)) (by (with_reducible repeat (first | refine blk_drewN ?_ _ | refine blk_drew ?_ | refine blk_alloc ?_ _)); exact BK124.out) hb); have n2_ := Aside0.mk (below_step (by repeat (first | (with_reducible first | exact HB.out | apply below_alloc | apply pw_below_drewN | apply below_drew1 | refine below_set ?_ GE122.out | refine below_set ?_ GE124.out) | exact HB.out)) hb); clear BK122; clear BK124; clear HB; have BK122 := n0_; have BK124 := n1_; have HB := n2_; clear n0_ n1_ n2_; (try clear hb); (try clear hb2); (try clear hk); (try clear hi); have hcz92_0 : w91.cell? ⟨gb124, 0, none⟩ = some (.int .i64 ((rd_T32 l0_6 x15_1).f0)) := (blk_cell BK124.out 0).trans rfl; have hcz92_1 : w91.cell? ⟨gb124, 1, none⟩ = some (.int .i64 ((rd_T32 l0_6 x15_1).f1)) := (blk_cell BK124.out 1).trans rfl; have hcz92_2 : w91.cell? ⟨gb124, 2, none⟩ = some (.int .i64 ((rd_T32 l0_6 x15_1).f2)) := (blk_cell BK124.out 2).trans rfl; have hcz92_3 : w91.cell? ⟨gb124, 3, none⟩ = some (.int .i64 ((rd_T32 l0_6 x15_1).f3)) := (blk_cell BK124.out 3).trans rfl; have hcz92_4 : w91.cell? ⟨gb124, 4, none⟩ = some (.int .u8 ((rd_T32 l0_6 x15_1).f4)) := (blk_cell BK124.out 4).trans rfl; have hfz92_0 := blk_frozen BK124.out 0; have hfz92_1 := blk_frozen BK124.out 1; have hfz92_2 := blk_frozen BK124.out 2; have hfz92_3 := blk_frozen BK124.out 3; have hfz92_4 := blk_frozen BK124.out 4))
             go_roundg kj28
             case measure => have := HK1.out; have := HJ8.out; have := HJ28.out; omega
             case rel => exact ⟨(x8_28), (wrap64 (x15_1 + 1)), (by first | rfl | (simp; done) | (simp [*]; done)), (by first | rfl | (simp; done) | (simp [*]; done)), H', ⟨by have := HK1.out; have := HJ8.out; have := HJ28.out; omega⟩, ⟨by (with_reducible repeat (first | refine blk_drewN ?_ _ | refine blk_drew ?_ | refine blk_alloc ?_ _)); exact BK122.out⟩, ⟨by repeat (first | (with_reducible first | exact HB.out | apply below_alloc | apply pw_below_drewN | apply below_drew1 | refine below_set ?_ GE122.out | refine below_set ?_ GE124.out) | exact HB.out)⟩⟩
            ·
             rw [if_neg c88] at H
             have c88b0 : (((rd_T32 l0_6 x15_1).f4) == 83) = false := beq_eq_false_iff_ne.mpr c88
             have c88b1 : (((rd_T32 l0_6 x15_1).f4) != 83) = true := bne_iff_ne.mpr c88
             simp only [Option.some.injEq, Prod.mk.injEq] at H
             obtain ⟨rfl, rfl⟩ := H
             have hnb93 := NB124_122.out
             have hnc93 := NB122_124.out
             have hcz94_0 : wc.cell? ⟨gb124, 0, none⟩ = some (.int .i64 ((rd_T32 l0_6 x15_1).f0)) := (blk_cell BK124.out 0).trans rfl
             have hcz94_1 : wc.cell? ⟨gb124, 1, none⟩ = some (.int .i64 ((rd_T32 l0_6 x15_1).f1)) := (blk_cell BK124.out 1).trans rfl
             have hcz94_2 : wc.cell? ⟨gb124, 2, none⟩ = some (.int .i64 ((rd_T32 l0_6 x15_1).f2)) := (blk_cell BK124.out 2).trans rfl
             have hcz94_3 : wc.cell? ⟨gb124, 3, none⟩ = some (.int .i64 ((rd_T32 l0_6 x15_1).f3)) := (blk_cell BK124.out 3).trans rfl
             have hcz94_4 : wc.cell? ⟨gb124, 4, none⟩ = some (.int .u8 ((rd_T32 l0_6 x15_1).f4)) := (blk_cell BK124.out 4).trans rfl
             have hfz94_0 := blk_frozen BK124.out 0
             have hfz94_1 := blk_frozen BK124.out 1
             have hfz94_2 := blk_frozen BK124.out 2
             have hfz94_3 := blk_frozen BK124.out 3
             have hfz94_4 := blk_frozen BK124.out 4
             go_wp2_with (first | (go_at_call 18; (with_reducible refine (pylonref10_Good.calls ((rd_T32 l0_6 x15_1).f0) ((rd_T32 l0_6 x15_1).f1) ((rd_T32 l0_6 x15_1).f2) ((rd_T32 l0_6 x15_1).f3) ((rd_T32 l0_6 x15_1).f4) false _ A83.out).mono ?_); rintro e w95 ⟨rfl, hb⟩; have n0_ := Aside0.mk (blk_below (g := gb122) (o := .cells #[.string a0_0, .int .i64 a0_1, .int .i64 a0_2, .int .i64 a0_3, .int .i64 a0_4, .int .i64 a0_5, .slice (some ad123) l0_6.length c0_6] 24 (0, 0)) (by (with_reducible repeat (first | refine blk_drewN ?_ _ | refine blk_drew ?_ | refine blk_alloc ?_ _)); exact BK122.out) hb); have n1_ := Aside0.mk (blk_below (g := gb124) (o := .cells #[.int .i64 ((rd_T32 l0_6 x15_1).f0), .int .i64 ((rd_T32 l0_6 x15_1).f1), .int .i64 ((rd_T32 l0_6 x15_1).f2), .int .i64 ((rd_T32 l0_6 x15_1).f3), .int .u8 ((rd_T32 l0_6 x15_1).f4)] 32 (0, 0)) (by (with_reducible repeat (first | refine blk_drewN ?_ _ | refine blk_drew ?_ | refine blk_alloc ?_ _)); exact BK124.out) hb); have n2_ := Aside0.mk (below_step (by repeat (first | (with_reducible first | exact HB.out | apply below_alloc | apply pw_below_drewN | apply below_drew1 | refine below_set ?_ GE122.out | refine below_set ?_ GE124.out) | exact HB.out)) hb); clear BK122; clear BK124; clear HB; have BK122 := n0_; have BK124 := n1_; have HB := n2_; clear n0_ n1_ n2_; (try clear hb); (try clear hb2); (try clear hk); (try clear hi); have hcz96_0 : w95.cell? ⟨gb124, 0, none⟩ = some (.int .i64 ((rd_T32 l0_6 x15_1).f0)) := (blk_cell BK124.out 0).trans rfl; have hcz96_1 : w95.cell? ⟨gb124, 1, none⟩ = some (.int .i64 ((rd_T32 l0_6 x15_1).f1)) := (blk_cell BK124.out 1).trans rfl; have hcz96_2 : w95.cell? ⟨gb124, 2, none⟩ = some (.int .i64 ((rd_T32 l0_6 x15_1).f2)) := (blk_cell BK124.out 2).trans rfl; have hcz96_3 : w95.cell? ⟨gb124, 3, none⟩ = some (.int .i64 ((rd_T32 l0_6 x15_1).f3)) := (blk_cell BK124.out 3).trans rfl; have hcz96_4 : w95.cell? ⟨gb124, 4, none⟩ = some (.int .u8 ((rd_T32 l0_6 x15_1).f4)) := (blk_cell BK124.out 4).trans rfl; have hfz96_0 := blk_frozen BK124.out 0; have hfz96_1 := blk_frozen BK124.out 1; have hfz96_2 := blk_frozen BK124.out 2; have hfz96_3 := blk_frozen BK124.out 3; have hfz96_4 := blk_frozen BK124.out 4))
             go_ret2
             exact ⟨by first | rfl | (simp [errW_none, errW_some] <;> rfl) | (simp [*, errW_none, errW_some] <;> rfl), by repeat (first | (with_reducible first | exact HB.out | apply below_alloc | apply pw_below_drewN | apply below_drew1 | refine below_set ?_ GE122.out | refine below_set ?_ GE124.out) | exact HB.out)⟩
     ·
      rw [if_neg c8] at H
      exact absurd H (by simp)
    ·
     rw [if_neg c7] at H
     exact absurd H (by simp)
   ·
    rw [if_neg c6] at H
    have c6b0 : decide (x15_1 < (l0_6.length : Int)) = false := decide_eq_false c6
    clear c6
    by_cases c97 : x8_1 = 0
    ·
     rw [if_pos c97] at H
     have c97b0 : (x8_1 == 0) = true := beq_iff_eq.mpr c97
     have c97b1 : (x8_1 != 0) = false := bne_eq_false_iff_eq.mpr c97
     clear c97
     simp only [Option.some.injEq, Prod.mk.injEq] at H
     obtain ⟨rfl, rfl⟩ := H
     have hcz98_0 : wr.cell? ⟨gb122, 0, none⟩ = some (.string a0_0) := (blk_cell BK122.out 0).trans rfl
     have hcz98_1 : wr.cell? ⟨gb122, 1, none⟩ = some (.int .i64 a0_1) := (blk_cell BK122.out 1).trans rfl
     have hcz98_2 : wr.cell? ⟨gb122, 2, none⟩ = some (.int .i64 a0_2) := (blk_cell BK122.out 2).trans rfl
     have hcz98_3 : wr.cell? ⟨gb122, 3, none⟩ = some (.int .i64 a0_3) := (blk_cell BK122.out 3).trans rfl
     have hcz98_4 : wr.cell? ⟨gb122, 4, none⟩ = some (.int .i64 a0_4) := (blk_cell BK122.out 4).trans rfl
     have hcz98_5 : wr.cell? ⟨gb122, 5, none⟩ = some (.int .i64 a0_5) := (blk_cell BK122.out 5).trans rfl
     have hcz98_6 : wr.cell? ⟨gb122, 6, none⟩ = some (.slice A0_6 l0_6.length c0_6) := (blk_cell BK122.out 6).trans rfl
     have hfz98_0 := blk_frozen BK122.out 0
     have hfz98_1 := blk_frozen BK122.out 1
     have hfz98_2 := blk_frozen BK122.out 2
     have hfz98_3 := blk_frozen BK122.out 3
     have hfz98_4 := blk_frozen BK122.out 4
     have hfz98_5 := blk_frozen BK122.out 5
     have hfz98_6 := blk_frozen BK122.out 6
     go_wp2
     go_ret2
     exact ⟨by first | rfl | (simp [errW_none, errW_some] <;> rfl) | (simp [*, errW_none, errW_some] <;> rfl), by repeat (first | (with_reducible first | exact HB.out | apply below_alloc | apply pw_below_drewN | apply below_drew1 | refine below_set ?_ GE122.out) | exact HB.out)⟩
    ·
     rw [if_neg c97] at H
     have c97b0 : (x8_1 == 0) = false := beq_eq_false_iff_ne.mpr c97
     have c97b1 : (x8_1 != 0) = true := bne_iff_ne.mpr c97
     simp only [Option.some.injEq, Prod.mk.injEq] at H
     obtain ⟨rfl, rfl⟩ := H
     go_wp2
     go_ret2
     exact ⟨by first | rfl | (simp [errW_none, errW_some] <;> rfl) | (simp [*, errW_none, errW_some] <;> rfl), by repeat (first | (with_reducible first | exact HB.out | apply below_alloc | apply pw_below_drewN | apply below_drew1 | refine below_set ?_ GE122.out) | exact HB.out)⟩

end Go.Proofs.Ytbjkjakilpifhaa.PC
