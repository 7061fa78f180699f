-- Written by a program of this session for this claim (wip/print2.sh). Lean checks it.
import Derived.Test.YtbjkjakilpifhaaPRLx0
import Derived.Test.YtbjkjakilpifhaaPRLx3
import Derived.Test.YtbjkjakilpifhaaPRLx4
namespace Go.Proofs.Ytbjkjakilpifhaa.PRL
open Go.Proofs.YtbjkjakilpifhaaW.PrintWords
attribute [local go_sem high] fx_eql fx_neq fx_lss fx_leq fx_gtr fx_geq fx_add fx_sub fx_mul fx_neg fx_toint cxx_add cxx_sub cxx_mul cxx_eql cxx_neq cxx_pick st_float st_complex
open Go.RowKit Go.Proofs.YtbjkjakilpifhaaW.PrintWords Go.Proofs.YtbjkjakilpifhaaW.PrintLast Go.Proofs.YtbjkjakilpifhaaW.PrintMore
attribute [local go_sem] max2_int min2_int max_two min_two max_three min_three max_four min_four   -- for this text's walks alone
set_option linter.unusedVariables false
set_option linter.unusedSimpArgs false

/-! ### pylonlaw18_RatchetLooks: function 11 -/
mutual
def pylonlaw18_RatchetLooks.j0 : Nat → List Int → List Int → Int → Int → Int → Int → Int → Bool → Option (Bool)
  | 0, _, _, _, _, _, _, _, _ => none
  | k + 1, x9, x12, x13, x15, x17, x19, x21, x112 => if x112 = true then (some false) else (pylonlaw18_RatchetLooks.l0 k x9 x12 x13 x15 x17 x19 x21 0 (x12.length : Int) 0)
def pylonlaw18_RatchetLooks.l0 : Nat → List Int → List Int → Int → Int → Int → Int → Int → Int → Int → Int → Option (Bool)
  | 0, _, _, _, _, _, _, _, _, _, _ => none
  | k + 1, x9, x12, x13, x15, x17, x19, x21, x23, x114, x115 => if x115 < x114 then (if 0 ≤ x115 then (if x115 < (x12.length : Int) then (pylonlaw18_RatchetLooks.l0 k x9 x12 x13 x15 x17 x19 x21 (mx x23 (rd x12 x115)) x114 (wrap64 (x115 + 1))) else (none)) else (none)) else (if 0 ≤ (wrap64 ((x9.length : Int) - 1)) then (if (wrap64 ((x9.length : Int) - 1)) < (x9.length : Int) then (if x13 = x15 then (if x17 = (rd x9 (wrap64 ((x9.length : Int) - 1))) then (if x19 = (rd x9 (wrap64 ((x9.length : Int) - 1))) then (some (x21 == x23)) else (some false)) else (some false)) else (some false)) else (none)) else (none))
def pylonlaw18_RatchetLooks.j2 : Nat → List Int → List Int → Int → Int → Int → Int → Int → Bool → Option (Bool)
  | 0, _, _, _, _, _, _, _, _ => none
  | k + 1, x9, x12, x13, x15, x17, x19, x21, x112 => if x112 = true then (some false) else (pylonlaw18_RatchetLooks.l0 k x9 x12 x13 x15 x17 x19 x21 0 (x12.length : Int) 0)
end
def pylonlaw18_RatchetLooks.f (k : Nat) (l0 : List Int) (l1 : List Int) (a2 : Int) (a3 : Int) : Option (Bool) := (pylonlaw18_awake.f k).bind fun t139 => (if t139 = true then ((pylonlaw18_good.f k l0).bind fun t140 => (if (t140.length : Int) = 0 then (some true) else ((pylonlaw18_good.f k l1).bind fun t143 => (if 0 ≤ (mx (wrap64 ((wrap64 ((t140.length : Int) - 1)) - (wrap64 (Int.tmod (IntKind.u64.wrap (a3)) 37)))) 0) then (if (mx (wrap64 ((wrap64 ((t140.length : Int) - 1)) - (wrap64 (Int.tmod (IntKind.u64.wrap (a3)) 37)))) 0) ≤ (t140.length : Int) then ((some (t140.drop ((mx (wrap64 ((wrap64 ((t140.length : Int) - 1)) - (wrap64 (Int.tmod (IntKind.u64.wrap (a3)) 37)))) 0) : Int).toNat : List Int)).bind fun y146 => (if t143.length + y146.length < 17592186044416 then ((some (([] : List Int) : List Int)).bind fun y153 => (if y153.length + y146.length < 17592186044416 then ((some (y153 ++ y146 : List Int)).bind fun y156 => (if (wrap64 ((y156.length : Int) - 1)) < (wrap64 (Int.tmod (IntKind.u64.wrap (a3)) 37)) then ((ratchet_Billed.f k t140 (wrap64 (Int.tmod (IntKind.u64.wrap (a2)) 101)) (wrap64 (Int.tmod (IntKind.u64.wrap (a3)) 37))).bind fun bt159 => ((ratchet_Billed.f k y156 (wrap64 (Int.tmod (IntKind.u64.wrap (a2)) 101)) (wrap64 (Int.tmod (IntKind.u64.wrap (a3)) 37))).bind fun bt161 => ((ratchet_Billed.f k t140 0 (wrap64 (Int.tmod (IntKind.u64.wrap (a3)) 37))).bind fun bt163 => ((ratchet_Billed.f k t140 (wrap64 (Int.tmod (IntKind.u64.wrap (a2)) 101)) 0).bind fun bt165 => ((ratchet_Billed.f k y156 100 36).bind fun bt167 => (if bt159.2 = 0 then (if bt161.2 = 0 then (if bt163.2 = 0 then (if bt165.2 = 0 then (pylonlaw18_RatchetLooks.j0 k t140 y156 bt159.1 bt161.1 bt163.1 bt165.1 bt167.1 (bt167.2 != 0)) else (pylonlaw18_RatchetLooks.j0 k t140 y156 bt159.1 bt161.1 bt163.1 bt165.1 bt167.1 true)) else (pylonlaw18_RatchetLooks.j0 k t140 y156 bt159.1 bt161.1 bt163.1 bt165.1 bt167.1 true)) else (pylonlaw18_RatchetLooks.j0 k t140 y156 bt159.1 bt161.1 bt163.1 bt165.1 bt167.1 true)) else (pylonlaw18_RatchetLooks.j0 k t140 y156 bt159.1 bt161.1 bt163.1 bt165.1 bt167.1 true))))))) else ((ratchet_Billed.f k t140 (wrap64 (Int.tmod (IntKind.u64.wrap (a2)) 101)) (wrap64 (Int.tmod (IntKind.u64.wrap (a3)) 37))).bind fun bt171 => ((ratchet_Billed.f k (t143 ++ y146) (wrap64 (Int.tmod (IntKind.u64.wrap (a2)) 101)) (wrap64 (Int.tmod (IntKind.u64.wrap (a3)) 37))).bind fun bt173 => ((ratchet_Billed.f k t140 0 (wrap64 (Int.tmod (IntKind.u64.wrap (a3)) 37))).bind fun bt175 => ((ratchet_Billed.f k t140 (wrap64 (Int.tmod (IntKind.u64.wrap (a2)) 101)) 0).bind fun bt177 => ((ratchet_Billed.f k y156 100 36).bind fun bt179 => (if bt171.2 = 0 then (if bt173.2 = 0 then (if bt175.2 = 0 then (if bt177.2 = 0 then (pylonlaw18_RatchetLooks.j2 k t140 y156 bt171.1 bt173.1 bt175.1 bt177.1 bt179.1 (bt179.2 != 0)) else (pylonlaw18_RatchetLooks.j2 k t140 y156 bt171.1 bt173.1 bt175.1 bt177.1 bt179.1 true)) else (pylonlaw18_RatchetLooks.j2 k t140 y156 bt171.1 bt173.1 bt175.1 bt177.1 bt179.1 true)) else (pylonlaw18_RatchetLooks.j2 k t140 y156 bt171.1 bt173.1 bt175.1 bt177.1 bt179.1 true)) else (pylonlaw18_RatchetLooks.j2 k t140 y156 bt171.1 bt173.1 bt175.1 bt177.1 bt179.1 true))))))))) else (none))) else (none))) else (none)) else (none))))) else (some false))
theorem pylonlaw18_RatchetLooks.mono_l : ∀ k, (∀ y0 y1 y2 y3 y4 y5 y6 y7, LeO (pylonlaw18_RatchetLooks.j0 k y0 y1 y2 y3 y4 y5 y6 y7) (pylonlaw18_RatchetLooks.j0 (k + 1) y0 y1 y2 y3 y4 y5 y6 y7)) ∧ (∀ y0 y1 y2 y3 y4 y5 y6 y7 y8 y9, LeO (pylonlaw18_RatchetLooks.l0 k y0 y1 y2 y3 y4 y5 y6 y7 y8 y9) (pylonlaw18_RatchetLooks.l0 (k + 1) y0 y1 y2 y3 y4 y5 y6 y7 y8 y9)) ∧ (∀ y0 y1 y2 y3 y4 y5 y6 y7, LeO (pylonlaw18_RatchetLooks.j2 k y0 y1 y2 y3 y4 y5 y6 y7) (pylonlaw18_RatchetLooks.j2 (k + 1) y0 y1 y2 y3 y4 y5 y6 y7))
  | 0 => ⟨fun _ _ _ _ _ _ _ _ r h => by simp [pylonlaw18_RatchetLooks.j0] at h, fun _ _ _ _ _ _ _ _ _ _ r h => by simp [pylonlaw18_RatchetLooks.l0] at h, fun _ _ _ _ _ _ _ _ r h => by simp [pylonlaw18_RatchetLooks.j2] at h⟩
  | k + 1 => by
    obtain ⟨ih0, ih1, ih2⟩ := pylonlaw18_RatchetLooks.mono_l k
    refine ⟨?_, ?_, ?_⟩
    · intro y0 y1 y2 y3 y4 y5 y6 y7
      unfold pylonlaw18_RatchetLooks.j0
      repeat' first
      | (with_reducible exact ih0 _ _ _ _ _ _ _ _)
      | (with_reducible exact ih1 _ _ _ _ _ _ _ _ _ _)
      | (with_reducible exact ih2 _ _ _ _ _ _ _ _)
      | (with_reducible exact pylonlaw18_awake.mono _)
      | (with_reducible exact pylonlaw18_good.mono _ _)
      | (with_reducible exact ratchet_Billed.mono _ _ _ _)
      | (with_reducible exact LeO.refl _)
      | (with_reducible exact LeO.none _)
      | (with_reducible refine LeO.ite ?_ ?_)
      | (with_reducible refine LeO.bind ?_ (fun _ => ?_))
      | exact ih0 _ _ _ _ _ _ _ _
      | exact ih1 _ _ _ _ _ _ _ _ _ _
      | exact ih2 _ _ _ _ _ _ _ _
      | exact pylonlaw18_awake.mono _
      | exact pylonlaw18_good.mono _ _
      | exact ratchet_Billed.mono _ _ _ _
      | exact LeO.none _
      | refine LeO.ite ?_ ?_
      | refine LeO.bind ?_ (fun _ => ?_)
    · intro y0 y1 y2 y3 y4 y5 y6 y7 y8 y9
      unfold pylonlaw18_RatchetLooks.l0
      repeat' first
      | (with_reducible exact ih0 _ _ _ _ _ _ _ _)
      | (with_reducible exact ih1 _ _ _ _ _ _ _ _ _ _)
      | (with_reducible exact ih2 _ _ _ _ _ _ _ _)
      | (with_reducible exact pylonlaw18_awake.mono _)
      | (with_reducible exact pylonlaw18_good.mono _ _)
      | (with_reducible exact ratchet_Billed.mono _ _ _ _)
      | (with_reducible exact LeO.refl _)
      | (with_reducible exact LeO.none _)
      | (with_reducible refine LeO.ite ?_ ?_)
      | (with_reducible refine LeO.bind ?_ (fun _ => ?_))
      | exact ih0 _ _ _ _ _ _ _ _
      | exact ih1 _ _ _ _ _ _ _ _ _ _
      | exact ih2 _ _ _ _ _ _ _ _
      | exact pylonlaw18_awake.mono _
      | exact pylonlaw18_good.mono _ _
      | exact ratchet_Billed.mono _ _ _ _
      | exact LeO.none _
      | refine LeO.ite ?_ ?_
      | refine LeO.bind ?_ (fun _ => ?_)
    · intro y0 y1 y2 y3 y4 y5 y6 y7
      unfold pylonlaw18_RatchetLooks.j2
      repeat' first
      | (with_reducible exact ih0 _ _ _ _ _ _ _ _)
      | (with_reducible exact ih1 _ _ _ _ _ _ _ _ _ _)
      | (with_reducible exact ih2 _ _ _ _ _ _ _ _)
      | (with_reducible exact pylonlaw18_awake.mono _)
      | (with_reducible exact pylonlaw18_good.mono _ _)
      | (with_reducible exact ratchet_Billed.mono _ _ _ _)
      | (with_reducible exact LeO.refl _)
      | (with_reducible exact LeO.none _)
      | (with_reducible refine LeO.ite ?_ ?_)
      | (with_reducible refine LeO.bind ?_ (fun _ => ?_))
      | exact ih0 _ _ _ _ _ _ _ _
      | exact ih1 _ _ _ _ _ _ _ _ _ _
      | exact ih2 _ _ _ _ _ _ _ _
      | exact pylonlaw18_awake.mono _
      | exact pylonlaw18_good.mono _ _
      | exact ratchet_Billed.mono _ _ _ _
      | exact LeO.none _
      | refine LeO.ite ?_ ?_
      | refine LeO.bind ?_ (fun _ => ?_)
theorem pylonlaw18_RatchetLooks.mono : ∀ a0 a1 a2 a3 k, LeO (pylonlaw18_RatchetLooks.f k a0 a1 a2 a3) (pylonlaw18_RatchetLooks.f (k + 1) a0 a1 a2 a3) := by
  intro a0 a1 a2 a3 k
  obtain ⟨ih0, ih1, ih2⟩ := pylonlaw18_RatchetLooks.mono_l k
  unfold pylonlaw18_RatchetLooks.f
  repeat' first
      | (with_reducible exact ih0 _ _ _ _ _ _ _ _)
      | (with_reducible exact ih1 _ _ _ _ _ _ _ _ _ _)
      | (with_reducible exact ih2 _ _ _ _ _ _ _ _)
      | (with_reducible exact pylonlaw18_awake.mono _)
      | (with_reducible exact pylonlaw18_good.mono _ _)
      | (with_reducible exact ratchet_Billed.mono _ _ _ _)
      | (with_reducible exact LeO.refl _)
      | (with_reducible exact LeO.none _)
      | (with_reducible refine LeO.ite ?_ ?_)
      | (with_reducible refine LeO.bind ?_ (fun _ => ?_))
      | exact ih0 _ _ _ _ _ _ _ _
      | exact ih1 _ _ _ _ _ _ _ _ _ _
      | exact ih2 _ _ _ _ _ _ _ _
      | exact pylonlaw18_awake.mono _
      | exact pylonlaw18_good.mono _ _
      | exact ratchet_Billed.mono _ _ _ _
      | exact LeO.none _
      | refine LeO.ite ?_ ?_
      | refine LeO.bind ?_ (fun _ => ?_)
set_option maxHeartbeats 8000000 in
set_option maxRecDepth 100000 in
theorem pylonlaw18_RatchetLooks.calls (k : Nat) (A0 : Option Addr) (c0 : Nat) (l0 : List Int) (A1 : Option Addr) (c1 : Nat) (l1 : List Int) (a2 : Int) (a3 : Int) (r : Bool) (w : World) (hr0 : Kd.C (Kd.int .i64) w A0 l0.length l0) (hc0 : l0.length ≤ c0) (hr1 : Kd.C (Kd.int .i64) w A1 l1.length l1) (hc1 : l1.length ≤ c1) (h : pylonlaw18_RatchetLooks.f k l0 l1 a2 a3 = some r) :
    Calls Try.prog 11 #[.slice A0 l0.length c0, .slice A1 l1.length c1, .int .i64 a2, .int .i64 a3] w fun e w' => e = .returned (.bool r) ∧ Below w.heap.size w w' := by
  have HR0 := Aside0.mk hr0
  have HC0 := Aside0.mk hc0
  clear hr0 hc0
  have HR1 := Aside0.mk hr1
  have HC1 := Aside0.mk hc1
  clear hr1 hc1
  have HB := Aside0.mk (Below.refl w.heap.size w)
  have H : ((pylonlaw18_awake.f k).bind fun t139 => (if t139 = true then ((pylonlaw18_good.f k l0).bind fun t140 => (if (t140.length : Int) = 0 then (some true) else ((pylonlaw18_good.f k l1).bind fun t143 => (if 0 ≤ (mx (wrap64 ((wrap64 ((t140.length : Int) - 1)) - (wrap64 (Int.tmod (IntKind.u64.wrap (a3)) 37)))) 0) then (if (mx (wrap64 ((wrap64 ((t140.length : Int) - 1)) - (wrap64 (Int.tmod (IntKind.u64.wrap (a3)) 37)))) 0) ≤ (t140.length : Int) then ((some (t140.drop ((mx (wrap64 ((wrap64 ((t140.length : Int) - 1)) - (wrap64 (Int.tmod (IntKind.u64.wrap (a3)) 37)))) 0) : Int).toNat : List Int)).bind fun y146 => (if t143.length + y146.length < 17592186044416 then ((some (([] : List Int) : List Int)).bind fun y153 => (if y153.length + y146.length < 17592186044416 then ((some (y153 ++ y146 : List Int)).bind fun y156 => (if (wrap64 ((y156.length : Int) - 1)) < (wrap64 (Int.tmod (IntKind.u64.wrap (a3)) 37)) then ((ratchet_Billed.f k t140 (wrap64 (Int.tmod (IntKind.u64.wrap (a2)) 101)) (wrap64 (Int.tmod (IntKind.u64.wrap (a3)) 37))).bind fun bt159 => ((ratchet_Billed.f k y156 (wrap64 (Int.tmod (IntKind.u64.wrap (a2)) 101)) (wrap64 (Int.tmod (IntKind.u64.wrap (a3)) 37))).bind fun bt161 => ((ratchet_Billed.f k t140 0 (wrap64 (Int.tmod (IntKind.u64.wrap (a3)) 37))).bind fun bt163 => ((ratchet_Billed.f k t140 (wrap64 (Int.tmod (IntKind.u64.wrap (a2)) 101)) 0).bind fun bt165 => ((ratchet_Billed.f k y156 100 36).bind fun bt167 => (if bt159.2 = 0 then (if bt161.2 = 0 then (if bt163.2 = 0 then (if bt165.2 = 0 then (pylonlaw18_RatchetLooks.j0 k t140 y156 bt159.1 bt161.1 bt163.1 bt165.1 bt167.1 (bt167.2 != 0)) else (pylonlaw18_RatchetLooks.j0 k t140 y156 bt159.1 bt161.1 bt163.1 bt165.1 bt167.1 true)) else (pylonlaw18_RatchetLooks.j0 k t140 y156 bt159.1 bt161.1 bt163.1 bt165.1 bt167.1 true)) else (pylonlaw18_RatchetLooks.j0 k t140 y156 bt159.1 bt161.1 bt163.1 bt165.1 bt167.1 true)) else (pylonlaw18_RatchetLooks.j0 k t140 y156 bt159.1 bt161.1 bt163.1 bt165.1 bt167.1 true))))))) else ((ratchet_Billed.f k t140 (wrap64 (Int.tmod (IntKind.u64.wrap (a2)) 101)) (wrap64 (Int.tmod (IntKind.u64.wrap (a3)) 37))).bind fun bt171 => ((ratchet_Billed.f k (t143 ++ y146) (wrap64 (Int.tmod (IntKind.u64.wrap (a2)) 101)) (wrap64 (Int.tmod (IntKind.u64.wrap (a3)) 37))).bind fun bt173 => ((ratchet_Billed.f k t140 0 (wrap64 (Int.tmod (IntKind.u64.wrap (a3)) 37))).bind fun bt175 => ((ratchet_Billed.f k t140 (wrap64 (Int.tmod (IntKind.u64.wrap (a2)) 101)) 0).bind fun bt177 => ((ratchet_Billed.f k y156 100 36).bind fun bt179 => (if bt171.2 = 0 then (if bt173.2 = 0 then (if bt175.2 = 0 then (if bt177.2 = 0 then (pylonlaw18_RatchetLooks.j2 k t140 y156 bt171.1 bt173.1 bt175.1 bt177.1 bt179.1 (bt179.2 != 0)) else (pylonlaw18_RatchetLooks.j2 k t140 y156 bt171.1 bt173.1 bt175.1 bt177.1 bt179.1 true)) else (pylonlaw18_RatchetLooks.j2 k t140 y156 bt171.1 bt173.1 bt175.1 bt177.1 bt179.1 true)) else (pylonlaw18_RatchetLooks.j2 k t140 y156 bt171.1 bt173.1 bt175.1 bt177.1 bt179.1 true)) else (pylonlaw18_RatchetLooks.j2 k t140 y156 bt171.1 bt173.1 bt175.1 bt177.1 bt179.1 true))))))))) else (none))) else (none))) else (none)) else (none))))) else (some false))) = some r := h
  clear h
  replace H := Option.bind_eq_some_iff.mp H
  obtain ⟨t139, A50, H⟩ := H
  replace H : (if t139 = true then ((pylonlaw18_good.f k l0).bind fun t140 => (if (t140.length : Int) = 0 then (some true) else ((pylonlaw18_good.f k l1).bind fun t143 => (if 0 ≤ (mx (wrap64 ((wrap64 ((t140.length : Int) - 1)) - (wrap64 (Int.tmod (IntKind.u64.wrap (a3)) 37)))) 0) then (if (mx (wrap64 ((wrap64 ((t140.length : Int) - 1)) - (wrap64 (Int.tmod (IntKind.u64.wrap (a3)) 37)))) 0) ≤ (t140.length : Int) then ((some (t140.drop ((mx (wrap64 ((wrap64 ((t140.length : Int) - 1)) - (wrap64 (Int.tmod (IntKind.u64.wrap (a3)) 37)))) 0) : Int).toNat : List Int)).bind fun y146 => (if t143.length + y146.length < 17592186044416 then ((some (([] : List Int) : List Int)).bind fun y153 => (if y153.length + y146.length < 17592186044416 then ((some (y153 ++ y146 : List Int)).bind fun y156 => (if (wrap64 ((y156.length : Int) - 1)) < (wrap64 (Int.tmod (IntKind.u64.wrap (a3)) 37)) then ((ratchet_Billed.f k t140 (wrap64 (Int.tmod (IntKind.u64.wrap (a2)) 101)) (wrap64 (Int.tmod (IntKind.u64.wrap (a3)) 37))).bind fun bt159 => ((ratchet_Billed.f k y156 (wrap64 (Int.tmod (IntKind.u64.wrap (a2)) 101)) (wrap64 (Int.tmod (IntKind.u64.wrap (a3)) 37))).bind fun bt161 => ((ratchet_Billed.f k t140 0 (wrap64 (Int.tmod (IntKind.u64.wrap (a3)) 37))).bind fun bt163 => ((ratchet_Billed.f k t140 (wrap64 (Int.tmod (IntKind.u64.wrap (a2)) 101)) 0).bind fun bt165 => ((ratchet_Billed.f k y156 100 36).bind fun bt167 => (if bt159.2 = 0 then (if bt161.2 = 0 then (if bt163.2 = 0 then (if bt165.2 = 0 then (pylonlaw18_RatchetLooks.j0 k t140 y156 bt159.1 bt161.1 bt163.1 bt165.1 bt167.1 (bt167.2 != 0)) else (pylonlaw18_RatchetLooks.j0 k t140 y156 bt159.1 bt161.1 bt163.1 bt165.1 bt167.1 true)) else (pylonlaw18_RatchetLooks.j0 k t140 y156 bt159.1 bt161.1 bt163.1 bt165.1 bt167.1 true)) else (pylonlaw18_RatchetLooks.j0 k t140 y156 bt159.1 bt161.1 bt163.1 bt165.1 bt167.1 true)) else (pylonlaw18_RatchetLooks.j0 k t140 y156 bt159.1 bt161.1 bt163.1 bt165.1 bt167.1 true))))))) else ((ratchet_Billed.f k t140 (wrap64 (Int.tmod (IntKind.u64.wrap (a2)) 101)) (wrap64 (Int.tmod (IntKind.u64.wrap (a3)) 37))).bind fun bt171 => ((ratchet_Billed.f k (t143 ++ y146) (wrap64 (Int.tmod (IntKind.u64.wrap (a2)) 101)) (wrap64 (Int.tmod (IntKind.u64.wrap (a3)) 37))).bind fun bt173 => ((ratchet_Billed.f k t140 0 (wrap64 (Int.tmod (IntKind.u64.wrap (a3)) 37))).bind fun bt175 => ((ratchet_Billed.f k t140 (wrap64 (Int.tmod (IntKind.u64.wrap (a2)) 101)) 0).bind fun bt177 => ((ratchet_Billed.f k y156 100 36).bind fun bt179 => (if bt171.2 = 0 then (if bt173.2 = 0 then (if bt175.2 = 0 then (if bt177.2 = 0 then (pylonlaw18_RatchetLooks.j2 k t140 y156 bt171.1 bt173.1 bt175.1 bt177.1 bt179.1 (bt179.2 != 0)) else (pylonlaw18_RatchetLooks.j2 k t140 y156 bt171.1 bt173.1 bt175.1 bt177.1 bt179.1 true)) else (pylonlaw18_RatchetLooks.j2 k t140 y156 bt171.1 bt173.1 bt175.1 bt177.1 bt179.1 true)) else (pylonlaw18_RatchetLooks.j2 k t140 y156 bt171.1 bt173.1 bt175.1 bt177.1 bt179.1 true)) else (pylonlaw18_RatchetLooks.j2 k t140 y156 bt171.1 bt173.1 bt175.1 bt177.1 bt179.1 true))))))))) else (none))) else (none))) else (none)) else (none))))) else (some false)) = some r := H
  have A5 := Aside0.mk A50
  clear A50
  by_cases c6 : t139 = true
  · subst c6
    have H1 : ((pylonlaw18_good.f k l0).bind fun t140 => (if (t140.length : Int) = 0 then (some true) else ((pylonlaw18_good.f k l1).bind fun t143 => (if 0 ≤ (mx (wrap64 ((wrap64 ((t140.length : Int) - 1)) - (wrap64 (Int.tmod (IntKind.u64.wrap (a3)) 37)))) 0) then (if (mx (wrap64 ((wrap64 ((t140.length : Int) - 1)) - (wrap64 (Int.tmod (IntKind.u64.wrap (a3)) 37)))) 0) ≤ (t140.length : Int) then ((some (t140.drop ((mx (wrap64 ((wrap64 ((t140.length : Int) - 1)) - (wrap64 (Int.tmod (IntKind.u64.wrap (a3)) 37)))) 0) : Int).toNat : List Int)).bind fun y146 => (if t143.length + y146.length < 17592186044416 then ((some (([] : List Int) : List Int)).bind fun y153 => (if y153.length + y146.length < 17592186044416 then ((some (y153 ++ y146 : List Int)).bind fun y156 => (if (wrap64 ((y156.length : Int) - 1)) < (wrap64 (Int.tmod (IntKind.u64.wrap (a3)) 37)) then ((ratchet_Billed.f k t140 (wrap64 (Int.tmod (IntKind.u64.wrap (a2)) 101)) (wrap64 (Int.tmod (IntKind.u64.wrap (a3)) 37))).bind fun bt159 => ((ratchet_Billed.f k y156 (wrap64 (Int.tmod (IntKind.u64.wrap (a2)) 101)) (wrap64 (Int.tmod (IntKind.u64.wrap (a3)) 37))).bind fun bt161 => ((ratchet_Billed.f k t140 0 (wrap64 (Int.tmod (IntKind.u64.wrap (a3)) 37))).bind fun bt163 => ((ratchet_Billed.f k t140 (wrap64 (Int.tmod (IntKind.u64.wrap (a2)) 101)) 0).bind fun bt165 => ((ratchet_Billed.f k y156 100 36).bind fun bt167 => (if bt159.2 = 0 then (if bt161.2 = 0 then (if bt163.2 = 0 then (if bt165.2 = 0 then (pylonlaw18_RatchetLooks.j0 k t140 y156 bt159.1 bt161.1 bt163.1 bt165.1 bt167.1 (bt167.2 != 0)) else (pylonlaw18_RatchetLooks.j0 k t140 y156 bt159.1 bt161.1 bt163.1 bt165.1 bt167.1 true)) else (pylonlaw18_RatchetLooks.j0 k t140 y156 bt159.1 bt161.1 bt163.1 bt165.1 bt167.1 true)) else (pylonlaw18_RatchetLooks.j0 k t140 y156 bt159.1 bt161.1 bt163.1 bt165.1 bt167.1 true)) else (pylonlaw18_RatchetLooks.j0 k t140 y156 bt159.1 bt161.1 bt163.1 bt165.1 bt167.1 true))))))) else ((ratchet_Billed.f k t140 (wrap64 (Int.tmod (IntKind.u64.wrap (a2)) 101)) (wrap64 (Int.tmod (IntKind.u64.wrap (a3)) 37))).bind fun bt171 => ((ratchet_Billed.f k (t143 ++ y146) (wrap64 (Int.tmod (IntKind.u64.wrap (a2)) 101)) (wrap64 (Int.tmod (IntKind.u64.wrap (a3)) 37))).bind fun bt173 => ((ratchet_Billed.f k t140 0 (wrap64 (Int.tmod (IntKind.u64.wrap (a3)) 37))).bind fun bt175 => ((ratchet_Billed.f k t140 (wrap64 (Int.tmod (IntKind.u64.wrap (a2)) 101)) 0).bind fun bt177 => ((ratchet_Billed.f k y156 100 36).bind fun bt179 => (if bt171.2 = 0 then (if bt173.2 = 0 then (if bt175.2 = 0 then (if bt177.2 = 0 then (pylonlaw18_RatchetLooks.j2 k t140 y156 bt171.1 bt173.1 bt175.1 bt177.1 bt179.1 (bt179.2 != 0)) else (pylonlaw18_RatchetLooks.j2 k t140 y156 bt171.1 bt173.1 bt175.1 bt177.1 bt179.1 true)) else (pylonlaw18_RatchetLooks.j2 k t140 y156 bt171.1 bt173.1 bt175.1 bt177.1 bt179.1 true)) else (pylonlaw18_RatchetLooks.j2 k t140 y156 bt171.1 bt173.1 bt175.1 bt177.1 bt179.1 true)) else (pylonlaw18_RatchetLooks.j2 k t140 y156 bt171.1 bt173.1 bt175.1 bt177.1 bt179.1 true))))))))) else (none))) else (none))) else (none)) else (none))))) = some r := by rw [if_pos rfl] at H; exact H
    clear H
    have H := H1
    clear H1
    replace H := Option.bind_eq_some_iff.mp H
    obtain ⟨t140, A70, H⟩ := H
    replace H : (if (t140.length : Int) = 0 then (some true) else ((pylonlaw18_good.f k l1).bind fun t143 => (if 0 ≤ (mx (wrap64 ((wrap64 ((t140.length : Int) - 1)) - (wrap64 (Int.tmod (IntKind.u64.wrap (a3)) 37)))) 0) then (if (mx (wrap64 ((wrap64 ((t140.length : Int) - 1)) - (wrap64 (Int.tmod (IntKind.u64.wrap (a3)) 37)))) 0) ≤ (t140.length : Int) then ((some (t140.drop ((mx (wrap64 ((wrap64 ((t140.length : Int) - 1)) - (wrap64 (Int.tmod (IntKind.u64.wrap (a3)) 37)))) 0) : Int).toNat : List Int)).bind fun y146 => (if t143.length + y146.length < 17592186044416 then ((some (([] : List Int) : List Int)).bind fun y153 => (if y153.length + y146.length < 17592186044416 then ((some (y153 ++ y146 : List Int)).bind fun y156 => (if (wrap64 ((y156.length : Int) - 1)) < (wrap64 (Int.tmod (IntKind.u64.wrap (a3)) 37)) then ((ratchet_Billed.f k t140 (wrap64 (Int.tmod (IntKind.u64.wrap (a2)) 101)) (wrap64 (Int.tmod (IntKind.u64.wrap (a3)) 37))).bind fun bt159 => ((ratchet_Billed.f k y156 (wrap64 (Int.tmod (IntKind.u64.wrap (a2)) 101)) (wrap64 (Int.tmod (IntKind.u64.wrap (a3)) 37))).bind fun bt161 => ((ratchet_Billed.f k t140 0 (wrap64 (Int.tmod (IntKind.u64.wrap (a3)) 37))).bind fun bt163 => ((ratchet_Billed.f k t140 (wrap64 (Int.tmod (IntKind.u64.wrap (a2)) 101)) 0).bind fun bt165 => ((ratchet_Billed.f k y156 100 36).bind fun bt167 => (if bt159.2 = 0 then (if bt161.2 = 0 then (if bt163.2 = 0 then (if bt165.2 = 0 then (pylonlaw18_RatchetLooks.j0 k t140 y156 bt159.1 bt161.1 bt163.1 bt165.1 bt167.1 (bt167.2 != 0)) else (pylonlaw18_RatchetLooks.j0 k t140 y156 bt159.1 bt161.1 bt163.1 bt165.1 bt167.1 true)) else (pylonlaw18_RatchetLooks.j0 k t140 y156 bt159.1 bt161.1 bt163.1 bt165.1 bt167.1 true)) else (pylonlaw18_RatchetLooks.j0 k t140 y156 bt159.1 bt161.1 bt163.1 bt165.1 bt167.1 true)) else (pylonlaw18_RatchetLooks.j0 k t140 y156 bt159.1 bt161.1 bt163.1 bt165.1 bt167.1 true))))))) else ((ratchet_Billed.f k t140 (wrap64 (Int.tmod (IntKind.u64.wrap (a2)) 101)) (wrap64 (Int.tmod (IntKind.u64.wrap (a3)) 37))).bind fun bt171 => ((ratchet_Billed.f k (t143 ++ y146) (wrap64 (Int.tmod (IntKind.u64.wrap (a2)) 101)) (wrap64 (Int.tmod (IntKind.u64.wrap (a3)) 37))).bind fun bt173 => ((ratchet_Billed.f k t140 0 (wrap64 (Int.tmod (IntKind.u64.wrap (a3)) 37))).bind fun bt175 => ((ratchet_Billed.f k t140 (wrap64 (Int.tmod (IntKind.u64.wrap (a2)) 101)) 0).bind fun bt177 => ((ratchet_Billed.f k y156 100 36).bind fun bt179 => (if bt171.2 = 0 then (if bt173.2 = 0 then (if bt175.2 = 0 then (if bt177.2 = 0 then (pylonlaw18_RatchetLooks.j2 k t140 y156 bt171.1 bt173.1 bt175.1 bt177.1 bt179.1 (bt179.2 != 0)) else (pylonlaw18_RatchetLooks.j2 k t140 y156 bt171.1 bt173.1 bt175.1 bt177.1 bt179.1 true)) else (pylonlaw18_RatchetLooks.j2 k t140 y156 bt171.1 bt173.1 bt175.1 bt177.1 bt179.1 true)) else (pylonlaw18_RatchetLooks.j2 k t140 y156 bt171.1 bt173.1 bt175.1 bt177.1 bt179.1 true)) else (pylonlaw18_RatchetLooks.j2 k t140 y156 bt171.1 bt173.1 bt175.1 bt177.1 bt179.1 true))))))))) else (none))) else (none))) else (none)) else (none)))) = some r := H
    have A7 := Aside0.mk A70
    clear A70
    by_cases c8 : (t140.length : Int) = 0
    · rw [if_pos c8] at H
      have c8b0 : ((t140.length : Int) == 0) = true := beq_iff_eq.mpr c8
      have c8b1 : ((t140.length : Int) != 0) = false := bne_eq_false_iff_eq.mpr c8
      clear c8
      obtain rfl := Option.some.inj H
      go_enter Try.func11, Try.ntmps11
      go_wp2_with (first | ((with_reducible refine gate_callee (f := 20) rfl ?_); refine goesL_ (some 26) rfl rfl Try.func20 (by kernel_rfl) rfl #[] rfl (by (try simp only [List.map_toArray, List.map_cons, List.map_nil]); first | done | rfl | (simp only [List.length_drop, List.length_take]; rfl)) ?_; (with_reducible refine (pylonlaw18_awake.calls k  true _ A5.out).mono ?_); rintro e w9 ⟨rfl, hb⟩; refine ⟨_, rfl, ?_⟩; have n0_ := Aside0.mk (below_step (by repeat (first | (with_reducible first | exact HB.out | apply below_alloc | apply pw_below_drewN | apply below_drew1) | exact HB.out)) hb); clear HB; have HB := n0_; clear n0_; (try clear hb); (try clear hb2); (try clear hk); (try clear hi)) | ((with_reducible refine gate_callee (f := 25) rfl ?_); refine goesL_ (some 29) rfl rfl Try.func25 (by kernel_rfl) rfl #[.slice A0 l0.length c0] rfl (by (try simp only [List.map_toArray, List.map_cons, List.map_nil]); first | done | rfl | (simp only [List.length_drop, List.length_take]; rfl)) ?_; (with_reducible refine (pylonlaw18_good.calls k _ _ l0 t140 _ ?side1 ?side2 A7.out).mono ?_); (case side1 => repeat (first | exact (Kd.C_below HR0.out HB.out) | (with_reducible refine Kd.C_alloc ?_ _) | (with_reducible refine Kd.C_drewN ?_ _) | (with_reducible refine Kd.C_drew ?_))); (case side2 => exact HC0.out); rintro e w10 ⟨v141, rfl, ho0, hb⟩; refine ⟨_, rfl, ?_⟩; have n0_ := Aside0.mk (Kd.R_lower ho0 (below_size (by repeat (first | (with_reducible first | exact HB.out | apply below_alloc | apply pw_below_drewN | apply below_drew1) | exact HB.out)))); have n1_ := Aside0.mk (below_step (by repeat (first | (with_reducible first | exact HB.out | apply below_alloc | apply pw_below_drewN | apply below_drew1) | exact HB.out)) hb); clear HB; have HO142 := n0_; have HB := n1_; clear n0_ n1_; (try clear hb); (try clear hb2); (try clear hk); (try clear hi); (try clear ho0); obtain ⟨Ao11, co11, eo11⟩ := Kd.R_slice HO142.out; subst eo11))
      go_ret
      exact ⟨by first | rfl | (simp [errW_none, errW_some] <;> rfl) | (simp [*, errW_none, errW_some] <;> rfl), by repeat (first | (with_reducible first | exact HB.out | apply below_alloc | apply pw_below_drewN | apply below_drew1) | exact HB.out)⟩
    · rw [if_neg c8] at H
      have c8b0 : ((t140.length : Int) == 0) = false := beq_eq_false_iff_ne.mpr c8
      have c8b1 : ((t140.length : Int) != 0) = true := bne_iff_ne.mpr c8
      have c8b2 : ¬ (t140 = []) := fun h_ => c8 (by rw [h_]; rfl)
      obtain ⟨ji12, hji12⟩ : ∃ j_ : Int, (mx (wrap64 ((wrap64 ((t140.length : Int) - 1)) - (wrap64 (Int.tmod (IntKind.u64.wrap (a3)) 37)))) 0) = j_ := ⟨_, rfl⟩
      replace H : ((pylonlaw18_good.f k l1).bind fun t143 => (if 0 ≤ (ji12) then (if (ji12) ≤ (t140.length : Int) then ((some (t140.drop ((ji12) : Int).toNat : List Int)).bind fun y146 => (if t143.length + y146.length < 17592186044416 then ((some (([] : List Int) : List Int)).bind fun y153 => (if y153.length + y146.length < 17592186044416 then ((some (y153 ++ y146 : List Int)).bind fun y156 => (if (wrap64 ((y156.length : Int) - 1)) < (wrap64 (Int.tmod (IntKind.u64.wrap (a3)) 37)) then ((ratchet_Billed.f k t140 (wrap64 (Int.tmod (IntKind.u64.wrap (a2)) 101)) (wrap64 (Int.tmod (IntKind.u64.wrap (a3)) 37))).bind fun bt159 => ((ratchet_Billed.f k y156 (wrap64 (Int.tmod (IntKind.u64.wrap (a2)) 101)) (wrap64 (Int.tmod (IntKind.u64.wrap (a3)) 37))).bind fun bt161 => ((ratchet_Billed.f k t140 0 (wrap64 (Int.tmod (IntKind.u64.wrap (a3)) 37))).bind fun bt163 => ((ratchet_Billed.f k t140 (wrap64 (Int.tmod (IntKind.u64.wrap (a2)) 101)) 0).bind fun bt165 => ((ratchet_Billed.f k y156 100 36).bind fun bt167 => (if bt159.2 = 0 then (if bt161.2 = 0 then (if bt163.2 = 0 then (if bt165.2 = 0 then (pylonlaw18_RatchetLooks.j0 k t140 y156 bt159.1 bt161.1 bt163.1 bt165.1 bt167.1 (bt167.2 != 0)) else (pylonlaw18_RatchetLooks.j0 k t140 y156 bt159.1 bt161.1 bt163.1 bt165.1 bt167.1 true)) else (pylonlaw18_RatchetLooks.j0 k t140 y156 bt159.1 bt161.1 bt163.1 bt165.1 bt167.1 true)) else (pylonlaw18_RatchetLooks.j0 k t140 y156 bt159.1 bt161.1 bt163.1 bt165.1 bt167.1 true)) else (pylonlaw18_RatchetLooks.j0 k t140 y156 bt159.1 bt161.1 bt163.1 bt165.1 bt167.1 true))))))) else ((ratchet_Billed.f k t140 (wrap64 (Int.tmod (IntKind.u64.wrap (a2)) 101)) (wrap64 (Int.tmod (IntKind.u64.wrap (a3)) 37))).bind fun bt171 => ((ratchet_Billed.f k (t143 ++ y146) (wrap64 (Int.tmod (IntKind.u64.wrap (a2)) 101)) (wrap64 (Int.tmod (IntKind.u64.wrap (a3)) 37))).bind fun bt173 => ((ratchet_Billed.f k t140 0 (wrap64 (Int.tmod (IntKind.u64.wrap (a3)) 37))).bind fun bt175 => ((ratchet_Billed.f k t140 (wrap64 (Int.tmod (IntKind.u64.wrap (a2)) 101)) 0).bind fun bt177 => ((ratchet_Billed.f k y156 100 36).bind fun bt179 => (if bt171.2 = 0 then (if bt173.2 = 0 then (if bt175.2 = 0 then (if bt177.2 = 0 then (pylonlaw18_RatchetLooks.j2 k t140 y156 bt171.1 bt173.1 bt175.1 bt177.1 bt179.1 (bt179.2 != 0)) else (pylonlaw18_RatchetLooks.j2 k t140 y156 bt171.1 bt173.1 bt175.1 bt177.1 bt179.1 true)) else (pylonlaw18_RatchetLooks.j2 k t140 y156 bt171.1 bt173.1 bt175.1 bt177.1 bt179.1 true)) else (pylonlaw18_RatchetLooks.j2 k t140 y156 bt171.1 bt173.1 bt175.1 bt177.1 bt179.1 true)) else (pylonlaw18_RatchetLooks.j2 k t140 y156 bt171.1 bt173.1 bt175.1 bt177.1 bt179.1 true))))))))) else (none))) else (none))) else (none)) else (none))) = some r := by first | (rw [hji12] at H; exact H) | (simp only [hji12] at H ⊢; exact H)
      (try rw [hji12] at A5)
      (try rw [hji12] at A7)
      (try (have hji12l : 0 ≤ ji12 := by (rw [← hji12]; unfold mx; (repeat' split) <;> omega)))
      (try (have hji12m : 0 ≤ ji12 := by omega))
      have hji12_ : (if (wrap64 ((wrap64 ((t140.length : Int) - 1)) - (wrap64 (Int.tmod (IntKind.u64.wrap (a3)) 37)))) < 0 then 0 else (wrap64 ((wrap64 ((t140.length : Int) - 1)) - (wrap64 (Int.tmod (IntKind.u64.wrap (a3)) 37))))) = ji12 := hji12
      replace H := Option.bind_eq_some_iff.mp H
      obtain ⟨t143, A130, H⟩ := H
      replace H : (if 0 ≤ (ji12) then (if (ji12) ≤ (t140.length : Int) then ((some (t140.drop ((ji12) : Int).toNat : List Int)).bind fun y146 => (if t143.length + y146.length < 17592186044416 then ((some (([] : List Int) : List Int)).bind fun y153 => (if y153.length + y146.length < 17592186044416 then ((some (y153 ++ y146 : List Int)).bind fun y156 => (if (wrap64 ((y156.length : Int) - 1)) < (wrap64 (Int.tmod (IntKind.u64.wrap (a3)) 37)) then ((ratchet_Billed.f k t140 (wrap64 (Int.tmod (IntKind.u64.wrap (a2)) 101)) (wrap64 (Int.tmod (IntKind.u64.wrap (a3)) 37))).bind fun bt159 => ((ratchet_Billed.f k y156 (wrap64 (Int.tmod (IntKind.u64.wrap (a2)) 101)) (wrap64 (Int.tmod (IntKind.u64.wrap (a3)) 37))).bind fun bt161 => ((ratchet_Billed.f k t140 0 (wrap64 (Int.tmod (IntKind.u64.wrap (a3)) 37))).bind fun bt163 => ((ratchet_Billed.f k t140 (wrap64 (Int.tmod (IntKind.u64.wrap (a2)) 101)) 0).bind fun bt165 => ((ratchet_Billed.f k y156 100 36).bind fun bt167 => (if bt159.2 = 0 then (if bt161.2 = 0 then (if bt163.2 = 0 then (if bt165.2 = 0 then (pylonlaw18_RatchetLooks.j0 k t140 y156 bt159.1 bt161.1 bt163.1 bt165.1 bt167.1 (bt167.2 != 0)) else (pylonlaw18_RatchetLooks.j0 k t140 y156 bt159.1 bt161.1 bt163.1 bt165.1 bt167.1 true)) else (pylonlaw18_RatchetLooks.j0 k t140 y156 bt159.1 bt161.1 bt163.1 bt165.1 bt167.1 true)) else (pylonlaw18_RatchetLooks.j0 k t140 y156 bt159.1 bt161.1 bt163.1 bt165.1 bt167.1 true)) else (pylonlaw18_RatchetLooks.j0 k t140 y156 bt159.1 bt161.1 bt163.1 bt165.1 bt167.1 true))))))) else ((ratchet_Billed.f k t140 (wrap64 (Int.tmod (IntKind.u64.wrap (a2)) 101)) (wrap64 (Int.tmod (IntKind.u64.wrap (a3)) 37))).bind fun bt171 => ((ratchet_Billed.f k (t143 ++ y146) (wrap64 (Int.tmod (IntKind.u64.wrap (a2)) 101)) (wrap64 (Int.tmod (IntKind.u64.wrap (a3)) 37))).bind fun bt173 => ((ratchet_Billed.f k t140 0 (wrap64 (Int.tmod (IntKind.u64.wrap (a3)) 37))).bind fun bt175 => ((ratchet_Billed.f k t140 (wrap64 (Int.tmod (IntKind.u64.wrap (a2)) 101)) 0).bind fun bt177 => ((ratchet_Billed.f k y156 100 36).bind fun bt179 => (if bt171.2 = 0 then (if bt173.2 = 0 then (if bt175.2 = 0 then (if bt177.2 = 0 then (pylonlaw18_RatchetLooks.j2 k t140 y156 bt171.1 bt173.1 bt175.1 bt177.1 bt179.1 (bt179.2 != 0)) else (pylonlaw18_RatchetLooks.j2 k t140 y156 bt171.1 bt173.1 bt175.1 bt177.1 bt179.1 true)) else (pylonlaw18_RatchetLooks.j2 k t140 y156 bt171.1 bt173.1 bt175.1 bt177.1 bt179.1 true)) else (pylonlaw18_RatchetLooks.j2 k t140 y156 bt171.1 bt173.1 bt175.1 bt177.1 bt179.1 true)) else (pylonlaw18_RatchetLooks.j2 k t140 y156 bt171.1 bt173.1 bt175.1 bt177.1 bt179.1 true))))))))) else (none))) else (none))) else (none)) else (none)) = some r := H
      have A13 := Aside0.mk A130
      clear A130
      by_cases c14 : 0 ≤ (ji12)
      · rw [if_pos c14] at H
        have c14b0 := eq_true c14
        have c14b1 : decide (0 ≤ (ji12)) = true := decide_eq_true c14
        clear c14
        by_cases c15 : (ji12) ≤ (t140.length : Int)
        · rw [if_pos c15] at H
          have c15b0 := eq_true c15
          have c15b1 : decide ((ji12) ≤ (t140.length : Int)) = true := decide_eq_true c15
          clear c15
          obtain ⟨y146, hy146⟩ : ∃ y_ : List Int, y_ = (t140.drop ((ji12) : Int).toNat) := ⟨_, rfl⟩
          replace H : (if t143.length + y146.length < 17592186044416 then ((some (([] : List Int) : List Int)).bind fun y153 => (if y153.length + y146.length < 17592186044416 then ((some (y153 ++ y146 : List Int)).bind fun y156 => (if (wrap64 ((y156.length : Int) - 1)) < (wrap64 (Int.tmod (IntKind.u64.wrap (a3)) 37)) then ((ratchet_Billed.f k t140 (wrap64 (Int.tmod (IntKind.u64.wrap (a2)) 101)) (wrap64 (Int.tmod (IntKind.u64.wrap (a3)) 37))).bind fun bt159 => ((ratchet_Billed.f k y156 (wrap64 (Int.tmod (IntKind.u64.wrap (a2)) 101)) (wrap64 (Int.tmod (IntKind.u64.wrap (a3)) 37))).bind fun bt161 => ((ratchet_Billed.f k t140 0 (wrap64 (Int.tmod (IntKind.u64.wrap (a3)) 37))).bind fun bt163 => ((ratchet_Billed.f k t140 (wrap64 (Int.tmod (IntKind.u64.wrap (a2)) 101)) 0).bind fun bt165 => ((ratchet_Billed.f k y156 100 36).bind fun bt167 => (if bt159.2 = 0 then (if bt161.2 = 0 then (if bt163.2 = 0 then (if bt165.2 = 0 then (pylonlaw18_RatchetLooks.j0 k t140 y156 bt159.1 bt161.1 bt163.1 bt165.1 bt167.1 (bt167.2 != 0)) else (pylonlaw18_RatchetLooks.j0 k t140 y156 bt159.1 bt161.1 bt163.1 bt165.1 bt167.1 true)) else (pylonlaw18_RatchetLooks.j0 k t140 y156 bt159.1 bt161.1 bt163.1 bt165.1 bt167.1 true)) else (pylonlaw18_RatchetLooks.j0 k t140 y156 bt159.1 bt161.1 bt163.1 bt165.1 bt167.1 true)) else (pylonlaw18_RatchetLooks.j0 k t140 y156 bt159.1 bt161.1 bt163.1 bt165.1 bt167.1 true))))))) else ((ratchet_Billed.f k t140 (wrap64 (Int.tmod (IntKind.u64.wrap (a2)) 101)) (wrap64 (Int.tmod (IntKind.u64.wrap (a3)) 37))).bind fun bt171 => ((ratchet_Billed.f k (t143 ++ y146) (wrap64 (Int.tmod (IntKind.u64.wrap (a2)) 101)) (wrap64 (Int.tmod (IntKind.u64.wrap (a3)) 37))).bind fun bt173 => ((ratchet_Billed.f k t140 0 (wrap64 (Int.tmod (IntKind.u64.wrap (a3)) 37))).bind fun bt175 => ((ratchet_Billed.f k t140 (wrap64 (Int.tmod (IntKind.u64.wrap (a2)) 101)) 0).bind fun bt177 => ((ratchet_Billed.f k y156 100 36).bind fun bt179 => (if bt171.2 = 0 then (if bt173.2 = 0 then (if bt175.2 = 0 then (if bt177.2 = 0 then (pylonlaw18_RatchetLooks.j2 k t140 y156 bt171.1 bt173.1 bt175.1 bt177.1 bt179.1 (bt179.2 != 0)) else (pylonlaw18_RatchetLooks.j2 k t140 y156 bt171.1 bt173.1 bt175.1 bt177.1 bt179.1 true)) else (pylonlaw18_RatchetLooks.j2 k t140 y156 bt171.1 bt173.1 bt175.1 bt177.1 bt179.1 true)) else (pylonlaw18_RatchetLooks.j2 k t140 y156 bt171.1 bt173.1 bt175.1 bt177.1 bt179.1 true)) else (pylonlaw18_RatchetLooks.j2 k t140 y156 bt171.1 bt173.1 bt175.1 bt177.1 bt179.1 true))))))))) else (none))) else (none)) = some r := by first | (rw [hy146]; with_reducible exact H) | (have H2_ := (Option.bind_some _ _).symm.trans H; rw [hy146]; with_reducible exact H2_) | (have H2_ := (Option.bind_some _ _).symm.trans H; with_reducible exact H2_) | with_reducible exact H | (rw [hy146]; exact H) | exact H
          have Ny146 := Aside0.mk hy146
          clear hy146
          by_cases c16 : t143.length + y146.length < 17592186044416
          · rw [if_pos c16] at H
            have LMc16 := Aside0.mk c16
            clear c16
            obtain ⟨y150, hy150⟩ : ∃ y_ : List Int, y_ = (t143 ++ y146) := ⟨_, rfl⟩
            replace H : ((some (([] : List Int) : List Int)).bind fun y153 => (if y153.length + y146.length < 17592186044416 then ((some (y153 ++ y146 : List Int)).bind fun y156 => (if (wrap64 ((y156.length : Int) - 1)) < (wrap64 (Int.tmod (IntKind.u64.wrap (a3)) 37)) then ((ratchet_Billed.f k t140 (wrap64 (Int.tmod (IntKind.u64.wrap (a2)) 101)) (wrap64 (Int.tmod (IntKind.u64.wrap (a3)) 37))).bind fun bt159 => ((ratchet_Billed.f k y156 (wrap64 (Int.tmod (IntKind.u64.wrap (a2)) 101)) (wrap64 (Int.tmod (IntKind.u64.wrap (a3)) 37))).bind fun bt161 => ((ratchet_Billed.f k t140 0 (wrap64 (Int.tmod (IntKind.u64.wrap (a3)) 37))).bind fun bt163 => ((ratchet_Billed.f k t140 (wrap64 (Int.tmod (IntKind.u64.wrap (a2)) 101)) 0).bind fun bt165 => ((ratchet_Billed.f k y156 100 36).bind fun bt167 => (if bt159.2 = 0 then (if bt161.2 = 0 then (if bt163.2 = 0 then (if bt165.2 = 0 then (pylonlaw18_RatchetLooks.j0 k t140 y156 bt159.1 bt161.1 bt163.1 bt165.1 bt167.1 (bt167.2 != 0)) else (pylonlaw18_RatchetLooks.j0 k t140 y156 bt159.1 bt161.1 bt163.1 bt165.1 bt167.1 true)) else (pylonlaw18_RatchetLooks.j0 k t140 y156 bt159.1 bt161.1 bt163.1 bt165.1 bt167.1 true)) else (pylonlaw18_RatchetLooks.j0 k t140 y156 bt159.1 bt161.1 bt163.1 bt165.1 bt167.1 true)) else (pylonlaw18_RatchetLooks.j0 k t140 y156 bt159.1 bt161.1 bt163.1 bt165.1 bt167.1 true))))))) else ((ratchet_Billed.f k t140 (wrap64 (Int.tmod (IntKind.u64.wrap (a2)) 101)) (wrap64 (Int.tmod (IntKind.u64.wrap (a3)) 37))).bind fun bt171 => ((ratchet_Billed.f k y150 (wrap64 (Int.tmod (IntKind.u64.wrap (a2)) 101)) (wrap64 (Int.tmod (IntKind.u64.wrap (a3)) 37))).bind fun bt173 => ((ratchet_Billed.f k t140 0 (wrap64 (Int.tmod (IntKind.u64.wrap (a3)) 37))).bind fun bt175 => ((ratchet_Billed.f k t140 (wrap64 (Int.tmod (IntKind.u64.wrap (a2)) 101)) 0).bind fun bt177 => ((ratchet_Billed.f k y156 100 36).bind fun bt179 => (if bt171.2 = 0 then (if bt173.2 = 0 then (if bt175.2 = 0 then (if bt177.2 = 0 then (pylonlaw18_RatchetLooks.j2 k t140 y156 bt171.1 bt173.1 bt175.1 bt177.1 bt179.1 (bt179.2 != 0)) else (pylonlaw18_RatchetLooks.j2 k t140 y156 bt171.1 bt173.1 bt175.1 bt177.1 bt179.1 true)) else (pylonlaw18_RatchetLooks.j2 k t140 y156 bt171.1 bt173.1 bt175.1 bt177.1 bt179.1 true)) else (pylonlaw18_RatchetLooks.j2 k t140 y156 bt171.1 bt173.1 bt175.1 bt177.1 bt179.1 true)) else (pylonlaw18_RatchetLooks.j2 k t140 y156 bt171.1 bt173.1 bt175.1 bt177.1 bt179.1 true))))))))) else (none))) = some r := by first | (rw [hy150]; with_reducible exact H) | (have H2_ := (Option.bind_some _ _).symm.trans H; rw [hy150]; with_reducible exact H2_) | (have H2_ := (Option.bind_some _ _).symm.trans H; with_reducible exact H2_) | with_reducible exact H | (rw [hy150]; exact H) | exact H
            have Ny150 := Aside0.mk hy150
            clear hy150
            obtain ⟨y153, hy153⟩ : ∃ y_ : List Int, y_ = (([] : List Int)) := ⟨_, rfl⟩
            replace H : (if y153.length + y146.length < 17592186044416 then ((some (y153 ++ y146 : List Int)).bind fun y156 => (if (wrap64 ((y156.length : Int) - 1)) < (wrap64 (Int.tmod (IntKind.u64.wrap (a3)) 37)) then ((ratchet_Billed.f k t140 (wrap64 (Int.tmod (IntKind.u64.wrap (a2)) 101)) (wrap64 (Int.tmod (IntKind.u64.wrap (a3)) 37))).bind fun bt159 => ((ratchet_Billed.f k y156 (wrap64 (Int.tmod (IntKind.u64.wrap (a2)) 101)) (wrap64 (Int.tmod (IntKind.u64.wrap (a3)) 37))).bind fun bt161 => ((ratchet_Billed.f k t140 0 (wrap64 (Int.tmod (IntKind.u64.wrap (a3)) 37))).bind fun bt163 => ((ratchet_Billed.f k t140 (wrap64 (Int.tmod (IntKind.u64.wrap (a2)) 101)) 0).bind fun bt165 => ((ratchet_Billed.f k y156 100 36).bind fun bt167 => (if bt159.2 = 0 then (if bt161.2 = 0 then (if bt163.2 = 0 then (if bt165.2 = 0 then (pylonlaw18_RatchetLooks.j0 k t140 y156 bt159.1 bt161.1 bt163.1 bt165.1 bt167.1 (bt167.2 != 0)) else (pylonlaw18_RatchetLooks.j0 k t140 y156 bt159.1 bt161.1 bt163.1 bt165.1 bt167.1 true)) else (pylonlaw18_RatchetLooks.j0 k t140 y156 bt159.1 bt161.1 bt163.1 bt165.1 bt167.1 true)) else (pylonlaw18_RatchetLooks.j0 k t140 y156 bt159.1 bt161.1 bt163.1 bt165.1 bt167.1 true)) else (pylonlaw18_RatchetLooks.j0 k t140 y156 bt159.1 bt161.1 bt163.1 bt165.1 bt167.1 true))))))) else ((ratchet_Billed.f k t140 (wrap64 (Int.tmod (IntKind.u64.wrap (a2)) 101)) (wrap64 (Int.tmod (IntKind.u64.wrap (a3)) 37))).bind fun bt171 => ((ratchet_Billed.f k y150 (wrap64 (Int.tmod (IntKind.u64.wrap (a2)) 101)) (wrap64 (Int.tmod (IntKind.u64.wrap (a3)) 37))).bind fun bt173 => ((ratchet_Billed.f k t140 0 (wrap64 (Int.tmod (IntKind.u64.wrap (a3)) 37))).bind fun bt175 => ((ratchet_Billed.f k t140 (wrap64 (Int.tmod (IntKind.u64.wrap (a2)) 101)) 0).bind fun bt177 => ((ratchet_Billed.f k y156 100 36).bind fun bt179 => (if bt171.2 = 0 then (if bt173.2 = 0 then (if bt175.2 = 0 then (if bt177.2 = 0 then (pylonlaw18_RatchetLooks.j2 k t140 y156 bt171.1 bt173.1 bt175.1 bt177.1 bt179.1 (bt179.2 != 0)) else (pylonlaw18_RatchetLooks.j2 k t140 y156 bt171.1 bt173.1 bt175.1 bt177.1 bt179.1 true)) else (pylonlaw18_RatchetLooks.j2 k t140 y156 bt171.1 bt173.1 bt175.1 bt177.1 bt179.1 true)) else (pylonlaw18_RatchetLooks.j2 k t140 y156 bt171.1 bt173.1 bt175.1 bt177.1 bt179.1 true)) else (pylonlaw18_RatchetLooks.j2 k t140 y156 bt171.1 bt173.1 bt175.1 bt177.1 bt179.1 true))))))))) else (none)) = some r := by first | (rw [hy153]; with_reducible exact H) | (have H2_ := (Option.bind_some _ _).symm.trans H; rw [hy153]; with_reducible exact H2_) | (have H2_ := (Option.bind_some _ _).symm.trans H; with_reducible exact H2_) | with_reducible exact H | (rw [hy153]; exact H) | exact H
            have Ny153 := Aside0.mk hy153
            clear hy153
            by_cases c17 : y153.length + y146.length < 17592186044416
            · rw [if_pos c17] at H
              have LMc17 := Aside0.mk c17
              clear c17
              obtain ⟨y156, hy156⟩ : ∃ y_ : List Int, y_ = (y153 ++ y146) := ⟨_, rfl⟩
              replace H : (if (wrap64 ((y156.length : Int) - 1)) < (wrap64 (Int.tmod (IntKind.u64.wrap (a3)) 37)) then ((ratchet_Billed.f k t140 (wrap64 (Int.tmod (IntKind.u64.wrap (a2)) 101)) (wrap64 (Int.tmod (IntKind.u64.wrap (a3)) 37))).bind fun bt159 => ((ratchet_Billed.f k y156 (wrap64 (Int.tmod (IntKind.u64.wrap (a2)) 101)) (wrap64 (Int.tmod (IntKind.u64.wrap (a3)) 37))).bind fun bt161 => ((ratchet_Billed.f k t140 0 (wrap64 (Int.tmod (IntKind.u64.wrap (a3)) 37))).bind fun bt163 => ((ratchet_Billed.f k t140 (wrap64 (Int.tmod (IntKind.u64.wrap (a2)) 101)) 0).bind fun bt165 => ((ratchet_Billed.f k y156 100 36).bind fun bt167 => (if bt159.2 = 0 then (if bt161.2 = 0 then (if bt163.2 = 0 then (if bt165.2 = 0 then (pylonlaw18_RatchetLooks.j0 k t140 y156 bt159.1 bt161.1 bt163.1 bt165.1 bt167.1 (bt167.2 != 0)) else (pylonlaw18_RatchetLooks.j0 k t140 y156 bt159.1 bt161.1 bt163.1 bt165.1 bt167.1 true)) else (pylonlaw18_RatchetLooks.j0 k t140 y156 bt159.1 bt161.1 bt163.1 bt165.1 bt167.1 true)) else (pylonlaw18_RatchetLooks.j0 k t140 y156 bt159.1 bt161.1 bt163.1 bt165.1 bt167.1 true)) else (pylonlaw18_RatchetLooks.j0 k t140 y156 bt159.1 bt161.1 bt163.1 bt165.1 bt167.1 true))))))) else ((ratchet_Billed.f k t140 (wrap64 (Int.tmod (IntKind.u64.wrap (a2)) 101)) (wrap64 (Int.tmod (IntKind.u64.wrap (a3)) 37))).bind fun bt171 => ((ratchet_Billed.f k y150 (wrap64 (Int.tmod (IntKind.u64.wrap (a2)) 101)) (wrap64 (Int.tmod (IntKind.u64.wrap (a3)) 37))).bind fun bt173 => ((ratchet_Billed.f k t140 0 (wrap64 (Int.tmod (IntKind.u64.wrap (a3)) 37))).bind fun bt175 => ((ratchet_Billed.f k t140 (wrap64 (Int.tmod (IntKind.u64.wrap (a2)) 101)) 0).bind fun bt177 => ((ratchet_Billed.f k y156 100 36).bind fun bt179 => (if bt171.2 = 0 then (if bt173.2 = 0 then (if bt175.2 = 0 then (if bt177.2 = 0 then (pylonlaw18_RatchetLooks.j2 k t140 y156 bt171.1 bt173.1 bt175.1 bt177.1 bt179.1 (bt179.2 != 0)) else (pylonlaw18_RatchetLooks.j2 k t140 y156 bt171.1 bt173.1 bt175.1 bt177.1 bt179.1 true)) else (pylonlaw18_RatchetLooks.j2 k t140 y156 bt171.1 bt173.1 bt175.1 bt177.1 bt179.1 true)) else (pylonlaw18_RatchetLooks.j2 k t140 y156 bt171.1 bt173.1 bt175.1 bt177.1 bt179.1 true)) else (pylonlaw18_RatchetLooks.j2 k t140 y156 bt171.1 bt173.1 bt175.1 bt177.1 bt179.1 true)))))))) = some r := by first | (rw [hy156]; with_reducible exact H) | (have H2_ := (Option.bind_some _ _).symm.trans H; rw [hy156]; with_reducible exact H2_) | (have H2_ := (Option.bind_some _ _).symm.trans H; with_reducible exact H2_) | with_reducible exact H | (rw [hy156]; exact H) | exact H
              have Ny156 := Aside0.mk hy156
              clear hy156
              by_cases c18 : (wrap64 ((y156.length : Int) - 1)) < (wrap64 (Int.tmod (IntKind.u64.wrap (a3)) 37))
              · rw [if_pos c18] at H
                have c18b0 : decide ((wrap64 ((y156.length : Int) - 1)) < (wrap64 (Int.tmod (IntKind.u64.wrap (a3)) 37))) = true := decide_eq_true c18
                clear c18
                replace H := Option.bind_eq_some_iff.mp H
                obtain ⟨⟨t159, t160⟩, A190, H⟩ := H
                replace H : ((ratchet_Billed.f k y156 (wrap64 (Int.tmod (IntKind.u64.wrap (a2)) 101)) (wrap64 (Int.tmod (IntKind.u64.wrap (a3)) 37))).bind fun bt161 => ((ratchet_Billed.f k t140 0 (wrap64 (Int.tmod (IntKind.u64.wrap (a3)) 37))).bind fun bt163 => ((ratchet_Billed.f k t140 (wrap64 (Int.tmod (IntKind.u64.wrap (a2)) 101)) 0).bind fun bt165 => ((ratchet_Billed.f k y156 100 36).bind fun bt167 => (if t160 = 0 then (if bt161.2 = 0 then (if bt163.2 = 0 then (if bt165.2 = 0 then (pylonlaw18_RatchetLooks.j0 k t140 y156 t159 bt161.1 bt163.1 bt165.1 bt167.1 (bt167.2 != 0)) else (pylonlaw18_RatchetLooks.j0 k t140 y156 t159 bt161.1 bt163.1 bt165.1 bt167.1 true)) else (pylonlaw18_RatchetLooks.j0 k t140 y156 t159 bt161.1 bt163.1 bt165.1 bt167.1 true)) else (pylonlaw18_RatchetLooks.j0 k t140 y156 t159 bt161.1 bt163.1 bt165.1 bt167.1 true)) else (pylonlaw18_RatchetLooks.j0 k t140 y156 t159 bt161.1 bt163.1 bt165.1 bt167.1 true)))))) = some r := H
                have A19 := Aside0.mk A190
                clear A190
                replace H := Option.bind_eq_some_iff.mp H
                obtain ⟨⟨t161, t162⟩, A200, H⟩ := H
                replace H : ((ratchet_Billed.f k t140 0 (wrap64 (Int.tmod (IntKind.u64.wrap (a3)) 37))).bind fun bt163 => ((ratchet_Billed.f k t140 (wrap64 (Int.tmod (IntKind.u64.wrap (a2)) 101)) 0).bind fun bt165 => ((ratchet_Billed.f k y156 100 36).bind fun bt167 => (if t160 = 0 then (if t162 = 0 then (if bt163.2 = 0 then (if bt165.2 = 0 then (pylonlaw18_RatchetLooks.j0 k t140 y156 t159 t161 bt163.1 bt165.1 bt167.1 (bt167.2 != 0)) else (pylonlaw18_RatchetLooks.j0 k t140 y156 t159 t161 bt163.1 bt165.1 bt167.1 true)) else (pylonlaw18_RatchetLooks.j0 k t140 y156 t159 t161 bt163.1 bt165.1 bt167.1 true)) else (pylonlaw18_RatchetLooks.j0 k t140 y156 t159 t161 bt163.1 bt165.1 bt167.1 true)) else (pylonlaw18_RatchetLooks.j0 k t140 y156 t159 t161 bt163.1 bt165.1 bt167.1 true))))) = some r := H
                have A20 := Aside0.mk A200
                clear A200
                replace H := Option.bind_eq_some_iff.mp H
                obtain ⟨⟨t163, t164⟩, A210, H⟩ := H
                replace H : ((ratchet_Billed.f k t140 (wrap64 (Int.tmod (IntKind.u64.wrap (a2)) 101)) 0).bind fun bt165 => ((ratchet_Billed.f k y156 100 36).bind fun bt167 => (if t160 = 0 then (if t162 = 0 then (if t164 = 0 then (if bt165.2 = 0 then (pylonlaw18_RatchetLooks.j0 k t140 y156 t159 t161 t163 bt165.1 bt167.1 (bt167.2 != 0)) else (pylonlaw18_RatchetLooks.j0 k t140 y156 t159 t161 t163 bt165.1 bt167.1 true)) else (pylonlaw18_RatchetLooks.j0 k t140 y156 t159 t161 t163 bt165.1 bt167.1 true)) else (pylonlaw18_RatchetLooks.j0 k t140 y156 t159 t161 t163 bt165.1 bt167.1 true)) else (pylonlaw18_RatchetLooks.j0 k t140 y156 t159 t161 t163 bt165.1 bt167.1 true)))) = some r := H
                have A21 := Aside0.mk A210
                clear A210
                replace H := Option.bind_eq_some_iff.mp H
                obtain ⟨⟨t165, t166⟩, A220, H⟩ := H
                replace H : ((ratchet_Billed.f k y156 100 36).bind fun bt167 => (if t160 = 0 then (if t162 = 0 then (if t164 = 0 then (if t166 = 0 then (pylonlaw18_RatchetLooks.j0 k t140 y156 t159 t161 t163 t165 bt167.1 (bt167.2 != 0)) else (pylonlaw18_RatchetLooks.j0 k t140 y156 t159 t161 t163 t165 bt167.1 true)) else (pylonlaw18_RatchetLooks.j0 k t140 y156 t159 t161 t163 t165 bt167.1 true)) else (pylonlaw18_RatchetLooks.j0 k t140 y156 t159 t161 t163 t165 bt167.1 true)) else (pylonlaw18_RatchetLooks.j0 k t140 y156 t159 t161 t163 t165 bt167.1 true))) = some r := H
                have A22 := Aside0.mk A220
                clear A220
                replace H := Option.bind_eq_some_iff.mp H
                obtain ⟨⟨t167, t168⟩, A230, H⟩ := H
                replace H : (if t160 = 0 then (if t162 = 0 then (if t164 = 0 then (if t166 = 0 then (pylonlaw18_RatchetLooks.j0 k t140 y156 t159 t161 t163 t165 t167 (t168 != 0)) else (pylonlaw18_RatchetLooks.j0 k t140 y156 t159 t161 t163 t165 t167 true)) else (pylonlaw18_RatchetLooks.j0 k t140 y156 t159 t161 t163 t165 t167 true)) else (pylonlaw18_RatchetLooks.j0 k t140 y156 t159 t161 t163 t165 t167 true)) else (pylonlaw18_RatchetLooks.j0 k t140 y156 t159 t161 t163 t165 t167 true)) = some r := H
                have A23 := Aside0.mk A230
                clear A230
                have HC24 := Aside0.mk H
                clear H
                go_enter Try.func11, Try.ntmps11
                try go_wp2_with (first | ((with_reducible refine gate_callee (f := 20) rfl ?_); refine goesL_ (some 26) rfl rfl Try.func20 (by kernel_rfl) rfl #[] rfl (by (try simp only [List.map_toArray, List.map_cons, List.map_nil]); first | done | rfl | (simp only [List.length_drop, List.length_take]; rfl)) ?_; (with_reducible refine (pylonlaw18_awake.calls k  true _ A5.out).mono ?_); rintro e w25 ⟨rfl, hb⟩; refine ⟨_, rfl, ?_⟩; have n0_ := Aside0.mk (below_step (by repeat (first | (with_reducible first | exact HB.out | apply below_alloc | apply pw_below_drewN | apply below_drew1) | exact HB.out)) hb); clear HB; have HB := n0_; clear n0_; (try clear hb); (try clear hb2); (try clear hk); (try clear hi)) | ((with_reducible refine gate_callee (f := 25) rfl ?_); refine goesL_ (some 29) rfl rfl Try.func25 (by kernel_rfl) rfl #[.slice A0 l0.length c0] rfl (by (try simp only [List.map_toArray, List.map_cons, List.map_nil]); first | done | rfl | (simp only [List.length_drop, List.length_take]; rfl)) ?_; (with_reducible refine (pylonlaw18_good.calls k _ _ l0 t140 _ ?side1 ?side2 A7.out).mono ?_); (case side1 => repeat (first | exact (Kd.C_below HR0.out HB.out) | (with_reducible refine Kd.C_alloc ?_ _) | (with_reducible refine Kd.C_drewN ?_ _) | (with_reducible refine Kd.C_drew ?_))); (case side2 => exact HC0.out); rintro e w26 ⟨v141, rfl, ho0, hb⟩; refine ⟨_, rfl, ?_⟩; have n0_ := Aside0.mk (Kd.R_lower ho0 (below_size (by repeat (first | (with_reducible first | exact HB.out | apply below_alloc | apply pw_below_drewN | apply below_drew1) | exact HB.out)))); have n1_ := Aside0.mk (below_step (by repeat (first | (with_reducible first | exact HB.out | apply below_alloc | apply pw_below_drewN | apply below_drew1) | exact HB.out)) hb); clear HB; have HO142 := n0_; have HB := n1_; clear n0_ n1_; (try clear hb); (try clear hb2); (try clear hk); (try clear hi); (try clear ho0); obtain ⟨Ao27, co27, eo27⟩ := Kd.R_slice HO142.out; subst eo27))
                have n0_ := Aside0.mk (Kd.R_drew HO142.out)
                have n1_ := Aside0.mk (below_drew1 HB.out)
                clear HO142
                clear HB
                have HO142 := n0_
                have HB := n1_
                clear n0_ n1_
                have q29 : ((ji12) : Int) ≤ ((t140.length : Int) : Int) := of_decide_eq_true (by first | (with_reducible assumption) | assumption)
                obtain ⟨i029, hi029, _, hsz29, _⟩ := info_parts info2
                have hroom29 : t140.length ≤ co27 := (Kd.R_reads' HO142.out).2.1
                have hC29 : Kd.C (Kd.int .i64) _ Ao27 t140.length t140 := (Kd.R_reads' HO142.out).2.2
                have q029 : (0 : Int) ≤ ((ji12) : Int) := of_decide_eq_true (by first | (with_reducible assumption) | assumption)
                have hcut29 := cut_from (P := Try.prog) 37 2 .i64 Try.underlying37 hi029 1 hsz29 Ao27 t140.length co27 (ji12) q029 q29
                have hr29 := Kd.C_drop (m := ((ji12) : Int).toNat) (c := co27) hC29 (by omega) hroom29
                obtain ⟨A29, hA29⟩ : ∃ A1, A1 = (if co27 = ((ji12) : Int).toNat then Ao27 else (Ao27 : Option Addr).map (·.add (((ji12) : Int).toNat * 1))) := ⟨_, rfl⟩
                obtain ⟨c29, hc29⟩ : ∃ c1, c1 = co27 - ((ji12) : Int).toNat := ⟨_, rfl⟩
                have hy29 : y146.length = t140.length - ((ji12) : Int).toNat := (by rw [Ny146.out, List.length_drop] <;> omega)
                rw [show (t140).drop ((ji12) : Int).toNat = y146 from Ny146.out.symm] at hr29
                replace hr29 : Kd.C (Kd.int .i64) _ A29 y146.length y146 := (by rw [hA29]; exact hr29)
                rw [← hy29, ← hA29, ← hc29] at hcut29
                have HR149 := Aside0.mk hr29
                have HC149 := Aside0.mk (show y146.length ≤ c29 from by rw [hy29, hc29]; exact Nat.sub_le_sub_right hroom29 _)
                clear hr29 hC29 hroom29 hi029 hsz29 hc29
                have KY29 := Aside0.mk hy29
                have KA29 := Aside0.mk hA29
                clear hy29 hA29
                have KL29 := Aside0.mk (show ((ji12) : Int).toNat ≤ t140.length from by omega)
                replace q29 := eq_true q29
                refine start_ (n := 7) (S := fun w' => True) (ds := []) #[false, false, false, false, false, false, false] (by kernel_rfl) rfl rfl trivial (fun hHeld => ?_)
                generalize w26.drew = w28 at HO142 HB HR149 hHeld ⊢
                refine pure_ (i := 0) (N := some 47) (v := ?_) (a' := ?_) #[true, false, false, false, false, false, false] rfl rfl (by kernel_rfl) (fun _ _ _ h => h) (Or.inl ⟨by rfl, ?_⟩) ?_ ?_
                rotate_left
                · intro w'
                  go_simp
                  with_reducible rfl
                rotate_left
                · simp only [Act.put, List.setIfInBounds_toArray, List.set_cons_zero, List.set_cons_succ, i64_w, i32_w]
                  rfl
                refine pure_ (i := 2) (N := some 49) (v := ?_) (a' := ?_) #[true, false, true, false, false, false, false] rfl rfl (by kernel_rfl) (fun _ _ _ h => h) (Or.inl ⟨by rfl, ?_⟩) ?_ ?_
                rotate_left
                · intro w'
                  go_simp
                  with_reducible rfl
                rotate_left
                · simp only [Act.put, List.setIfInBounds_toArray, List.set_cons_zero, List.set_cons_succ, i64_w, i32_w]
                  rfl
                refine pure_ (i := 3) (N := some 50) (v := ?_) (a' := ?_) #[true, false, true, true, false, false, false] rfl rfl (by kernel_rfl) (fun _ _ _ h => h) (Or.inl ⟨by rfl, ?_⟩) ?_ ?_
                rotate_left
                · intro w'
                  go_simp
                  with_reducible rfl
                rotate_left
                · simp only [Act.put, List.setIfInBounds_toArray, List.set_cons_zero, List.set_cons_succ, i64_w, i32_w]
                  rfl
                refine pure_ (i := 4) (N := some 51) (v := ?_) (a' := ?_) #[true, false, true, true, true, false, false] rfl rfl (by kernel_rfl) (fun _ _ _ h => h) (Or.inl ⟨by rfl, ?_⟩) ?_ ?_
                rotate_left
                · intro w'
                  go_simp
                  with_reducible rfl
                rotate_left
                · simp only [Act.put, List.setIfInBounds_toArray, List.set_cons_zero, List.set_cons_succ, i64_w, i32_w]
                  rfl
                refine one_ (i := 1) (N := some 48) #[true, true, true, true, true, false, false] rfl rfl (by kernel_rfl) (by decide) (fun K hK => ?_)
                refine goes_ Try.func25 (by kernel_rfl) rfl #[.slice A1 l1.length c1] (by rfl) rfl rfl (by (try simp only [List.map_toArray, List.map_cons, List.map_nil]); first | done | rfl | (simp only [List.length_drop, List.length_take]; rfl)) ?_
                with_reducible refine (pylonlaw18_good.calls k _ _ l1 t143 _ ?side1 ?side2 A13.out).mono ?_
                (case side1 => repeat (first | exact (Kd.C_below HR1.out HB.out) | (with_reducible refine Kd.C_alloc ?_ _) | (with_reducible refine Kd.C_drewN ?_ _) | (with_reducible refine Kd.C_drew ?_)))
                (case side2 => exact HC1.out)
                rintro e w30 ⟨v144, rfl, ho0, hb⟩
                refine ⟨_, rfl, ?_⟩
                have n0_ := Aside0.mk (Kd.R_elder' (by (with_reducible repeat (first | apply Kd.R_alloc | apply Kd.R_drewN | apply Kd.R_drew)); exact HO142.out) (Kd.R_base ho0) hb)
                have n1_ := Aside0.mk (Kd.R_lower (Kd.R_new' ho0 (Kd.R_lt (by (with_reducible repeat (first | apply Kd.R_alloc | apply Kd.R_drewN | apply Kd.R_drew)); exact HO142.out))) (below_size (by repeat (first | (with_reducible first | exact HB.out | apply below_alloc | apply pw_below_drewN | apply below_drew1) | exact HB.out))))
                have n2_ := Aside0.mk (Kd.C_below (by repeat (first | (with_reducible exact HR149.out) | (with_reducible refine Kd.C_alloc ?_ _) | (with_reducible refine Kd.C_drewN ?_ _) | (with_reducible refine Kd.C_drew ?_) | exact HR149.out)) hb)
                have n3_ := Aside0.mk (below_step (by repeat (first | (with_reducible first | exact HB.out | apply below_alloc | apply pw_below_drewN | apply below_drew1) | exact HB.out)) hb)
                clear HO142
                clear HR149
                clear HB
                have HO142 := n0_
                have HO145 := n1_
                have HR149 := n2_
                have HB := n3_
                clear n0_ n1_ n2_ n3_
                (try clear hb)
                (try clear hb2)
                (try clear hk)
                (try clear hi)
                (try clear ho0)
                refine hK.out _ _ trivial (fun hHeld => ?_)
                clear hK K
                refine norm_ (a' := ?_) ?_ ?_
                rotate_left
                · show Act.put _ (some 48) _ = _
                  simp only [Act.put, List.setIfInBounds_toArray, List.set_cons_zero, List.set_cons_succ, i64_w, i32_w]
                  rfl
                refine one_ (i := 5) (N := some 52) #[true, true, true, true, true, true, false] rfl rfl (by kernel_rfl) (by decide) (fun K hK => ?_)
                refine Kd.R_append_rows_step (Kd.int .i64) (w0 := w) w.heap.size (by rfl) (.tmp 48) (.tmp 51) 37 2 (.int .i64 0) 8 rfl Try.underlying37 info2 rfl (by decide) (by omega) v144 t143 y146 _ _ _ (fun k_ => some k_ ≠ (.slice Ao27 t140.length co27 : Value).ownBlock) (fun _ => False) rfl rfl ?aO ?aR (fun _ _ h => h) (fun _ h => h.elim) ?aF ?aB ?aS ?aL ?_
                (case aR => repeat (first | exact (by repeat (first | (with_reducible exact HR149.out) | (with_reducible refine Kd.C_alloc ?_ _) | (with_reducible refine Kd.C_drewN ?_ _) | (with_reducible refine Kd.C_drew ?_) | exact HR149.out)) | (with_reducible refine Kd.C_alloc ?_ _) | (with_reducible refine Kd.C_drewN ?_ _) | (with_reducible refine Kd.C_drew ?_)))
                (case aB => exact (by repeat (first | (with_reducible first | exact HB.out | apply below_alloc | apply pw_below_drewN | apply below_drew1) | exact HB.out)))
                (case aF => exact (fun k_ hk => Kd.fresh' (Kd.R_lt (by (with_reducible repeat (first | apply Kd.R_alloc | apply Kd.R_drewN | apply Kd.R_drew)); exact HO142.out)) k_ hk))
                (case aO => exact (by (with_reducible repeat (first | apply Kd.R_alloc | apply Kd.R_drewN | apply Kd.R_drew)); exact Kd.R_mono HO145.out (fun _ hk => hk.2)))
                (case aS => exact (below_size (by repeat (first | (with_reducible first | exact HB.out | apply below_alloc | apply pw_below_drewN | apply below_drew1) | exact HB.out))))
                (case aL => have := LMc16.out; omega)
                intro v151 w31 ho hb hg hat
                rw [← Ny150.out] at ho
                have n0_ := Aside0.mk (Kd.R_after (ok := (fun _ => True)) (by (with_reducible repeat (first | apply Kd.R_alloc | apply Kd.R_drewN | apply Kd.R_drew)); exact HO142.out) hg hat)
                have n1_ := Aside0.mk (hb)
                have n2_ := Aside0.mk ((show Kd.C (Kd.int .i64) w31 A29 y146.length y146 from by rw [Ny146.out, KA29.out]; exact Kd.C_drop (m := ((ji12) : Int).toNat) (c := co27) ((Kd.R_reads' (Kd.R_after (ok := (fun _ => True)) (by (with_reducible repeat (first | apply Kd.R_alloc | apply Kd.R_drewN | apply Kd.R_drew)); exact HO142.out) hg hat)).2.2) KL29.out ((Kd.R_reads' (Kd.R_after (ok := (fun _ => True)) (by (with_reducible repeat (first | apply Kd.R_alloc | apply Kd.R_drewN | apply Kd.R_drew)); exact HO142.out) hg hat)).2.1)))
                have n3_ := Aside0.mk (ho)
                clear HO142
                clear HB
                clear HR149
                clear HO145
                have HO142 := n0_
                have HB := n1_
                have HR149 := n2_
                have HO152 := n3_
                clear n0_ n1_ n2_ n3_
                clear ho hb hg hat
                refine hK.out _ _ trivial (fun hHeld => ?_)
                clear hK K
                refine norm_ (a' := ?_) ?_ ?_
                rotate_left
                · show Act.put _ (some 52) _ = _
                  simp only [Act.put, List.setIfInBounds_toArray, List.set_cons_zero, List.set_cons_succ, i64_w, i32_w]
                  rfl
                refine pure_ (i := 6) (N := some 11) (v := ?_) (a' := ?_) #[true, true, true, true, true, true, true] rfl rfl (by kernel_rfl) (fun _ _ _ h => h) (Or.inl ⟨by rfl, ?_⟩) ?_ ?_
                rotate_left
                · intro w'
                  go_simp
                  with_reducible rfl
                rotate_left
                · simp only [Act.put, List.setIfInBounds_toArray, List.set_cons_zero, List.set_cons_succ, i64_w, i32_w]
                  rfl
                refine done_ (by kernel_rfl) ?_
                go_upto_region 17 with (first | ((with_reducible refine gate_dst (N := 53) rfl ?_); refine Kd.R_lit (Kd.int .i64) _ 2 ?hg (N := 53) ?hd (xs := ([] : List Int)) (inner := []) (ok := fun _ => True) (okp := fun _ => True) ?hr ?hp (fun _ hk => hk) trivial (Below.refl _ _) (Nat.le_refl _) (by simp) ?_; (case hd => rfl); (case hg => rfl); (case hr => first | (go_simp; done) | (go_simp; rfl)); (case hp => exact (Reps.none _ _)); intro v154 w32 ho33 hb hg_ hnew_; clear hg_ hnew_; (first | rw [← Ny153.out] at ho33 | (simp only [Int.reduceToNat] at ho33; rw [← Ny153.out] at ho33)); have n0_ := Aside0.mk (Kd.R_elder' (by (with_reducible repeat (first | apply Kd.R_alloc | apply Kd.R_drewN | apply Kd.R_drew)); exact HO142.out) (Kd.R_base ho33) hb); have n1_ := Aside0.mk (Kd.R_elder' (by (with_reducible repeat (first | apply Kd.R_alloc | apply Kd.R_drewN | apply Kd.R_drew)); exact HO152.out) (Kd.R_base ho33) hb); have n2_ := Aside0.mk (Kd.R_lower (Kd.R_new' (Kd.R_new' ho33 (Kd.R_lt (by (with_reducible repeat (first | apply Kd.R_alloc | apply Kd.R_drewN | apply Kd.R_drew)); exact HO142.out))) (Kd.R_lt (by (with_reducible repeat (first | apply Kd.R_alloc | apply Kd.R_drewN | apply Kd.R_drew)); exact HO152.out))) (below_size (by repeat (first | (with_reducible first | exact HB.out | apply below_alloc | apply pw_below_drewN | apply below_drew1) | exact HB.out)))); have n3_ := Aside0.mk (Kd.C_below (by repeat (first | (with_reducible exact HR149.out) | (with_reducible refine Kd.C_alloc ?_ _) | (with_reducible refine Kd.C_drewN ?_ _) | (with_reducible refine Kd.C_drew ?_) | exact HR149.out)) hb); have n4_ := Aside0.mk (below_step (by repeat (first | (with_reducible first | exact HB.out | apply below_alloc | apply pw_below_drewN | apply below_drew1) | exact HB.out)) hb); clear HO142; clear HO152; clear HR149; clear HB; have HO142 := n0_; have HO152 := n1_; have HO155 := n2_; have HR149 := n3_; have HB := n4_; clear n0_ n1_ n2_ n3_ n4_; clear hb ho33) | ((with_reducible refine gate_builtin (b := .append) (xs := #[.tmp 53, .tmp 56]) rfl ?_); at_builtin; refine Kd.R_append_rows (Kd.int .i64) (w0 := w) w.heap.size rfl (.tmp 53) (.tmp 56) 37 2 (.int .i64 0) 8 rfl Try.underlying37 info2 rfl (by decide) (by omega) v154 y153 y146 _ _ _ (fun k_ => some k_ ≠ (.slice Ao27 t140.length co27 : Value).ownBlock ∧ some k_ ≠ (v151 : Value).ownBlock) (fun _ => False) rfl rfl ?aO ?aR (fun _ _ h => h) (fun _ h => h.elim) ?aF ?aB ?aS ?aL ?_; (case aR => repeat (first | exact (by repeat (first | (with_reducible exact HR149.out) | (with_reducible refine Kd.C_alloc ?_ _) | (with_reducible refine Kd.C_drewN ?_ _) | (with_reducible refine Kd.C_drew ?_) | exact HR149.out)) | (with_reducible refine Kd.C_alloc ?_ _) | (with_reducible refine Kd.C_drewN ?_ _) | (with_reducible refine Kd.C_drew ?_))); (case aB => exact (by repeat (first | (with_reducible first | exact HB.out | apply below_alloc | apply pw_below_drewN | apply below_drew1) | exact HB.out))); (case aF => exact (fun k_ hk => ⟨Kd.fresh' (Kd.R_lt (by (with_reducible repeat (first | apply Kd.R_alloc | apply Kd.R_drewN | apply Kd.R_drew)); exact HO142.out)) k_ hk, Kd.fresh' (Kd.R_lt (by (with_reducible repeat (first | apply Kd.R_alloc | apply Kd.R_drewN | apply Kd.R_drew)); exact HO152.out)) k_ hk⟩)); (case aO => exact (by (with_reducible repeat (first | apply Kd.R_alloc | apply Kd.R_drewN | apply Kd.R_drew)); exact Kd.R_mono HO155.out (fun _ hk => ⟨hk.1.2, hk.2⟩))); (case aS => exact (below_size (by repeat (first | (with_reducible first | exact HB.out | apply below_alloc | apply pw_below_drewN | apply below_drew1) | exact HB.out)))); (case aL => have := LMc17.out; omega); intro v157 w34 ho hb hg hat; rw [← Ny156.out] at ho; have n0_ := Aside0.mk (Kd.R_after (ok := (fun k_ => some k_ ≠ (v151 : Value).ownBlock)) (by (with_reducible repeat (first | apply Kd.R_alloc | apply Kd.R_drewN | apply Kd.R_drew)); exact Kd.R_mono HO142.out (fun _ hk => ⟨hk.1.2, hk.2⟩)) hg hat); have n1_ := Aside0.mk (Kd.R_after (ok := (fun k_ => some k_ ≠ (.slice Ao27 t140.length co27 : Value).ownBlock)) (by (with_reducible repeat (first | apply Kd.R_alloc | apply Kd.R_drewN | apply Kd.R_drew)); exact HO152.out) hg hat); have n2_ := Aside0.mk (hb); have n3_ := Aside0.mk ((show Kd.C (Kd.int .i64) w34 A29 y146.length y146 from by rw [Ny146.out, KA29.out]; exact Kd.C_drop (m := ((ji12) : Int).toNat) (c := co27) ((Kd.R_reads' (Kd.R_after (ok := (fun k_ => some k_ ≠ (v151 : Value).ownBlock)) (by (with_reducible repeat (first | apply Kd.R_alloc | apply Kd.R_drewN | apply Kd.R_drew)); exact Kd.R_mono HO142.out (fun _ hk => ⟨hk.1.2, hk.2⟩)) hg hat)).2.2) KL29.out ((Kd.R_reads' (Kd.R_after (ok := (fun k_ => some k_ ≠ (v151 : Value).ownBlock)) (by (with_reducible repeat (first | apply Kd.R_alloc | apply Kd.R_drewN | apply Kd.R_drew)); exact Kd.R_mono HO142.out (fun _ hk => ⟨hk.1.2, hk.2⟩)) hg hat)).2.1))); have n4_ := Aside0.mk (ho); clear HO142; clear HO152; clear HB; clear HR149; clear HO155; have HO142 := n0_; have HO152 := n1_; have HB := n2_; have HR149 := n3_; have HO158 := n4_; clear n0_ n1_ n2_ n3_ n4_; clear ho hb hg hat; obtain ⟨Ao35, co35, eo35⟩ := Kd.R_slice HO158.out; subst eo35) | ((with_reducible refine gate_callee (f := 22) rfl ?_); refine goesL_ (some 68) rfl rfl Try.func22 (by kernel_rfl) rfl #[.slice Ao27 t140.length co27, .int .i64 (wrap64 (Int.tmod (IntKind.u64.wrap (a2)) 101)), .int .i64 (wrap64 (Int.tmod (IntKind.u64.wrap (a3)) 37))] rfl (by (try simp only [List.map_toArray, List.map_cons, List.map_nil]); first | done | rfl | (simp only [List.length_drop, List.length_take]; rfl)) ?_; (with_reducible refine (ratchet_Billed.calls k _ _ t140 (wrap64 (Int.tmod (IntKind.u64.wrap (a2)) 101)) (wrap64 (Int.tmod (IntKind.u64.wrap (a3)) 37)) t159 t160 _ ?side1 ?side2 A19.out).mono ?_); (case side1 => repeat (first | exact (Kd.R_reads' HO142.out).2.2 | (with_reducible refine Kd.C_alloc ?_ _) | (with_reducible refine Kd.C_drewN ?_ _) | (with_reducible refine Kd.C_drew ?_))); (case side2 => exact (Kd.R_reads' HO142.out).2.1); rintro e w36 ⟨rfl, hb⟩; refine ⟨_, rfl, ?_⟩; have n0_ := Aside0.mk (Kd.R_below (by (with_reducible repeat (first | apply Kd.R_alloc | apply Kd.R_drewN | apply Kd.R_drew)); exact HO142.out) hb); have n1_ := Aside0.mk (Kd.R_below (by (with_reducible repeat (first | apply Kd.R_alloc | apply Kd.R_drewN | apply Kd.R_drew)); exact HO152.out) hb); have n2_ := Aside0.mk (Kd.R_below (by (with_reducible repeat (first | apply Kd.R_alloc | apply Kd.R_drewN | apply Kd.R_drew)); exact HO158.out) hb); have n3_ := Aside0.mk (Kd.C_below (by repeat (first | (with_reducible exact HR149.out) | (with_reducible refine Kd.C_alloc ?_ _) | (with_reducible refine Kd.C_drewN ?_ _) | (with_reducible refine Kd.C_drew ?_) | exact HR149.out)) hb); have n4_ := Aside0.mk (below_step (by repeat (first | (with_reducible first | exact HB.out | apply below_alloc | apply pw_below_drewN | apply below_drew1) | exact HB.out)) hb); clear HO142; clear HO152; clear HO158; clear HR149; clear HB; have HO142 := n0_; have HO152 := n1_; have HO158 := n2_; have HR149 := n3_; have HB := n4_; clear n0_ n1_ n2_ n3_ n4_; (try clear hb); (try clear hb2); (try clear hk); (try clear hi)) | ((with_reducible refine gate_callee (f := 22) rfl ?_); refine goesL_ (some 75) rfl rfl Try.func22 (by kernel_rfl) rfl #[.slice Ao35 y156.length co35, .int .i64 (wrap64 (Int.tmod (IntKind.u64.wrap (a2)) 101)), .int .i64 (wrap64 (Int.tmod (IntKind.u64.wrap (a3)) 37))] rfl (by (try simp only [List.map_toArray, List.map_cons, List.map_nil]); first | done | rfl | (simp only [List.length_drop, List.length_take]; rfl)) ?_; (with_reducible refine (ratchet_Billed.calls k _ _ y156 (wrap64 (Int.tmod (IntKind.u64.wrap (a2)) 101)) (wrap64 (Int.tmod (IntKind.u64.wrap (a3)) 37)) t161 t162 _ ?side1 ?side2 A20.out).mono ?_); (case side1 => repeat (first | exact (Kd.R_reads' HO158.out).2.2 | (with_reducible refine Kd.C_alloc ?_ _) | (with_reducible refine Kd.C_drewN ?_ _) | (with_reducible refine Kd.C_drew ?_))); (case side2 => exact (Kd.R_reads' HO158.out).2.1); rintro e w37 ⟨rfl, hb⟩; refine ⟨_, rfl, ?_⟩; have n0_ := Aside0.mk (Kd.R_below (by (with_reducible repeat (first | apply Kd.R_alloc | apply Kd.R_drewN | apply Kd.R_drew)); exact HO142.out) hb); have n1_ := Aside0.mk (Kd.R_below (by (with_reducible repeat (first | apply Kd.R_alloc | apply Kd.R_drewN | apply Kd.R_drew)); exact HO152.out) hb); have n2_ := Aside0.mk (Kd.R_below (by (with_reducible repeat (first | apply Kd.R_alloc | apply Kd.R_drewN | apply Kd.R_drew)); exact HO158.out) hb); have n3_ := Aside0.mk (Kd.C_below (by repeat (first | (with_reducible exact HR149.out) | (with_reducible refine Kd.C_alloc ?_ _) | (with_reducible refine Kd.C_drewN ?_ _) | (with_reducible refine Kd.C_drew ?_) | exact HR149.out)) hb); have n4_ := Aside0.mk (below_step (by repeat (first | (with_reducible first | exact HB.out | apply below_alloc | apply pw_below_drewN | apply below_drew1) | exact HB.out)) hb); clear HO142; clear HO152; clear HO158; clear HR149; clear HB; have HO142 := n0_; have HO152 := n1_; have HO158 := n2_; have HR149 := n3_; have HB := n4_; clear n0_ n1_ n2_ n3_ n4_; (try clear hb); (try clear hb2); (try clear hk); (try clear hi)) | ((with_reducible refine gate_callee (f := 22) rfl ?_); refine goesL_ (some 81) rfl rfl Try.func22 (by kernel_rfl) rfl #[.slice Ao27 t140.length co27, .int .i64 0, .int .i64 (wrap64 (Int.tmod (IntKind.u64.wrap (a3)) 37))] rfl (by (try simp only [List.map_toArray, List.map_cons, List.map_nil]); first | done | rfl | (simp only [List.length_drop, List.length_take]; rfl)) ?_; (with_reducible refine (ratchet_Billed.calls k _ _ t140 0 (wrap64 (Int.tmod (IntKind.u64.wrap (a3)) 37)) t163 t164 _ ?side1 ?side2 A21.out).mono ?_); (case side1 => repeat (first | exact (Kd.R_reads' HO142.out).2.2 | (with_reducible refine Kd.C_alloc ?_ _) | (with_reducible refine Kd.C_drewN ?_ _) | (with_reducible refine Kd.C_drew ?_))); (case side2 => exact (Kd.R_reads' HO142.out).2.1); rintro e w38 ⟨rfl, hb⟩; refine ⟨_, rfl, ?_⟩; have n0_ := Aside0.mk (Kd.R_below (by (with_reducible repeat (first | apply Kd.R_alloc | apply Kd.R_drewN | apply Kd.R_drew)); exact HO142.out) hb); have n1_ := Aside0.mk (Kd.R_below (by (with_reducible repeat (first | apply Kd.R_alloc | apply Kd.R_drewN | apply Kd.R_drew)); exact HO152.out) hb); have n2_ := Aside0.mk (Kd.R_below (by (with_reducible repeat (first | apply Kd.R_alloc | apply Kd.R_drewN | apply Kd.R_drew)); exact HO158.out) hb); have n3_ := Aside0.mk (Kd.C_below (by repeat (first | (with_reducible exact HR149.out) | (with_reducible refine Kd.C_alloc ?_ _) | (with_reducible refine Kd.C_drewN ?_ _) | (with_reducible refine Kd.C_drew ?_) | exact HR149.out)) hb); have n4_ := Aside0.mk (below_step (by repeat (first | (with_reducible first | exact HB.out | apply below_alloc | apply pw_below_drewN | apply below_drew1) | exact HB.out)) hb); clear HO142; clear HO152; clear HO158; clear HR149; clear HB; have HO142 := n0_; have HO152 := n1_; have HO158 := n2_; have HR149 := n3_; have HB := n4_; clear n0_ n1_ n2_ n3_ n4_; (try clear hb); (try clear hb2); (try clear hk); (try clear hi)) | ((with_reducible refine gate_callee (f := 22) rfl ?_); refine goesL_ (some 87) rfl rfl Try.func22 (by kernel_rfl) rfl #[.slice Ao27 t140.length co27, .int .i64 (wrap64 (Int.tmod (IntKind.u64.wrap (a2)) 101)), .int .i64 0] rfl (by (try simp only [List.map_toArray, List.map_cons, List.map_nil]); first | done | rfl | (simp only [List.length_drop, List.length_take]; rfl)) ?_; (with_reducible refine (ratchet_Billed.calls k _ _ t140 (wrap64 (Int.tmod (IntKind.u64.wrap (a2)) 101)) 0 t165 t166 _ ?side1 ?side2 A22.out).mono ?_); (case side1 => repeat (first | exact (Kd.R_reads' HO142.out).2.2 | (with_reducible refine Kd.C_alloc ?_ _) | (with_reducible refine Kd.C_drewN ?_ _) | (with_reducible refine Kd.C_drew ?_))); (case side2 => exact (Kd.R_reads' HO142.out).2.1); rintro e w39 ⟨rfl, hb⟩; refine ⟨_, rfl, ?_⟩; have n0_ := Aside0.mk (Kd.R_below (by (with_reducible repeat (first | apply Kd.R_alloc | apply Kd.R_drewN | apply Kd.R_drew)); exact HO142.out) hb); have n1_ := Aside0.mk (Kd.R_below (by (with_reducible repeat (first | apply Kd.R_alloc | apply Kd.R_drewN | apply Kd.R_drew)); exact HO152.out) hb); have n2_ := Aside0.mk (Kd.R_below (by (with_reducible repeat (first | apply Kd.R_alloc | apply Kd.R_drewN | apply Kd.R_drew)); exact HO158.out) hb); have n3_ := Aside0.mk (Kd.C_below (by repeat (first | (with_reducible exact HR149.out) | (with_reducible refine Kd.C_alloc ?_ _) | (with_reducible refine Kd.C_drewN ?_ _) | (with_reducible refine Kd.C_drew ?_) | exact HR149.out)) hb); have n4_ := Aside0.mk (below_step (by repeat (first | (with_reducible first | exact HB.out | apply below_alloc | apply pw_below_drewN | apply below_drew1) | exact HB.out)) hb); clear HO142; clear HO152; clear HO158; clear HR149; clear HB; have HO142 := n0_; have HO152 := n1_; have HO158 := n2_; have HR149 := n3_; have HB := n4_; clear n0_ n1_ n2_ n3_ n4_; (try clear hb); (try clear hb2); (try clear hk); (try clear hi)) | ((with_reducible refine gate_callee (f := 22) rfl ?_); refine goesL_ (some 92) rfl rfl Try.func22 (by kernel_rfl) rfl #[.slice Ao35 y156.length co35, .int .i64 100, .int .i64 36] rfl (by (try simp only [List.map_toArray, List.map_cons, List.map_nil]); first | done | rfl | (simp only [List.length_drop, List.length_take]; rfl)) ?_; (with_reducible refine (ratchet_Billed.calls k _ _ y156 100 36 t167 t168 _ ?side1 ?side2 A23.out).mono ?_); (case side1 => repeat (first | exact (Kd.R_reads' HO158.out).2.2 | (with_reducible refine Kd.C_alloc ?_ _) | (with_reducible refine Kd.C_drewN ?_ _) | (with_reducible refine Kd.C_drew ?_))); (case side2 => exact (Kd.R_reads' HO158.out).2.1); rintro e w40 ⟨rfl, hb⟩; refine ⟨_, rfl, ?_⟩; have n0_ := Aside0.mk (Kd.R_below (by (with_reducible repeat (first | apply Kd.R_alloc | apply Kd.R_drewN | apply Kd.R_drew)); exact HO142.out) hb); have n1_ := Aside0.mk (Kd.R_below (by (with_reducible repeat (first | apply Kd.R_alloc | apply Kd.R_drewN | apply Kd.R_drew)); exact HO152.out) hb); have n2_ := Aside0.mk (Kd.R_below (by (with_reducible repeat (first | apply Kd.R_alloc | apply Kd.R_drewN | apply Kd.R_drew)); exact HO158.out) hb); have n3_ := Aside0.mk (Kd.C_below (by repeat (first | (with_reducible exact HR149.out) | (with_reducible refine Kd.C_alloc ?_ _) | (with_reducible refine Kd.C_drewN ?_ _) | (with_reducible refine Kd.C_drew ?_) | exact HR149.out)) hb); have n4_ := Aside0.mk (below_step (by repeat (first | (with_reducible first | exact HB.out | apply below_alloc | apply pw_below_drewN | apply below_drew1) | exact HB.out)) hb); clear HO142; clear HO152; clear HO158; clear HR149; clear HB; have HO142 := n0_; have HO152 := n1_; have HO158 := n2_; have HR149 := n3_; have HB := n4_; clear n0_ n1_ n2_ n3_ n4_; (try clear hb); (try clear hb2); (try clear hk); (try clear hi)))
                (try simp only [Act.put, List.setIfInBounds_toArray, List.set_cons_zero, List.set_cons_succ])
                go_cut [112] (fun v112 wc => ∃ (kq : Nat) (x112_23 : Bool), v112 = .bool x112_23 ∧ Aside0 (pylonlaw18_RatchetLooks.j0 kq t140 y156 t159 t161 t163 t165 t167 x112_23 = some r) ∧ Aside0 (kq ≤ k) ∧ Aside0 (Kd.R (Kd.int .i64) 2 wc w.heap.size (fun k_ => some k_ ≠ ((.slice Ao35 y156.length co35) : Value).ownBlock) (.slice Ao27 t140.length co27) t140) ∧ Aside0 (Kd.R (Kd.int .i64) 2 wc w.heap.size (fun k_ => some k_ ≠ ((.slice Ao27 t140.length co27) : Value).ownBlock) (.slice Ao35 y156.length co35) y156) ∧ Aside0 (Kd.C (Kd.int .i64) wc A29 y146.length y146) ∧ Aside0 (Below w.heap.size w wc))
                case first =>
                  have H := HC24.out
                  clear HC24
                  by_cases c41 : t160 = 0
                  · rw [if_pos c41] at H
                    have c41b0 : (t160 == 0) = true := beq_iff_eq.mpr c41
                    have c41b1 : (t160 != 0) = false := bne_eq_false_iff_eq.mpr c41
                    clear c41
                    (first | rw [c41b0] | (simp only [i64_w, i32_w]; rw [c41b0]) | skip)
                    by_cases c42 : t162 = 0
                    · rw [if_pos c42] at H
                      have c42b0 : (t162 == 0) = true := beq_iff_eq.mpr c42
                      have c42b1 : (t162 != 0) = false := bne_eq_false_iff_eq.mpr c42
                      clear c42
                      by_cases c43 : t164 = 0
                      · rw [if_pos c43] at H
                        have c43b0 : (t164 == 0) = true := beq_iff_eq.mpr c43
                        have c43b1 : (t164 != 0) = false := bne_eq_false_iff_eq.mpr c43
                        clear c43
                        by_cases c44 : t166 = 0
                        · rw [if_pos c44] at H
                          have c44b0 : (t166 == 0) = true := beq_iff_eq.mpr c44
                          have c44b1 : (t166 != 0) = false := bne_eq_false_iff_eq.mpr c44
                          clear c44
                          have H' := Aside0.mk H
                          clear H
                          go_wp2
                          go_meet
                          case rel => exact ⟨_, ((t168 != 0)), (by first | rfl | (simp; done) | (simp [*]; done)), H', ⟨by first | omega | exact Nat.le_refl _⟩, ⟨by (with_reducible repeat (first | apply Kd.R_alloc | apply Kd.R_drewN | apply Kd.R_drew)); exact Kd.R_mono HO142.out (fun _ hk => hk.2)⟩, ⟨by (with_reducible repeat (first | apply Kd.R_alloc | apply Kd.R_drewN | apply Kd.R_drew)); exact Kd.R_mono HO158.out (fun _ hk => hk.1)⟩, ⟨by repeat (first | (with_reducible exact HR149.out) | (with_reducible refine Kd.C_alloc ?_ _) | (with_reducible refine Kd.C_drewN ?_ _) | (with_reducible refine Kd.C_drew ?_) | exact HR149.out)⟩, ⟨by repeat (first | (with_reducible first | exact HB.out | apply below_alloc | apply pw_below_drewN | apply below_drew1) | exact HB.out)⟩⟩
                        · rw [if_neg c44] at H
                          have c44b0 : (t166 == 0) = false := beq_eq_false_iff_ne.mpr c44
                          have c44b1 : (t166 != 0) = true := bne_iff_ne.mpr c44
                          have H' := Aside0.mk H
                          clear H
                          go_wp2
                          go_meet
                          case rel => exact ⟨_, (true), (by first | rfl | (simp; done) | (simp [*]; done)), H', ⟨by first | omega | exact Nat.le_refl _⟩, ⟨by (with_reducible repeat (first | apply Kd.R_alloc | apply Kd.R_drewN | apply Kd.R_drew)); exact Kd.R_mono HO142.out (fun _ hk => hk.2)⟩, ⟨by (with_reducible repeat (first | apply Kd.R_alloc | apply Kd.R_drewN | apply Kd.R_drew)); exact Kd.R_mono HO158.out (fun _ hk => hk.1)⟩, ⟨by repeat (first | (with_reducible exact HR149.out) | (with_reducible refine Kd.C_alloc ?_ _) | (with_reducible refine Kd.C_drewN ?_ _) | (with_reducible refine Kd.C_drew ?_) | exact HR149.out)⟩, ⟨by repeat (first | (with_reducible first | exact HB.out | apply below_alloc | apply pw_below_drewN | apply below_drew1) | exact HB.out)⟩⟩
                      · rw [if_neg c43] at H
                        have c43b0 : (t164 == 0) = false := beq_eq_false_iff_ne.mpr c43
                        have c43b1 : (t164 != 0) = true := bne_iff_ne.mpr c43
                        have H' := Aside0.mk H
                        clear H
                        go_wp2
                        go_meet
                        case rel => exact ⟨_, (true), (by first | rfl | (simp; done) | (simp [*]; done)), H', ⟨by first | omega | exact Nat.le_refl _⟩, ⟨by (with_reducible repeat (first | apply Kd.R_alloc | apply Kd.R_drewN | apply Kd.R_drew)); exact Kd.R_mono HO142.out (fun _ hk => hk.2)⟩, ⟨by (with_reducible repeat (first | apply Kd.R_alloc | apply Kd.R_drewN | apply Kd.R_drew)); exact Kd.R_mono HO158.out (fun _ hk => hk.1)⟩, ⟨by repeat (first | (with_reducible exact HR149.out) | (with_reducible refine Kd.C_alloc ?_ _) | (with_reducible refine Kd.C_drewN ?_ _) | (with_reducible refine Kd.C_drew ?_) | exact HR149.out)⟩, ⟨by repeat (first | (with_reducible first | exact HB.out | apply below_alloc | apply pw_below_drewN | apply below_drew1) | exact HB.out)⟩⟩
                    · rw [if_neg c42] at H
                      have c42b0 : (t162 == 0) = false := beq_eq_false_iff_ne.mpr c42
                      have c42b1 : (t162 != 0) = true := bne_iff_ne.mpr c42
                      have H' := Aside0.mk H
                      clear H
                      go_wp2
                      go_meet
                      case rel => exact ⟨_, (true), (by first | rfl | (simp; done) | (simp [*]; done)), H', ⟨by first | omega | exact Nat.le_refl _⟩, ⟨by (with_reducible repeat (first | apply Kd.R_alloc | apply Kd.R_drewN | apply Kd.R_drew)); exact Kd.R_mono HO142.out (fun _ hk => hk.2)⟩, ⟨by (with_reducible repeat (first | apply Kd.R_alloc | apply Kd.R_drewN | apply Kd.R_drew)); exact Kd.R_mono HO158.out (fun _ hk => hk.1)⟩, ⟨by repeat (first | (with_reducible exact HR149.out) | (with_reducible refine Kd.C_alloc ?_ _) | (with_reducible refine Kd.C_drewN ?_ _) | (with_reducible refine Kd.C_drew ?_) | exact HR149.out)⟩, ⟨by repeat (first | (with_reducible first | exact HB.out | apply below_alloc | apply pw_below_drewN | apply below_drew1) | exact HB.out)⟩⟩
                  · rw [if_neg c41] at H
                    have c41b0 : (t160 == 0) = false := beq_eq_false_iff_ne.mpr c41
                    have c41b1 : (t160 != 0) = true := bne_iff_ne.mpr c41
                    (first | rw [c41b0] | (simp only [i64_w, i32_w]; rw [c41b0]) | skip)
                    have H' := Aside0.mk H
                    clear H
                    go_wp2
                    go_meet
                    case rel => exact ⟨_, (true), (by first | rfl | (simp; done) | (simp [*]; done)), H', ⟨by first | omega | exact Nat.le_refl _⟩, ⟨by (with_reducible repeat (first | apply Kd.R_alloc | apply Kd.R_drewN | apply Kd.R_drew)); exact Kd.R_mono HO142.out (fun _ hk => hk.2)⟩, ⟨by (with_reducible repeat (first | apply Kd.R_alloc | apply Kd.R_drewN | apply Kd.R_drew)); exact Kd.R_mono HO158.out (fun _ hk => hk.1)⟩, ⟨by repeat (first | (with_reducible exact HR149.out) | (with_reducible refine Kd.C_alloc ?_ _) | (with_reducible refine Kd.C_drewN ?_ _) | (with_reducible refine Kd.C_drew ?_) | exact HR149.out)⟩, ⟨by repeat (first | (with_reducible first | exact HB.out | apply below_alloc | apply pw_below_drewN | apply below_drew1) | exact HB.out)⟩⟩
                case rest =>
                  clear HC24
                  try clear c1
                  try clear c2
                  try clear p2
                  try clear q2
                  try clear c4
                  try clear c6
                  try clear p6
                  try clear c8
                  try clear c8b0
                  try clear c8b1
                  try clear c8b2
                  try clear c11
                  try clear c14
                  try clear c14b0
                  try clear c14b1
                  try clear c15
                  try clear c15b0
                  try clear c15b1
                  try clear c16
                  try clear c17
                  try clear c18
                  try clear c18b0
                  try clear c20
                  try clear c22
                  try clear c25
                  try clear c29
                  try clear q29
                  try clear c41
                  try clear c41b0
                  try clear c41b1
                  try clear c42
                  try clear c42b0
                  try clear c42b1
                  try clear c43
                  try clear c43b0
                  try clear c43b1
                  try clear c44
                  try clear c44b0
                  try clear c44b1
                  try clear q029
                  try clear q29
                  obtain ⟨kq, x112_23, rfl, HA, HJ23, HO_9, HO_12, HR149, HB⟩ := hcut
                  cases kq with
                  | zero => exact absurd HA.out (by simp [pylonlaw18_RatchetLooks.j0])
                  | succ kj23 =>
                    have H := HA.out
                    clear HA
                    simp only [pylonlaw18_RatchetLooks.j0] at H
                    by_cases c45 : x112_23 = true
                    · subst c45
                      have H1 : (some false) = some r := by rw [if_pos rfl] at H; exact H
                      clear H
                      have H := H1
                      clear H1
                      obtain rfl := Option.some.inj H
                      go_wp2
                      go_ret
                      exact ⟨by first | rfl | (simp [errW_none, errW_some] <;> rfl) | (simp only [← hji12]; first | rfl | (simp [errW_none, errW_some] <;> rfl)) | (simp [*, errW_none, errW_some] <;> rfl), by repeat (first | (with_reducible first | exact HB.out | apply below_alloc | apply pw_below_drewN | apply below_drew1) | exact HB.out)⟩
                    · replace c45 := Bool.eq_false_iff.mpr c45
                      subst c45
                      have H1 : (pylonlaw18_RatchetLooks.l0 kj23 t140 y156 t159 t161 t163 t165 t167 0 (y156.length : Int) 0) = some r := by rw [if_neg (show ¬ (false = true) by decide)] at H; exact H
                      clear H
                      have H := H1
                      clear H1
                      have H' := Aside0.mk H
                      clear H
                      go_wp2
                      go_loopg [23, 115] kj23 (fun kq v23 v115 w' => ∃ (x23_2 : Int) (x115_2 : Int), v23 = .int .i64 x23_2 ∧ v115 = .int .i64 x115_2 ∧ Aside0 (pylonlaw18_RatchetLooks.l0 kq t140 y156 t159 t161 t163 t165 t167 x23_2 (y156.length : Int) x115_2 = some r) ∧ Aside0 (kq ≤ kj23) ∧ Aside0 (Kd.R (Kd.int .i64) 2 w' w.heap.size (fun k_ => some k_ ≠ ((.slice Ao35 y156.length co35) : Value).ownBlock) (.slice Ao27 t140.length co27) t140) ∧ Aside0 (Kd.R (Kd.int .i64) 2 w' w.heap.size (fun k_ => some k_ ≠ ((.slice Ao27 t140.length co27) : Value).ownBlock) (.slice Ao35 y156.length co35) y156) ∧ Aside0 (Kd.C (Kd.int .i64) w' A29 y146.length y146) ∧ Aside0 (Below w.heap.size w w'))
                      case atStart => exact ⟨(0), (0), (by first | rfl | (simp; done) | (simp [*]; done)), (by first | rfl | (simp; done) | (simp [*]; done)), H', ⟨Nat.le_refl _⟩, ⟨by (with_reducible repeat (first | apply Kd.R_alloc | apply Kd.R_drewN | apply Kd.R_drew)); exact HO_9.out⟩, ⟨by (with_reducible repeat (first | apply Kd.R_alloc | apply Kd.R_drewN | apply Kd.R_drew)); exact HO_12.out⟩, ⟨by repeat (first | (with_reducible exact HR149.out) | (with_reducible refine Kd.C_alloc ?_ _) | (with_reducible refine Kd.C_drewN ?_ _) | (with_reducible refine Kd.C_drew ?_) | exact HR149.out)⟩, ⟨by repeat (first | (with_reducible first | exact HB.out | apply below_alloc | apply pw_below_drewN | apply below_drew1) | exact HB.out)⟩⟩
                      case round =>
                        clear H'
                        try clear c1
                        try clear c2
                        try clear p2
                        try clear q2
                        try clear c4
                        try clear c6
                        try clear p6
                        try clear c8
                        try clear c8b0
                        try clear c8b1
                        try clear c8b2
                        try clear c11
                        try clear c14
                        try clear c14b0
                        try clear c14b1
                        try clear c15
                        try clear c15b0
                        try clear c15b1
                        try clear c16
                        try clear c17
                        try clear c18
                        try clear c18b0
                        try clear c20
                        try clear c22
                        try clear c25
                        try clear c29
                        try clear q29
                        try clear c41
                        try clear c41b0
                        try clear c41b1
                        try clear c42
                        try clear c42b0
                        try clear c42b1
                        try clear c43
                        try clear c43b0
                        try clear c43b1
                        try clear c44
                        try clear c44b0
                        try clear c44b1
                        try clear c45
                        try clear p2
                        try clear p6
                        try clear q029
                        try clear q2
                        try clear q29
                        obtain ⟨x23_2, x115_2, rfl, rfl, HA, HK2, HO_9, HO_12, HR149, HB⟩ := hrel
                        cases gk with
                        | zero => exact absurd HA.out (by simp [pylonlaw18_RatchetLooks.l0])
                        | succ k2 =>
                          have H := HA.out
                          clear HA
                          simp only [pylonlaw18_RatchetLooks.l0] at H
                          by_cases c46 : x115_2 < (y156.length : Int)
                          · rw [if_pos c46] at H
                            have c46b0 : decide (x115_2 < (y156.length : Int)) = true := decide_eq_true c46
                            clear c46
                            by_cases c47 : 0 ≤ x115_2
                            · rw [if_pos c47] at H
                              have c47b0 : decide (0 ≤ x115_2) = true := decide_eq_true c47
                              clear c47
                              by_cases c48 : x115_2 < (y156.length : Int)
                              · rw [if_pos c48] at H
                                have c48b0 : decide (x115_2 < (y156.length : Int)) = true := decide_eq_true c48
                                clear c48
                                obtain ⟨ji49, hji49⟩ : ∃ j_ : Int, (mx x23_2 (rd y156 x115_2)) = j_ := ⟨_, rfl⟩
                                replace H : (pylonlaw18_RatchetLooks.l0 k2 t140 y156 t159 t161 t163 t165 t167 ji49 (y156.length : Int) (wrap64 (x115_2 + 1))) = some r := by first | (rw [hji49] at H; exact H) | (simp only [hji49] at H ⊢; exact H)
                                have hji49_ : (if x23_2 < (rd y156 x115_2) then (rd y156 x115_2) else x23_2) = ji49 := hji49
                                have H' := Aside0.mk H
                                clear H
                                have p169 : 0 ≤ (x115_2 : Int) := of_decide_eq_true (by first | (with_reducible assumption) | assumption)
                                have q169 : x115_2 < (y156.length : Int) := of_decide_eq_true (by first | (with_reducible assumption) | assumption)
                                obtain ⟨ad169, e169, hx169_0⟩ := Kd.at_int (Kd.R_reads' HO_12.out).2.2 x115_2 p169 q169
                                cases e169
                                replace p169 := eq_true p169
                                replace q169 := eq_true q169
                                go_wp2
                                go_roundg k2
                                case measure => have := HJ23.out; have := HK2.out; omega
                                case rel => exact ⟨(ji49), (wrap64 (x115_2 + 1)), (by first | rfl | (simp; done) | (simp only [← hji49] <;> (first | rfl | simp)) | (simp [*]; done)), (by first | rfl | (simp; done) | (simp [*]; done)), H', ⟨by have := HJ23.out; have := HK2.out; omega⟩, ⟨by (with_reducible repeat (first | apply Kd.R_alloc | apply Kd.R_drewN | apply Kd.R_drew)); exact HO_9.out⟩, ⟨by (with_reducible repeat (first | apply Kd.R_alloc | apply Kd.R_drewN | apply Kd.R_drew)); exact HO_12.out⟩, ⟨by repeat (first | (with_reducible exact HR149.out) | (with_reducible refine Kd.C_alloc ?_ _) | (with_reducible refine Kd.C_drewN ?_ _) | (with_reducible refine Kd.C_drew ?_) | exact HR149.out)⟩, ⟨by repeat (first | (with_reducible first | exact HB.out | apply below_alloc | apply pw_below_drewN | apply below_drew1) | exact HB.out)⟩⟩
                              · rw [if_neg c48] at H
                                exact absurd H (by simp)
                            · rw [if_neg c47] at H
                              exact absurd H (by simp)
                          · rw [if_neg c46] at H
                            have c46b0 : decide (x115_2 < (y156.length : Int)) = false := decide_eq_false c46
                            clear c46
                            obtain ⟨ji50, hji50⟩ : ∃ j_ : Int, (wrap64 ((t140.length : Int) - 1)) = j_ := ⟨_, rfl⟩
                            replace H : (if 0 ≤ (ji50) then (if (ji50) < (t140.length : Int) then (if t159 = t161 then (if t163 = (rd t140 (ji50)) then (if t165 = (rd t140 (ji50)) then (some (t167 == x23_2)) else (some false)) else (some false)) else (some false)) else (none)) else (none)) = some r := by first | (rw [hji50] at H; exact H) | (simp only [hji50] at H ⊢; exact H)
                            have hji50w : (IntKind.i64.wrap ((t140.length : Int) - 1)) = ji50 := (i64_w _).trans hji50
                            by_cases c51 : 0 ≤ (ji50)
                            · rw [if_pos c51] at H
                              have c51b0 : decide (0 ≤ (ji50)) = true := decide_eq_true c51
                              clear c51
                              by_cases c52 : (ji50) < (t140.length : Int)
                              · rw [if_pos c52] at H
                                have c52b0 : decide ((ji50) < (t140.length : Int)) = true := decide_eq_true c52
                                clear c52
                                by_cases c53 : t159 = t161
                                · rw [if_pos c53] at H
                                  have c53b0 : (t159 == t161) = true := beq_iff_eq.mpr c53
                                  have c53b1 : (t159 != t161) = false := bne_eq_false_iff_eq.mpr c53
                                  clear c53
                                  by_cases c54 : t163 = (rd t140 (ji50))
                                  · rw [if_pos c54] at H
                                    have c54b0 : (t163 == (rd t140 (ji50))) = true := beq_iff_eq.mpr c54
                                    have c54b1 : (t163 != (rd t140 (ji50))) = false := bne_eq_false_iff_eq.mpr c54
                                    clear c54
                                    by_cases c55 : t165 = (rd t140 (ji50))
                                    · rw [if_pos c55] at H
                                      have c55b0 : (t165 == (rd t140 (ji50))) = true := beq_iff_eq.mpr c55
                                      have c55b1 : (t165 != (rd t140 (ji50))) = false := bne_eq_false_iff_eq.mpr c55
                                      clear c55
                                      obtain rfl := Option.some.inj H
                                      have p170 : 0 ≤ ((ji50) : Int) := of_decide_eq_true (by first | (with_reducible assumption) | assumption)
                                      have q170 : (ji50) < (t140.length : Int) := of_decide_eq_true (by first | (with_reducible assumption) | assumption)
                                      obtain ⟨ad170, e170, hx170_0⟩ := Kd.at_int (Kd.R_reads' HO_9.out).2.2 (ji50) p170 q170
                                      cases e170
                                      replace p170 := eq_true p170
                                      replace q170 := eq_true q170
                                      go_wp2
                                      go_ret
                                      exact ⟨by first | rfl | (simp [errW_none, errW_some] <;> rfl) | (simp only [← hji12, ← hji50]; first | rfl | (simp [errW_none, errW_some] <;> rfl)) | (simp [*, errW_none, errW_some] <;> rfl), by repeat (first | (with_reducible first | exact HB.out | apply below_alloc | apply pw_below_drewN | apply below_drew1) | exact HB.out)⟩
                                    · rw [if_neg c55] at H
                                      have c55b0 : (t165 == (rd t140 (ji50))) = false := beq_eq_false_iff_ne.mpr c55
                                      have c55b1 : (t165 != (rd t140 (ji50))) = true := bne_iff_ne.mpr c55
                                      obtain rfl := Option.some.inj H
                                      have p170 : 0 ≤ ((ji50) : Int) := of_decide_eq_true (by first | (with_reducible assumption) | assumption)
                                      have q170 : (ji50) < (t140.length : Int) := of_decide_eq_true (by first | (with_reducible assumption) | assumption)
                                      obtain ⟨ad170, e170, hx170_0⟩ := Kd.at_int (Kd.R_reads' HO_9.out).2.2 (ji50) p170 q170
                                      cases e170
                                      replace p170 := eq_true p170
                                      replace q170 := eq_true q170
                                      go_wp2
                                      go_ret
                                      exact ⟨by first | rfl | (simp [errW_none, errW_some] <;> rfl) | (simp only [← hji12, ← hji50]; first | rfl | (simp [errW_none, errW_some] <;> rfl)) | (simp [*, errW_none, errW_some] <;> rfl), by repeat (first | (with_reducible first | exact HB.out | apply below_alloc | apply pw_below_drewN | apply below_drew1) | exact HB.out)⟩
                                  · rw [if_neg c54] at H
                                    have c54b0 : (t163 == (rd t140 (ji50))) = false := beq_eq_false_iff_ne.mpr c54
                                    have c54b1 : (t163 != (rd t140 (ji50))) = true := bne_iff_ne.mpr c54
                                    obtain rfl := Option.some.inj H
                                    have p170 : 0 ≤ ((ji50) : Int) := of_decide_eq_true (by first | (with_reducible assumption) | assumption)
                                    have q170 : (ji50) < (t140.length : Int) := of_decide_eq_true (by first | (with_reducible assumption) | assumption)
                                    obtain ⟨ad170, e170, hx170_0⟩ := Kd.at_int (Kd.R_reads' HO_9.out).2.2 (ji50) p170 q170
                                    cases e170
                                    replace p170 := eq_true p170
                                    replace q170 := eq_true q170
                                    go_wp2
                                    go_ret
                                    exact ⟨by first | rfl | (simp [errW_none, errW_some] <;> rfl) | (simp only [← hji12, ← hji50]; first | rfl | (simp [errW_none, errW_some] <;> rfl)) | (simp [*, errW_none, errW_some] <;> rfl), by repeat (first | (with_reducible first | exact HB.out | apply below_alloc | apply pw_below_drewN | apply below_drew1) | exact HB.out)⟩
                                · rw [if_neg c53] at H
                                  have c53b0 : (t159 == t161) = false := beq_eq_false_iff_ne.mpr c53
                                  have c53b1 : (t159 != t161) = true := bne_iff_ne.mpr c53
                                  obtain rfl := Option.some.inj H
                                  have p170 : 0 ≤ ((ji50) : Int) := of_decide_eq_true (by first | (with_reducible assumption) | assumption)
                                  have q170 : (ji50) < (t140.length : Int) := of_decide_eq_true (by first | (with_reducible assumption) | assumption)
                                  obtain ⟨ad170, e170, hx170_0⟩ := Kd.at_int (Kd.R_reads' HO_9.out).2.2 (ji50) p170 q170
                                  cases e170
                                  replace p170 := eq_true p170
                                  replace q170 := eq_true q170
                                  go_wp2
                                  go_ret
                                  exact ⟨by first | rfl | (simp [errW_none, errW_some] <;> rfl) | (simp only [← hji12, ← hji50]; first | rfl | (simp [errW_none, errW_some] <;> rfl)) | (simp [*, errW_none, errW_some] <;> rfl), by repeat (first | (with_reducible first | exact HB.out | apply below_alloc | apply pw_below_drewN | apply below_drew1) | exact HB.out)⟩
                              · rw [if_neg c52] at H
                                exact absurd H (by simp)
                            · rw [if_neg c51] at H
                              exact absurd H (by simp)
              · rw [if_neg c18] at H
                have c18b0 : decide ((wrap64 ((y156.length : Int) - 1)) < (wrap64 (Int.tmod (IntKind.u64.wrap (a3)) 37))) = false := decide_eq_false c18
                clear c18
                replace H := Option.bind_eq_some_iff.mp H
                obtain ⟨⟨t171, t172⟩, A560, H⟩ := H
                replace H : ((ratchet_Billed.f k y150 (wrap64 (Int.tmod (IntKind.u64.wrap (a2)) 101)) (wrap64 (Int.tmod (IntKind.u64.wrap (a3)) 37))).bind fun bt173 => ((ratchet_Billed.f k t140 0 (wrap64 (Int.tmod (IntKind.u64.wrap (a3)) 37))).bind fun bt175 => ((ratchet_Billed.f k t140 (wrap64 (Int.tmod (IntKind.u64.wrap (a2)) 101)) 0).bind fun bt177 => ((ratchet_Billed.f k y156 100 36).bind fun bt179 => (if t172 = 0 then (if bt173.2 = 0 then (if bt175.2 = 0 then (if bt177.2 = 0 then (pylonlaw18_RatchetLooks.j2 k t140 y156 t171 bt173.1 bt175.1 bt177.1 bt179.1 (bt179.2 != 0)) else (pylonlaw18_RatchetLooks.j2 k t140 y156 t171 bt173.1 bt175.1 bt177.1 bt179.1 true)) else (pylonlaw18_RatchetLooks.j2 k t140 y156 t171 bt173.1 bt175.1 bt177.1 bt179.1 true)) else (pylonlaw18_RatchetLooks.j2 k t140 y156 t171 bt173.1 bt175.1 bt177.1 bt179.1 true)) else (pylonlaw18_RatchetLooks.j2 k t140 y156 t171 bt173.1 bt175.1 bt177.1 bt179.1 true)))))) = some r := H
                have A56 := Aside0.mk A560
                clear A560
                replace H := Option.bind_eq_some_iff.mp H
                obtain ⟨⟨t173, t174⟩, A570, H⟩ := H
                replace H : ((ratchet_Billed.f k t140 0 (wrap64 (Int.tmod (IntKind.u64.wrap (a3)) 37))).bind fun bt175 => ((ratchet_Billed.f k t140 (wrap64 (Int.tmod (IntKind.u64.wrap (a2)) 101)) 0).bind fun bt177 => ((ratchet_Billed.f k y156 100 36).bind fun bt179 => (if t172 = 0 then (if t174 = 0 then (if bt175.2 = 0 then (if bt177.2 = 0 then (pylonlaw18_RatchetLooks.j2 k t140 y156 t171 t173 bt175.1 bt177.1 bt179.1 (bt179.2 != 0)) else (pylonlaw18_RatchetLooks.j2 k t140 y156 t171 t173 bt175.1 bt177.1 bt179.1 true)) else (pylonlaw18_RatchetLooks.j2 k t140 y156 t171 t173 bt175.1 bt177.1 bt179.1 true)) else (pylonlaw18_RatchetLooks.j2 k t140 y156 t171 t173 bt175.1 bt177.1 bt179.1 true)) else (pylonlaw18_RatchetLooks.j2 k t140 y156 t171 t173 bt175.1 bt177.1 bt179.1 true))))) = some r := H
                have A57 := Aside0.mk A570
                clear A570
                replace H := Option.bind_eq_some_iff.mp H
                obtain ⟨⟨t175, t176⟩, A580, H⟩ := H
                replace H : ((ratchet_Billed.f k t140 (wrap64 (Int.tmod (IntKind.u64.wrap (a2)) 101)) 0).bind fun bt177 => ((ratchet_Billed.f k y156 100 36).bind fun bt179 => (if t172 = 0 then (if t174 = 0 then (if t176 = 0 then (if bt177.2 = 0 then (pylonlaw18_RatchetLooks.j2 k t140 y156 t171 t173 t175 bt177.1 bt179.1 (bt179.2 != 0)) else (pylonlaw18_RatchetLooks.j2 k t140 y156 t171 t173 t175 bt177.1 bt179.1 true)) else (pylonlaw18_RatchetLooks.j2 k t140 y156 t171 t173 t175 bt177.1 bt179.1 true)) else (pylonlaw18_RatchetLooks.j2 k t140 y156 t171 t173 t175 bt177.1 bt179.1 true)) else (pylonlaw18_RatchetLooks.j2 k t140 y156 t171 t173 t175 bt177.1 bt179.1 true)))) = some r := H
                have A58 := Aside0.mk A580
                clear A580
                replace H := Option.bind_eq_some_iff.mp H
                obtain ⟨⟨t177, t178⟩, A590, H⟩ := H
                replace H : ((ratchet_Billed.f k y156 100 36).bind fun bt179 => (if t172 = 0 then (if t174 = 0 then (if t176 = 0 then (if t178 = 0 then (pylonlaw18_RatchetLooks.j2 k t140 y156 t171 t173 t175 t177 bt179.1 (bt179.2 != 0)) else (pylonlaw18_RatchetLooks.j2 k t140 y156 t171 t173 t175 t177 bt179.1 true)) else (pylonlaw18_RatchetLooks.j2 k t140 y156 t171 t173 t175 t177 bt179.1 true)) else (pylonlaw18_RatchetLooks.j2 k t140 y156 t171 t173 t175 t177 bt179.1 true)) else (pylonlaw18_RatchetLooks.j2 k t140 y156 t171 t173 t175 t177 bt179.1 true))) = some r := H
                have A59 := Aside0.mk A590
                clear A590
                replace H := Option.bind_eq_some_iff.mp H
                obtain ⟨⟨t179, t180⟩, A600, H⟩ := H
                replace H : (if t172 = 0 then (if t174 = 0 then (if t176 = 0 then (if t178 = 0 then (pylonlaw18_RatchetLooks.j2 k t140 y156 t171 t173 t175 t177 t179 (t180 != 0)) else (pylonlaw18_RatchetLooks.j2 k t140 y156 t171 t173 t175 t177 t179 true)) else (pylonlaw18_RatchetLooks.j2 k t140 y156 t171 t173 t175 t177 t179 true)) else (pylonlaw18_RatchetLooks.j2 k t140 y156 t171 t173 t175 t177 t179 true)) else (pylonlaw18_RatchetLooks.j2 k t140 y156 t171 t173 t175 t177 t179 true)) = some r := H
                have A60 := Aside0.mk A600
                clear A600
                have HC61 := Aside0.mk H
                clear H
                go_enter Try.func11, Try.ntmps11
                try go_wp2_with (first | ((with_reducible refine gate_callee (f := 20) rfl ?_); refine goesL_ (some 26) rfl rfl Try.func20 (by kernel_rfl) rfl #[] rfl (by (try simp only [List.map_toArray, List.map_cons, List.map_nil]); first | done | rfl | (simp only [List.length_drop, List.length_take]; rfl)) ?_; (with_reducible refine (pylonlaw18_awake.calls k  true _ A5.out).mono ?_); rintro e w62 ⟨rfl, hb⟩; refine ⟨_, rfl, ?_⟩; have n0_ := Aside0.mk (below_step (by repeat (first | (with_reducible first | exact HB.out | apply below_alloc | apply pw_below_drewN | apply below_drew1) | exact HB.out)) hb); clear HB; have HB := n0_; clear n0_; (try clear hb); (try clear hb2); (try clear hk); (try clear hi)) | ((with_reducible refine gate_callee (f := 25) rfl ?_); refine goesL_ (some 29) rfl rfl Try.func25 (by kernel_rfl) rfl #[.slice A0 l0.length c0] rfl (by (try simp only [List.map_toArray, List.map_cons, List.map_nil]); first | done | rfl | (simp only [List.length_drop, List.length_take]; rfl)) ?_; (with_reducible refine (pylonlaw18_good.calls k _ _ l0 t140 _ ?side1 ?side2 A7.out).mono ?_); (case side1 => repeat (first | exact (Kd.C_below HR0.out HB.out) | (with_reducible refine Kd.C_alloc ?_ _) | (with_reducible refine Kd.C_drewN ?_ _) | (with_reducible refine Kd.C_drew ?_))); (case side2 => exact HC0.out); rintro e w63 ⟨v141, rfl, ho0, hb⟩; refine ⟨_, rfl, ?_⟩; have n0_ := Aside0.mk (Kd.R_lower ho0 (below_size (by repeat (first | (with_reducible first | exact HB.out | apply below_alloc | apply pw_below_drewN | apply below_drew1) | exact HB.out)))); have n1_ := Aside0.mk (below_step (by repeat (first | (with_reducible first | exact HB.out | apply below_alloc | apply pw_below_drewN | apply below_drew1) | exact HB.out)) hb); clear HB; have HO142 := n0_; have HB := n1_; clear n0_ n1_; (try clear hb); (try clear hb2); (try clear hk); (try clear hi); (try clear ho0); obtain ⟨Ao64, co64, eo64⟩ := Kd.R_slice HO142.out; subst eo64))
                have n0_ := Aside0.mk (Kd.R_drew HO142.out)
                have n1_ := Aside0.mk (below_drew1 HB.out)
                clear HO142
                clear HB
                have HO142 := n0_
                have HB := n1_
                clear n0_ n1_
                have q66 : ((ji12) : Int) ≤ ((t140.length : Int) : Int) := of_decide_eq_true (by first | (with_reducible assumption) | assumption)
                obtain ⟨i066, hi066, _, hsz66, _⟩ := info_parts info2
                have hroom66 : t140.length ≤ co64 := (Kd.R_reads' HO142.out).2.1
                have hC66 : Kd.C (Kd.int .i64) _ Ao64 t140.length t140 := (Kd.R_reads' HO142.out).2.2
                have q066 : (0 : Int) ≤ ((ji12) : Int) := of_decide_eq_true (by first | (with_reducible assumption) | assumption)
                have hcut66 := cut_from (P := Try.prog) 37 2 .i64 Try.underlying37 hi066 1 hsz66 Ao64 t140.length co64 (ji12) q066 q66
                have hr66 := Kd.C_drop (m := ((ji12) : Int).toNat) (c := co64) hC66 (by omega) hroom66
                obtain ⟨A66, hA66⟩ : ∃ A1, A1 = (if co64 = ((ji12) : Int).toNat then Ao64 else (Ao64 : Option Addr).map (·.add (((ji12) : Int).toNat * 1))) := ⟨_, rfl⟩
                obtain ⟨c66, hc66⟩ : ∃ c1, c1 = co64 - ((ji12) : Int).toNat := ⟨_, rfl⟩
                have hy66 : y146.length = t140.length - ((ji12) : Int).toNat := (by rw [Ny146.out, List.length_drop] <;> omega)
                rw [show (t140).drop ((ji12) : Int).toNat = y146 from Ny146.out.symm] at hr66
                replace hr66 : Kd.C (Kd.int .i64) _ A66 y146.length y146 := (by rw [hA66]; exact hr66)
                rw [← hy66, ← hA66, ← hc66] at hcut66
                have HR149 := Aside0.mk hr66
                have HC149 := Aside0.mk (show y146.length ≤ c66 from by rw [hy66, hc66]; exact Nat.sub_le_sub_right hroom66 _)
                clear hr66 hC66 hroom66 hi066 hsz66 hc66
                have KY66 := Aside0.mk hy66
                have KA66 := Aside0.mk hA66
                clear hy66 hA66
                have KL66 := Aside0.mk (show ((ji12) : Int).toNat ≤ t140.length from by omega)
                replace q66 := eq_true q66
                refine start_ (n := 7) (S := fun w' => True) (ds := []) #[false, false, false, false, false, false, false] (by kernel_rfl) rfl rfl trivial (fun hHeld => ?_)
                generalize w63.drew = w65 at HO142 HB HR149 hHeld ⊢
                refine pure_ (i := 0) (N := some 47) (v := ?_) (a' := ?_) #[true, false, false, false, false, false, false] rfl rfl (by kernel_rfl) (fun _ _ _ h => h) (Or.inl ⟨by rfl, ?_⟩) ?_ ?_
                rotate_left
                · intro w'
                  go_simp
                  with_reducible rfl
                rotate_left
                · simp only [Act.put, List.setIfInBounds_toArray, List.set_cons_zero, List.set_cons_succ, i64_w, i32_w]
                  rfl
                refine pure_ (i := 2) (N := some 49) (v := ?_) (a' := ?_) #[true, false, true, false, false, false, false] rfl rfl (by kernel_rfl) (fun _ _ _ h => h) (Or.inl ⟨by rfl, ?_⟩) ?_ ?_
                rotate_left
                · intro w'
                  go_simp
                  with_reducible rfl
                rotate_left
                · simp only [Act.put, List.setIfInBounds_toArray, List.set_cons_zero, List.set_cons_succ, i64_w, i32_w]
                  rfl
                refine pure_ (i := 3) (N := some 50) (v := ?_) (a' := ?_) #[true, false, true, true, false, false, false] rfl rfl (by kernel_rfl) (fun _ _ _ h => h) (Or.inl ⟨by rfl, ?_⟩) ?_ ?_
                rotate_left
                · intro w'
                  go_simp
                  with_reducible rfl
                rotate_left
                · simp only [Act.put, List.setIfInBounds_toArray, List.set_cons_zero, List.set_cons_succ, i64_w, i32_w]
                  rfl
                refine pure_ (i := 4) (N := some 51) (v := ?_) (a' := ?_) #[true, false, true, true, true, false, false] rfl rfl (by kernel_rfl) (fun _ _ _ h => h) (Or.inl ⟨by rfl, ?_⟩) ?_ ?_
                rotate_left
                · intro w'
                  go_simp
                  with_reducible rfl
                rotate_left
                · simp only [Act.put, List.setIfInBounds_toArray, List.set_cons_zero, List.set_cons_succ, i64_w, i32_w]
                  rfl
                refine one_ (i := 1) (N := some 48) #[true, true, true, true, true, false, false] rfl rfl (by kernel_rfl) (by decide) (fun K hK => ?_)
                refine goes_ Try.func25 (by kernel_rfl) rfl #[.slice A1 l1.length c1] (by rfl) rfl rfl (by (try simp only [List.map_toArray, List.map_cons, List.map_nil]); first | done | rfl | (simp only [List.length_drop, List.length_take]; rfl)) ?_
                with_reducible refine (pylonlaw18_good.calls k _ _ l1 t143 _ ?side1 ?side2 A13.out).mono ?_
                (case side1 => repeat (first | exact (Kd.C_below HR1.out HB.out) | (with_reducible refine Kd.C_alloc ?_ _) | (with_reducible refine Kd.C_drewN ?_ _) | (with_reducible refine Kd.C_drew ?_)))
                (case side2 => exact HC1.out)
                rintro e w67 ⟨v144, rfl, ho0, hb⟩
                refine ⟨_, rfl, ?_⟩
                have n0_ := Aside0.mk (Kd.R_elder' (by (with_reducible repeat (first | apply Kd.R_alloc | apply Kd.R_drewN | apply Kd.R_drew)); exact HO142.out) (Kd.R_base ho0) hb)
                have n1_ := Aside0.mk (Kd.R_lower (Kd.R_new' ho0 (Kd.R_lt (by (with_reducible repeat (first | apply Kd.R_alloc | apply Kd.R_drewN | apply Kd.R_drew)); exact HO142.out))) (below_size (by repeat (first | (with_reducible first | exact HB.out | apply below_alloc | apply pw_below_drewN | apply below_drew1) | exact HB.out))))
                have n2_ := Aside0.mk (Kd.C_below (by repeat (first | (with_reducible exact HR149.out) | (with_reducible refine Kd.C_alloc ?_ _) | (with_reducible refine Kd.C_drewN ?_ _) | (with_reducible refine Kd.C_drew ?_) | exact HR149.out)) hb)
                have n3_ := Aside0.mk (below_step (by repeat (first | (with_reducible first | exact HB.out | apply below_alloc | apply pw_below_drewN | apply below_drew1) | exact HB.out)) hb)
                clear HO142
                clear HR149
                clear HB
                have HO142 := n0_
                have HO145 := n1_
                have HR149 := n2_
                have HB := n3_
                clear n0_ n1_ n2_ n3_
                (try clear hb)
                (try clear hb2)
                (try clear hk)
                (try clear hi)
                (try clear ho0)
                refine hK.out _ _ trivial (fun hHeld => ?_)
                clear hK K
                refine norm_ (a' := ?_) ?_ ?_
                rotate_left
                · show Act.put _ (some 48) _ = _
                  simp only [Act.put, List.setIfInBounds_toArray, List.set_cons_zero, List.set_cons_succ, i64_w, i32_w]
                  rfl
                refine one_ (i := 5) (N := some 52) #[true, true, true, true, true, true, false] rfl rfl (by kernel_rfl) (by decide) (fun K hK => ?_)
                refine Kd.R_append_rows_step (Kd.int .i64) (w0 := w) w.heap.size (by rfl) (.tmp 48) (.tmp 51) 37 2 (.int .i64 0) 8 rfl Try.underlying37 info2 rfl (by decide) (by omega) v144 t143 y146 _ _ _ (fun k_ => some k_ ≠ (.slice Ao64 t140.length co64 : Value).ownBlock) (fun _ => False) rfl rfl ?aO ?aR (fun _ _ h => h) (fun _ h => h.elim) ?aF ?aB ?aS ?aL ?_
                (case aR => repeat (first | exact (by repeat (first | (with_reducible exact HR149.out) | (with_reducible refine Kd.C_alloc ?_ _) | (with_reducible refine Kd.C_drewN ?_ _) | (with_reducible refine Kd.C_drew ?_) | exact HR149.out)) | (with_reducible refine Kd.C_alloc ?_ _) | (with_reducible refine Kd.C_drewN ?_ _) | (with_reducible refine Kd.C_drew ?_)))
                (case aB => exact (by repeat (first | (with_reducible first | exact HB.out | apply below_alloc | apply pw_below_drewN | apply below_drew1) | exact HB.out)))
                (case aF => exact (fun k_ hk => Kd.fresh' (Kd.R_lt (by (with_reducible repeat (first | apply Kd.R_alloc | apply Kd.R_drewN | apply Kd.R_drew)); exact HO142.out)) k_ hk))
                (case aO => exact (by (with_reducible repeat (first | apply Kd.R_alloc | apply Kd.R_drewN | apply Kd.R_drew)); exact Kd.R_mono HO145.out (fun _ hk => hk.2)))
                (case aS => exact (below_size (by repeat (first | (with_reducible first | exact HB.out | apply below_alloc | apply pw_below_drewN | apply below_drew1) | exact HB.out))))
                (case aL => have := LMc16.out; omega)
                intro v151 w68 ho hb hg hat
                rw [← Ny150.out] at ho
                have n0_ := Aside0.mk (Kd.R_after (ok := (fun _ => True)) (by (with_reducible repeat (first | apply Kd.R_alloc | apply Kd.R_drewN | apply Kd.R_drew)); exact HO142.out) hg hat)
                have n1_ := Aside0.mk (hb)
                have n2_ := Aside0.mk ((show Kd.C (Kd.int .i64) w68 A66 y146.length y146 from by rw [Ny146.out, KA66.out]; exact Kd.C_drop (m := ((ji12) : Int).toNat) (c := co64) ((Kd.R_reads' (Kd.R_after (ok := (fun _ => True)) (by (with_reducible repeat (first | apply Kd.R_alloc | apply Kd.R_drewN | apply Kd.R_drew)); exact HO142.out) hg hat)).2.2) KL66.out ((Kd.R_reads' (Kd.R_after (ok := (fun _ => True)) (by (with_reducible repeat (first | apply Kd.R_alloc | apply Kd.R_drewN | apply Kd.R_drew)); exact HO142.out) hg hat)).2.1)))
                have n3_ := Aside0.mk (ho)
                clear HO142
                clear HB
                clear HR149
                clear HO145
                have HO142 := n0_
                have HB := n1_
                have HR149 := n2_
                have HO152 := n3_
                clear n0_ n1_ n2_ n3_
                clear ho hb hg hat
                refine hK.out _ _ trivial (fun hHeld => ?_)
                clear hK K
                refine norm_ (a' := ?_) ?_ ?_
                rotate_left
                · show Act.put _ (some 52) _ = _
                  simp only [Act.put, List.setIfInBounds_toArray, List.set_cons_zero, List.set_cons_succ, i64_w, i32_w]
                  rfl
                refine pure_ (i := 6) (N := some 11) (v := ?_) (a' := ?_) #[true, true, true, true, true, true, true] rfl rfl (by kernel_rfl) (fun _ _ _ h => h) (Or.inl ⟨by rfl, ?_⟩) ?_ ?_
                rotate_left
                · intro w'
                  go_simp
                  with_reducible rfl
                rotate_left
                · simp only [Act.put, List.setIfInBounds_toArray, List.set_cons_zero, List.set_cons_succ, i64_w, i32_w]
                  rfl
                refine done_ (by kernel_rfl) ?_
                go_upto_region 17 with (first | ((with_reducible refine gate_dst (N := 53) rfl ?_); refine Kd.R_lit (Kd.int .i64) _ 2 ?hg (N := 53) ?hd (xs := ([] : List Int)) (inner := []) (ok := fun _ => True) (okp := fun _ => True) ?hr ?hp (fun _ hk => hk) trivial (Below.refl _ _) (Nat.le_refl _) (by simp) ?_; (case hd => rfl); (case hg => rfl); (case hr => first | (go_simp; done) | (go_simp; rfl)); (case hp => exact (Reps.none _ _)); intro v154 w69 ho70 hb hg_ hnew_; clear hg_ hnew_; (first | rw [← Ny153.out] at ho70 | (simp only [Int.reduceToNat] at ho70; rw [← Ny153.out] at ho70)); have n0_ := Aside0.mk (Kd.R_elder' (by (with_reducible repeat (first | apply Kd.R_alloc | apply Kd.R_drewN | apply Kd.R_drew)); exact HO142.out) (Kd.R_base ho70) hb); have n1_ := Aside0.mk (Kd.R_elder' (by (with_reducible repeat (first | apply Kd.R_alloc | apply Kd.R_drewN | apply Kd.R_drew)); exact HO152.out) (Kd.R_base ho70) hb); have n2_ := Aside0.mk (Kd.R_lower (Kd.R_new' (Kd.R_new' ho70 (Kd.R_lt (by (with_reducible repeat (first | apply Kd.R_alloc | apply Kd.R_drewN | apply Kd.R_drew)); exact HO142.out))) (Kd.R_lt (by (with_reducible repeat (first | apply Kd.R_alloc | apply Kd.R_drewN | apply Kd.R_drew)); exact HO152.out))) (below_size (by repeat (first | (with_reducible first | exact HB.out | apply below_alloc | apply pw_below_drewN | apply below_drew1) | exact HB.out)))); have n3_ := Aside0.mk (Kd.C_below (by repeat (first | (with_reducible exact HR149.out) | (with_reducible refine Kd.C_alloc ?_ _) | (with_reducible refine Kd.C_drewN ?_ _) | (with_reducible refine Kd.C_drew ?_) | exact HR149.out)) hb); have n4_ := Aside0.mk (below_step (by repeat (first | (with_reducible first | exact HB.out | apply below_alloc | apply pw_below_drewN | apply below_drew1) | exact HB.out)) hb); clear HO142; clear HO152; clear HR149; clear HB; have HO142 := n0_; have HO152 := n1_; have HO155 := n2_; have HR149 := n3_; have HB := n4_; clear n0_ n1_ n2_ n3_ n4_; clear hb ho70) | ((with_reducible refine gate_builtin (b := .append) (xs := #[.tmp 53, .tmp 56]) rfl ?_); at_builtin; refine Kd.R_append_rows (Kd.int .i64) (w0 := w) w.heap.size rfl (.tmp 53) (.tmp 56) 37 2 (.int .i64 0) 8 rfl Try.underlying37 info2 rfl (by decide) (by omega) v154 y153 y146 _ _ _ (fun k_ => some k_ ≠ (.slice Ao64 t140.length co64 : Value).ownBlock ∧ some k_ ≠ (v151 : Value).ownBlock) (fun _ => False) rfl rfl ?aO ?aR (fun _ _ h => h) (fun _ h => h.elim) ?aF ?aB ?aS ?aL ?_; (case aR => repeat (first | exact (by repeat (first | (with_reducible exact HR149.out) | (with_reducible refine Kd.C_alloc ?_ _) | (with_reducible refine Kd.C_drewN ?_ _) | (with_reducible refine Kd.C_drew ?_) | exact HR149.out)) | (with_reducible refine Kd.C_alloc ?_ _) | (with_reducible refine Kd.C_drewN ?_ _) | (with_reducible refine Kd.C_drew ?_))); (case aB => exact (by repeat (first | (with_reducible first | exact HB.out | apply below_alloc | apply pw_below_drewN | apply below_drew1) | exact HB.out))); (case aF => exact (fun k_ hk => ⟨Kd.fresh' (Kd.R_lt (by (with_reducible repeat (first | apply Kd.R_alloc | apply Kd.R_drewN | apply Kd.R_drew)); exact HO142.out)) k_ hk, Kd.fresh' (Kd.R_lt (by (with_reducible repeat (first | apply Kd.R_alloc | apply Kd.R_drewN | apply Kd.R_drew)); exact HO152.out)) k_ hk⟩)); (case aO => exact (by (with_reducible repeat (first | apply Kd.R_alloc | apply Kd.R_drewN | apply Kd.R_drew)); exact Kd.R_mono HO155.out (fun _ hk => ⟨hk.1.2, hk.2⟩))); (case aS => exact (below_size (by repeat (first | (with_reducible first | exact HB.out | apply below_alloc | apply pw_below_drewN | apply below_drew1) | exact HB.out)))); (case aL => have := LMc17.out; omega); intro v157 w71 ho hb hg hat; rw [← Ny156.out] at ho; have n0_ := Aside0.mk (Kd.R_after (ok := (fun k_ => some k_ ≠ (v151 : Value).ownBlock)) (by (with_reducible repeat (first | apply Kd.R_alloc | apply Kd.R_drewN | apply Kd.R_drew)); exact Kd.R_mono HO142.out (fun _ hk => ⟨hk.1.2, hk.2⟩)) hg hat); have n1_ := Aside0.mk (Kd.R_after (ok := (fun k_ => some k_ ≠ (.slice Ao64 t140.length co64 : Value).ownBlock)) (by (with_reducible repeat (first | apply Kd.R_alloc | apply Kd.R_drewN | apply Kd.R_drew)); exact HO152.out) hg hat); have n2_ := Aside0.mk (hb); have n3_ := Aside0.mk ((show Kd.C (Kd.int .i64) w71 A66 y146.length y146 from by rw [Ny146.out, KA66.out]; exact Kd.C_drop (m := ((ji12) : Int).toNat) (c := co64) ((Kd.R_reads' (Kd.R_after (ok := (fun k_ => some k_ ≠ (v151 : Value).ownBlock)) (by (with_reducible repeat (first | apply Kd.R_alloc | apply Kd.R_drewN | apply Kd.R_drew)); exact Kd.R_mono HO142.out (fun _ hk => ⟨hk.1.2, hk.2⟩)) hg hat)).2.2) KL66.out ((Kd.R_reads' (Kd.R_after (ok := (fun k_ => some k_ ≠ (v151 : Value).ownBlock)) (by (with_reducible repeat (first | apply Kd.R_alloc | apply Kd.R_drewN | apply Kd.R_drew)); exact Kd.R_mono HO142.out (fun _ hk => ⟨hk.1.2, hk.2⟩)) hg hat)).2.1))); have n4_ := Aside0.mk (ho); clear HO142; clear HO152; clear HB; clear HR149; clear HO155; have HO142 := n0_; have HO152 := n1_; have HB := n2_; have HR149 := n3_; have HO158 := n4_; clear n0_ n1_ n2_ n3_ n4_; clear ho hb hg hat; obtain ⟨Ao72, co72, eo72⟩ := Kd.R_slice HO158.out; subst eo72) | ((with_reducible refine gate_callee (f := 22) rfl ?_); refine goesL_ (some 68) rfl rfl Try.func22 (by kernel_rfl) rfl #[.slice Ao64 t140.length co64, .int .i64 (wrap64 (Int.tmod (IntKind.u64.wrap (a2)) 101)), .int .i64 (wrap64 (Int.tmod (IntKind.u64.wrap (a3)) 37))] rfl (by (try simp only [List.map_toArray, List.map_cons, List.map_nil]); first | done | rfl | (simp only [List.length_drop, List.length_take]; rfl)) ?_; (with_reducible refine (ratchet_Billed.calls k _ _ t140 (wrap64 (Int.tmod (IntKind.u64.wrap (a2)) 101)) (wrap64 (Int.tmod (IntKind.u64.wrap (a3)) 37)) t171 t172 _ ?side1 ?side2 A56.out).mono ?_); (case side1 => repeat (first | exact (Kd.R_reads' HO142.out).2.2 | (with_reducible refine Kd.C_alloc ?_ _) | (with_reducible refine Kd.C_drewN ?_ _) | (with_reducible refine Kd.C_drew ?_))); (case side2 => exact (Kd.R_reads' HO142.out).2.1); rintro e w73 ⟨rfl, hb⟩; refine ⟨_, rfl, ?_⟩; have n0_ := Aside0.mk (Kd.R_below (by (with_reducible repeat (first | apply Kd.R_alloc | apply Kd.R_drewN | apply Kd.R_drew)); exact HO142.out) hb); have n1_ := Aside0.mk (Kd.R_below (by (with_reducible repeat (first | apply Kd.R_alloc | apply Kd.R_drewN | apply Kd.R_drew)); exact HO152.out) hb); have n2_ := Aside0.mk (Kd.R_below (by (with_reducible repeat (first | apply Kd.R_alloc | apply Kd.R_drewN | apply Kd.R_drew)); exact HO158.out) hb); have n3_ := Aside0.mk (Kd.C_below (by repeat (first | (with_reducible exact HR149.out) | (with_reducible refine Kd.C_alloc ?_ _) | (with_reducible refine Kd.C_drewN ?_ _) | (with_reducible refine Kd.C_drew ?_) | exact HR149.out)) hb); have n4_ := Aside0.mk (below_step (by repeat (first | (with_reducible first | exact HB.out | apply below_alloc | apply pw_below_drewN | apply below_drew1) | exact HB.out)) hb); clear HO142; clear HO152; clear HO158; clear HR149; clear HB; have HO142 := n0_; have HO152 := n1_; have HO158 := n2_; have HR149 := n3_; have HB := n4_; clear n0_ n1_ n2_ n3_ n4_; (try clear hb); (try clear hb2); (try clear hk); (try clear hi); obtain ⟨Ao74, co74, eo74⟩ := Kd.R_slice HO152.out; subst eo74) | ((with_reducible refine gate_callee (f := 22) rfl ?_); refine goesL_ (some 75) rfl rfl Try.func22 (by kernel_rfl) rfl #[.slice Ao74 y150.length co74, .int .i64 (wrap64 (Int.tmod (IntKind.u64.wrap (a2)) 101)), .int .i64 (wrap64 (Int.tmod (IntKind.u64.wrap (a3)) 37))] rfl (by (try simp only [List.map_toArray, List.map_cons, List.map_nil]); first | done | rfl | (simp only [List.length_drop, List.length_take]; rfl)) ?_; (with_reducible refine (ratchet_Billed.calls k _ _ y150 (wrap64 (Int.tmod (IntKind.u64.wrap (a2)) 101)) (wrap64 (Int.tmod (IntKind.u64.wrap (a3)) 37)) t173 t174 _ ?side1 ?side2 A57.out).mono ?_); (case side1 => repeat (first | exact (Kd.R_reads' HO152.out).2.2 | (with_reducible refine Kd.C_alloc ?_ _) | (with_reducible refine Kd.C_drewN ?_ _) | (with_reducible refine Kd.C_drew ?_))); (case side2 => exact (Kd.R_reads' HO152.out).2.1); rintro e w75 ⟨rfl, hb⟩; refine ⟨_, rfl, ?_⟩; have n0_ := Aside0.mk (Kd.R_below (by (with_reducible repeat (first | apply Kd.R_alloc | apply Kd.R_drewN | apply Kd.R_drew)); exact HO142.out) hb); have n1_ := Aside0.mk (Kd.R_below (by (with_reducible repeat (first | apply Kd.R_alloc | apply Kd.R_drewN | apply Kd.R_drew)); exact HO152.out) hb); have n2_ := Aside0.mk (Kd.R_below (by (with_reducible repeat (first | apply Kd.R_alloc | apply Kd.R_drewN | apply Kd.R_drew)); exact HO158.out) hb); have n3_ := Aside0.mk (Kd.C_below (by repeat (first | (with_reducible exact HR149.out) | (with_reducible refine Kd.C_alloc ?_ _) | (with_reducible refine Kd.C_drewN ?_ _) | (with_reducible refine Kd.C_drew ?_) | exact HR149.out)) hb); have n4_ := Aside0.mk (below_step (by repeat (first | (with_reducible first | exact HB.out | apply below_alloc | apply pw_below_drewN | apply below_drew1) | exact HB.out)) hb); clear HO142; clear HO152; clear HO158; clear HR149; clear HB; have HO142 := n0_; have HO152 := n1_; have HO158 := n2_; have HR149 := n3_; have HB := n4_; clear n0_ n1_ n2_ n3_ n4_; (try clear hb); (try clear hb2); (try clear hk); (try clear hi)) | ((with_reducible refine gate_callee (f := 22) rfl ?_); refine goesL_ (some 81) rfl rfl Try.func22 (by kernel_rfl) rfl #[.slice Ao64 t140.length co64, .int .i64 0, .int .i64 (wrap64 (Int.tmod (IntKind.u64.wrap (a3)) 37))] rfl (by (try simp only [List.map_toArray, List.map_cons, List.map_nil]); first | done | rfl | (simp only [List.length_drop, List.length_take]; rfl)) ?_; (with_reducible refine (ratchet_Billed.calls k _ _ t140 0 (wrap64 (Int.tmod (IntKind.u64.wrap (a3)) 37)) t175 t176 _ ?side1 ?side2 A58.out).mono ?_); (case side1 => repeat (first | exact (Kd.R_reads' HO142.out).2.2 | (with_reducible refine Kd.C_alloc ?_ _) | (with_reducible refine Kd.C_drewN ?_ _) | (with_reducible refine Kd.C_drew ?_))); (case side2 => exact (Kd.R_reads' HO142.out).2.1); rintro e w76 ⟨rfl, hb⟩; refine ⟨_, rfl, ?_⟩; have n0_ := Aside0.mk (Kd.R_below (by (with_reducible repeat (first | apply Kd.R_alloc | apply Kd.R_drewN | apply Kd.R_drew)); exact HO142.out) hb); have n1_ := Aside0.mk (Kd.R_below (by (with_reducible repeat (first | apply Kd.R_alloc | apply Kd.R_drewN | apply Kd.R_drew)); exact HO152.out) hb); have n2_ := Aside0.mk (Kd.R_below (by (with_reducible repeat (first | apply Kd.R_alloc | apply Kd.R_drewN | apply Kd.R_drew)); exact HO158.out) hb); have n3_ := Aside0.mk (Kd.C_below (by repeat (first | (with_reducible exact HR149.out) | (with_reducible refine Kd.C_alloc ?_ _) | (with_reducible refine Kd.C_drewN ?_ _) | (with_reducible refine Kd.C_drew ?_) | exact HR149.out)) hb); have n4_ := Aside0.mk (below_step (by repeat (first | (with_reducible first | exact HB.out | apply below_alloc | apply pw_below_drewN | apply below_drew1) | exact HB.out)) hb); clear HO142; clear HO152; clear HO158; clear HR149; clear HB; have HO142 := n0_; have HO152 := n1_; have HO158 := n2_; have HR149 := n3_; have HB := n4_; clear n0_ n1_ n2_ n3_ n4_; (try clear hb); (try clear hb2); (try clear hk); (try clear hi)) | ((with_reducible refine gate_callee (f := 22) rfl ?_); refine goesL_ (some 87) rfl rfl Try.func22 (by kernel_rfl) rfl #[.slice Ao64 t140.length co64, .int .i64 (wrap64 (Int.tmod (IntKind.u64.wrap (a2)) 101)), .int .i64 0] rfl (by (try simp only [List.map_toArray, List.map_cons, List.map_nil]); first | done | rfl | (simp only [List.length_drop, List.length_take]; rfl)) ?_; (with_reducible refine (ratchet_Billed.calls k _ _ t140 (wrap64 (Int.tmod (IntKind.u64.wrap (a2)) 101)) 0 t177 t178 _ ?side1 ?side2 A59.out).mono ?_); (case side1 => repeat (first | exact (Kd.R_reads' HO142.out).2.2 | (with_reducible refine Kd.C_alloc ?_ _) | (with_reducible refine Kd.C_drewN ?_ _) | (with_reducible refine Kd.C_drew ?_))); (case side2 => exact (Kd.R_reads' HO142.out).2.1); rintro e w77 ⟨rfl, hb⟩; refine ⟨_, rfl, ?_⟩; have n0_ := Aside0.mk (Kd.R_below (by (with_reducible repeat (first | apply Kd.R_alloc | apply Kd.R_drewN | apply Kd.R_drew)); exact HO142.out) hb); have n1_ := Aside0.mk (Kd.R_below (by (with_reducible repeat (first | apply Kd.R_alloc | apply Kd.R_drewN | apply Kd.R_drew)); exact HO152.out) hb); have n2_ := Aside0.mk (Kd.R_below (by (with_reducible repeat (first | apply Kd.R_alloc | apply Kd.R_drewN | apply Kd.R_drew)); exact HO158.out) hb); have n3_ := Aside0.mk (Kd.C_below (by repeat (first | (with_reducible exact HR149.out) | (with_reducible refine Kd.C_alloc ?_ _) | (with_reducible refine Kd.C_drewN ?_ _) | (with_reducible refine Kd.C_drew ?_) | exact HR149.out)) hb); have n4_ := Aside0.mk (below_step (by repeat (first | (with_reducible first | exact HB.out | apply below_alloc | apply pw_below_drewN | apply below_drew1) | exact HB.out)) hb); clear HO142; clear HO152; clear HO158; clear HR149; clear HB; have HO142 := n0_; have HO152 := n1_; have HO158 := n2_; have HR149 := n3_; have HB := n4_; clear n0_ n1_ n2_ n3_ n4_; (try clear hb); (try clear hb2); (try clear hk); (try clear hi)) | ((with_reducible refine gate_callee (f := 22) rfl ?_); refine goesL_ (some 92) rfl rfl Try.func22 (by kernel_rfl) rfl #[.slice Ao72 y156.length co72, .int .i64 100, .int .i64 36] rfl (by (try simp only [List.map_toArray, List.map_cons, List.map_nil]); first | done | rfl | (simp only [List.length_drop, List.length_take]; rfl)) ?_; (with_reducible refine (ratchet_Billed.calls k _ _ y156 100 36 t179 t180 _ ?side1 ?side2 A60.out).mono ?_); (case side1 => repeat (first | exact (Kd.R_reads' HO158.out).2.2 | (with_reducible refine Kd.C_alloc ?_ _) | (with_reducible refine Kd.C_drewN ?_ _) | (with_reducible refine Kd.C_drew ?_))); (case side2 => exact (Kd.R_reads' HO158.out).2.1); rintro e w78 ⟨rfl, hb⟩; refine ⟨_, rfl, ?_⟩; have n0_ := Aside0.mk (Kd.R_below (by (with_reducible repeat (first | apply Kd.R_alloc | apply Kd.R_drewN | apply Kd.R_drew)); exact HO142.out) hb); have n1_ := Aside0.mk (Kd.R_below (by (with_reducible repeat (first | apply Kd.R_alloc | apply Kd.R_drewN | apply Kd.R_drew)); exact HO152.out) hb); have n2_ := Aside0.mk (Kd.R_below (by (with_reducible repeat (first | apply Kd.R_alloc | apply Kd.R_drewN | apply Kd.R_drew)); exact HO158.out) hb); have n3_ := Aside0.mk (Kd.C_below (by repeat (first | (with_reducible exact HR149.out) | (with_reducible refine Kd.C_alloc ?_ _) | (with_reducible refine Kd.C_drewN ?_ _) | (with_reducible refine Kd.C_drew ?_) | exact HR149.out)) hb); have n4_ := Aside0.mk (below_step (by repeat (first | (with_reducible first | exact HB.out | apply below_alloc | apply pw_below_drewN | apply below_drew1) | exact HB.out)) hb); clear HO142; clear HO152; clear HO158; clear HR149; clear HB; have HO142 := n0_; have HO152 := n1_; have HO158 := n2_; have HR149 := n3_; have HB := n4_; clear n0_ n1_ n2_ n3_ n4_; (try clear hb); (try clear hb2); (try clear hk); (try clear hi)))
                (try simp only [Act.put, List.setIfInBounds_toArray, List.set_cons_zero, List.set_cons_succ])
                go_cut [112] (fun v112 wc => ∃ (kq : Nat) (x112_60 : Bool), v112 = .bool x112_60 ∧ Aside0 (pylonlaw18_RatchetLooks.j2 kq t140 y156 t171 t173 t175 t177 t179 x112_60 = some r) ∧ Aside0 (kq ≤ k) ∧ Aside0 (Kd.R (Kd.int .i64) 2 wc w.heap.size (fun k_ => some k_ ≠ ((.slice Ao72 y156.length co72) : Value).ownBlock) (.slice Ao64 t140.length co64) t140) ∧ Aside0 (Kd.R (Kd.int .i64) 2 wc w.heap.size (fun k_ => some k_ ≠ ((.slice Ao64 t140.length co64) : Value).ownBlock) (.slice Ao72 y156.length co72) y156) ∧ Aside0 (Kd.C (Kd.int .i64) wc A66 y146.length y146) ∧ Aside0 (Below w.heap.size w wc))
                case first =>
                  have H := HC61.out
                  clear HC61
                  by_cases c79 : t172 = 0
                  · rw [if_pos c79] at H
                    have c79b0 : (t172 == 0) = true := beq_iff_eq.mpr c79
                    have c79b1 : (t172 != 0) = false := bne_eq_false_iff_eq.mpr c79
                    clear c79
                    (first | rw [c79b0] | (simp only [i64_w, i32_w]; rw [c79b0]) | skip)
                    by_cases c80 : t174 = 0
                    · rw [if_pos c80] at H
                      have c80b0 : (t174 == 0) = true := beq_iff_eq.mpr c80
                      have c80b1 : (t174 != 0) = false := bne_eq_false_iff_eq.mpr c80
                      clear c80
                      by_cases c81 : t176 = 0
                      · rw [if_pos c81] at H
                        have c81b0 : (t176 == 0) = true := beq_iff_eq.mpr c81
                        have c81b1 : (t176 != 0) = false := bne_eq_false_iff_eq.mpr c81
                        clear c81
                        by_cases c82 : t178 = 0
                        · rw [if_pos c82] at H
                          have c82b0 : (t178 == 0) = true := beq_iff_eq.mpr c82
                          have c82b1 : (t178 != 0) = false := bne_eq_false_iff_eq.mpr c82
                          clear c82
                          have H' := Aside0.mk H
                          clear H
                          go_wp2
                          go_meet
                          case rel => exact ⟨_, ((t180 != 0)), (by first | rfl | (simp; done) | (simp [*]; done)), H', ⟨by first | omega | exact Nat.le_refl _⟩, ⟨by (with_reducible repeat (first | apply Kd.R_alloc | apply Kd.R_drewN | apply Kd.R_drew)); exact Kd.R_mono HO142.out (fun _ hk => hk.2)⟩, ⟨by (with_reducible repeat (first | apply Kd.R_alloc | apply Kd.R_drewN | apply Kd.R_drew)); exact Kd.R_mono HO158.out (fun _ hk => hk.1)⟩, ⟨by repeat (first | (with_reducible exact HR149.out) | (with_reducible refine Kd.C_alloc ?_ _) | (with_reducible refine Kd.C_drewN ?_ _) | (with_reducible refine Kd.C_drew ?_) | exact HR149.out)⟩, ⟨by repeat (first | (with_reducible first | exact HB.out | apply below_alloc | apply pw_below_drewN | apply below_drew1) | exact HB.out)⟩⟩
                        · rw [if_neg c82] at H
                          have c82b0 : (t178 == 0) = false := beq_eq_false_iff_ne.mpr c82
                          have c82b1 : (t178 != 0) = true := bne_iff_ne.mpr c82
                          have H' := Aside0.mk H
                          clear H
                          go_wp2
                          go_meet
                          case rel => exact ⟨_, (true), (by first | rfl | (simp; done) | (simp [*]; done)), H', ⟨by first | omega | exact Nat.le_refl _⟩, ⟨by (with_reducible repeat (first | apply Kd.R_alloc | apply Kd.R_drewN | apply Kd.R_drew)); exact Kd.R_mono HO142.out (fun _ hk => hk.2)⟩, ⟨by (with_reducible repeat (first | apply Kd.R_alloc | apply Kd.R_drewN | apply Kd.R_drew)); exact Kd.R_mono HO158.out (fun _ hk => hk.1)⟩, ⟨by repeat (first | (with_reducible exact HR149.out) | (with_reducible refine Kd.C_alloc ?_ _) | (with_reducible refine Kd.C_drewN ?_ _) | (with_reducible refine Kd.C_drew ?_) | exact HR149.out)⟩, ⟨by repeat (first | (with_reducible first | exact HB.out | apply below_alloc | apply pw_below_drewN | apply below_drew1) | exact HB.out)⟩⟩
                      · rw [if_neg c81] at H
                        have c81b0 : (t176 == 0) = false := beq_eq_false_iff_ne.mpr c81
                        have c81b1 : (t176 != 0) = true := bne_iff_ne.mpr c81
                        have H' := Aside0.mk H
                        clear H
                        go_wp2
                        go_meet
                        case rel => exact ⟨_, (true), (by first | rfl | (simp; done) | (simp [*]; done)), H', ⟨by first | omega | exact Nat.le_refl _⟩, ⟨by (with_reducible repeat (first | apply Kd.R_alloc | apply Kd.R_drewN | apply Kd.R_drew)); exact Kd.R_mono HO142.out (fun _ hk => hk.2)⟩, ⟨by (with_reducible repeat (first | apply Kd.R_alloc | apply Kd.R_drewN | apply Kd.R_drew)); exact Kd.R_mono HO158.out (fun _ hk => hk.1)⟩, ⟨by repeat (first | (with_reducible exact HR149.out) | (with_reducible refine Kd.C_alloc ?_ _) | (with_reducible refine Kd.C_drewN ?_ _) | (with_reducible refine Kd.C_drew ?_) | exact HR149.out)⟩, ⟨by repeat (first | (with_reducible first | exact HB.out | apply below_alloc | apply pw_below_drewN | apply below_drew1) | exact HB.out)⟩⟩
                    · rw [if_neg c80] at H
                      have c80b0 : (t174 == 0) = false := beq_eq_false_iff_ne.mpr c80
                      have c80b1 : (t174 != 0) = true := bne_iff_ne.mpr c80
                      have H' := Aside0.mk H
                      clear H
                      go_wp2
                      go_meet
                      case rel => exact ⟨_, (true), (by first | rfl | (simp; done) | (simp [*]; done)), H', ⟨by first | omega | exact Nat.le_refl _⟩, ⟨by (with_reducible repeat (first | apply Kd.R_alloc | apply Kd.R_drewN | apply Kd.R_drew)); exact Kd.R_mono HO142.out (fun _ hk => hk.2)⟩, ⟨by (with_reducible repeat (first | apply Kd.R_alloc | apply Kd.R_drewN | apply Kd.R_drew)); exact Kd.R_mono HO158.out (fun _ hk => hk.1)⟩, ⟨by repeat (first | (with_reducible exact HR149.out) | (with_reducible refine Kd.C_alloc ?_ _) | (with_reducible refine Kd.C_drewN ?_ _) | (with_reducible refine Kd.C_drew ?_) | exact HR149.out)⟩, ⟨by repeat (first | (with_reducible first | exact HB.out | apply below_alloc | apply pw_below_drewN | apply below_drew1) | exact HB.out)⟩⟩
                  · rw [if_neg c79] at H
                    have c79b0 : (t172 == 0) = false := beq_eq_false_iff_ne.mpr c79
                    have c79b1 : (t172 != 0) = true := bne_iff_ne.mpr c79
                    (first | rw [c79b0] | (simp only [i64_w, i32_w]; rw [c79b0]) | skip)
                    have H' := Aside0.mk H
                    clear H
                    go_wp2
                    go_meet
                    case rel => exact ⟨_, (true), (by first | rfl | (simp; done) | (simp [*]; done)), H', ⟨by first | omega | exact Nat.le_refl _⟩, ⟨by (with_reducible repeat (first | apply Kd.R_alloc | apply Kd.R_drewN | apply Kd.R_drew)); exact Kd.R_mono HO142.out (fun _ hk => hk.2)⟩, ⟨by (with_reducible repeat (first | apply Kd.R_alloc | apply Kd.R_drewN | apply Kd.R_drew)); exact Kd.R_mono HO158.out (fun _ hk => hk.1)⟩, ⟨by repeat (first | (with_reducible exact HR149.out) | (with_reducible refine Kd.C_alloc ?_ _) | (with_reducible refine Kd.C_drewN ?_ _) | (with_reducible refine Kd.C_drew ?_) | exact HR149.out)⟩, ⟨by repeat (first | (with_reducible first | exact HB.out | apply below_alloc | apply pw_below_drewN | apply below_drew1) | exact HB.out)⟩⟩
                case rest =>
                  clear HC61
                  try clear c1
                  try clear p1
                  try clear q1
                  try clear hx1
                  try clear c2
                  try clear p2
                  try clear q2
                  try clear c4
                  try clear c5
                  try clear c6
                  try clear p6
                  try clear q6
                  try clear c7
                  try clear c8
                  try clear c8b0
                  try clear c8b1
                  try clear c8b2
                  try clear c11
                  try clear c14
                  try clear c14b0
                  try clear c14b1
                  try clear c15
                  try clear c15b0
                  try clear c15b1
                  try clear c16
                  try clear p16
                  try clear q16
                  try clear hx16
                  try clear c17
                  try clear p17
                  try clear q17
                  try clear hx17
                  try clear c18
                  try clear c18b0
                  try clear c20
                  try clear c22
                  try clear c25
                  try clear c29
                  try clear q29
                  try clear c41
                  try clear c41b0
                  try clear c41b1
                  try clear c42
                  try clear c42b0
                  try clear c42b1
                  try clear c43
                  try clear c43b0
                  try clear c43b1
                  try clear c44
                  try clear c44b0
                  try clear c44b1
                  try clear c45
                  try clear c46
                  try clear c46b0
                  try clear c47
                  try clear c47b0
                  try clear c48
                  try clear c48b0
                  try clear c51
                  try clear c51b0
                  try clear c52
                  try clear c52b0
                  try clear c53
                  try clear c53b0
                  try clear c53b1
                  try clear c54
                  try clear c54b0
                  try clear c54b1
                  try clear c55
                  try clear c55b0
                  try clear c55b1
                  try clear p64
                  try clear c66
                  try clear q66
                  try clear c79
                  try clear c79b0
                  try clear c79b1
                  try clear c80
                  try clear c80b0
                  try clear c80b1
                  try clear c81
                  try clear c81b0
                  try clear c81b1
                  try clear c82
                  try clear c82b0
                  try clear c82b1
                  try clear hx169_0
                  try clear hx170_0
                  try clear p169
                  try clear p170
                  try clear p2
                  try clear p6
                  try clear q029
                  try clear q066
                  try clear q169
                  try clear q170
                  try clear q2
                  try clear q29
                  try clear q66
                  obtain ⟨kq, x112_60, rfl, HA, HJ60, HO_9, HO_12, HR149, HB⟩ := hcut
                  cases kq with
                  | zero => exact absurd HA.out (by simp [pylonlaw18_RatchetLooks.j2])
                  | succ kj60 =>
                    have H := HA.out
                    clear HA
                    simp only [pylonlaw18_RatchetLooks.j2] at H
                    by_cases c83 : x112_60 = true
                    · subst c83
                      have H1 : (some false) = some r := by rw [if_pos rfl] at H; exact H
                      clear H
                      have H := H1
                      clear H1
                      obtain rfl := Option.some.inj H
                      go_wp2
                      go_ret
                      exact ⟨by first | rfl | (simp [errW_none, errW_some] <;> rfl) | (simp only [← hji12]; first | rfl | (simp [errW_none, errW_some] <;> rfl)) | (simp [*, errW_none, errW_some] <;> rfl), by repeat (first | (with_reducible first | exact HB.out | apply below_alloc | apply pw_below_drewN | apply below_drew1) | exact HB.out)⟩
                    · replace c83 := Bool.eq_false_iff.mpr c83
                      subst c83
                      have H1 : (pylonlaw18_RatchetLooks.l0 kj60 t140 y156 t171 t173 t175 t177 t179 0 (y156.length : Int) 0) = some r := by rw [if_neg (show ¬ (false = true) by decide)] at H; exact H
                      clear H
                      have H := H1
                      clear H1
                      have H' := Aside0.mk H
                      clear H
                      go_wp2
                      go_loopg [23, 115] kj60 (fun kq v23 v115 w' => ∃ (x23_2 : Int) (x115_2 : Int), v23 = .int .i64 x23_2 ∧ v115 = .int .i64 x115_2 ∧ Aside0 (pylonlaw18_RatchetLooks.l0 kq t140 y156 t171 t173 t175 t177 t179 x23_2 (y156.length : Int) x115_2 = some r) ∧ Aside0 (kq ≤ kj60) ∧ Aside0 (Kd.R (Kd.int .i64) 2 w' w.heap.size (fun k_ => some k_ ≠ ((.slice Ao72 y156.length co72) : Value).ownBlock) (.slice Ao64 t140.length co64) t140) ∧ Aside0 (Kd.R (Kd.int .i64) 2 w' w.heap.size (fun k_ => some k_ ≠ ((.slice Ao64 t140.length co64) : Value).ownBlock) (.slice Ao72 y156.length co72) y156) ∧ Aside0 (Kd.C (Kd.int .i64) w' A66 y146.length y146) ∧ Aside0 (Below w.heap.size w w'))
                      case atStart => exact ⟨(0), (0), (by first | rfl | (simp; done) | (simp [*]; done)), (by first | rfl | (simp; done) | (simp [*]; done)), H', ⟨Nat.le_refl _⟩, ⟨by (with_reducible repeat (first | apply Kd.R_alloc | apply Kd.R_drewN | apply Kd.R_drew)); exact HO_9.out⟩, ⟨by (with_reducible repeat (first | apply Kd.R_alloc | apply Kd.R_drewN | apply Kd.R_drew)); exact HO_12.out⟩, ⟨by repeat (first | (with_reducible exact HR149.out) | (with_reducible refine Kd.C_alloc ?_ _) | (with_reducible refine Kd.C_drewN ?_ _) | (with_reducible refine Kd.C_drew ?_) | exact HR149.out)⟩, ⟨by repeat (first | (with_reducible first | exact HB.out | apply below_alloc | apply pw_below_drewN | apply below_drew1) | exact HB.out)⟩⟩
                      case round =>
                        clear H'
                        try clear c1
                        try clear p1
                        try clear q1
                        try clear hx1
                        try clear c2
                        try clear p2
                        try clear q2
                        try clear c4
                        try clear c5
                        try clear c6
                        try clear p6
                        try clear q6
                        try clear c7
                        try clear c8
                        try clear c8b0
                        try clear c8b1
                        try clear c8b2
                        try clear c11
                        try clear c14
                        try clear c14b0
                        try clear c14b1
                        try clear c15
                        try clear c15b0
                        try clear c15b1
                        try clear c16
                        try clear p16
                        try clear q16
                        try clear hx16
                        try clear c17
                        try clear p17
                        try clear q17
                        try clear hx17
                        try clear c18
                        try clear c18b0
                        try clear c20
                        try clear c22
                        try clear c25
                        try clear c29
                        try clear q29
                        try clear c41
                        try clear c41b0
                        try clear c41b1
                        try clear c42
                        try clear c42b0
                        try clear c42b1
                        try clear c43
                        try clear c43b0
                        try clear c43b1
                        try clear c44
                        try clear c44b0
                        try clear c44b1
                        try clear c45
                        try clear c46
                        try clear c46b0
                        try clear c47
                        try clear c47b0
                        try clear c48
                        try clear c48b0
                        try clear c51
                        try clear c51b0
                        try clear c52
                        try clear c52b0
                        try clear c53
                        try clear c53b0
                        try clear c53b1
                        try clear c54
                        try clear c54b0
                        try clear c54b1
                        try clear c55
                        try clear c55b0
                        try clear c55b1
                        try clear p64
                        try clear c66
                        try clear q66
                        try clear c79
                        try clear c79b0
                        try clear c79b1
                        try clear c80
                        try clear c80b0
                        try clear c80b1
                        try clear c81
                        try clear c81b0
                        try clear c81b1
                        try clear c82
                        try clear c82b0
                        try clear c82b1
                        try clear c83
                        try clear hx169_0
                        try clear hx170_0
                        try clear p1
                        try clear p16
                        try clear p169
                        try clear p17
                        try clear p170
                        try clear p2
                        try clear p6
                        try clear p64
                        try clear q029
                        try clear q066
                        try clear q1
                        try clear q16
                        try clear q169
                        try clear q17
                        try clear q170
                        try clear q2
                        try clear q29
                        try clear q6
                        try clear q66
                        obtain ⟨x23_2, x115_2, rfl, rfl, HA, HK2, HO_9, HO_12, HR149, HB⟩ := hrel
                        cases gk with
                        | zero => exact absurd HA.out (by simp [pylonlaw18_RatchetLooks.l0])
                        | succ k2 =>
                          have H := HA.out
                          clear HA
                          simp only [pylonlaw18_RatchetLooks.l0] at H
                          by_cases c84 : x115_2 < (y156.length : Int)
                          · rw [if_pos c84] at H
                            have c84b0 : decide (x115_2 < (y156.length : Int)) = true := decide_eq_true c84
                            clear c84
                            by_cases c85 : 0 ≤ x115_2
                            · rw [if_pos c85] at H
                              have c85b0 : decide (0 ≤ x115_2) = true := decide_eq_true c85
                              clear c85
                              by_cases c86 : x115_2 < (y156.length : Int)
                              · rw [if_pos c86] at H
                                have c86b0 : decide (x115_2 < (y156.length : Int)) = true := decide_eq_true c86
                                clear c86
                                obtain ⟨ji87, hji87⟩ : ∃ j_ : Int, (mx x23_2 (rd y156 x115_2)) = j_ := ⟨_, rfl⟩
                                replace H : (pylonlaw18_RatchetLooks.l0 k2 t140 y156 t171 t173 t175 t177 t179 ji87 (y156.length : Int) (wrap64 (x115_2 + 1))) = some r := by first | (rw [hji87] at H; exact H) | (simp only [hji87] at H ⊢; exact H)
                                have hji87_ : (if x23_2 < (rd y156 x115_2) then (rd y156 x115_2) else x23_2) = ji87 := hji87
                                have H' := Aside0.mk H
                                clear H
                                have p169 : 0 ≤ (x115_2 : Int) := of_decide_eq_true (by first | (with_reducible assumption) | assumption)
                                have q169 : x115_2 < (y156.length : Int) := of_decide_eq_true (by first | (with_reducible assumption) | assumption)
                                obtain ⟨ad169, e169, hx169_0⟩ := Kd.at_int (Kd.R_reads' HO_12.out).2.2 x115_2 p169 q169
                                cases e169
                                replace p169 := eq_true p169
                                replace q169 := eq_true q169
                                go_wp2
                                go_roundg k2
                                case measure => have := HJ60.out; have := HK2.out; omega
                                case rel => exact ⟨(ji87), (wrap64 (x115_2 + 1)), (by first | rfl | (simp; done) | (simp only [← hji87] <;> (first | rfl | simp)) | (simp [*]; done)), (by first | rfl | (simp; done) | (simp [*]; done)), H', ⟨by have := HJ60.out; have := HK2.out; omega⟩, ⟨by (with_reducible repeat (first | apply Kd.R_alloc | apply Kd.R_drewN | apply Kd.R_drew)); exact HO_9.out⟩, ⟨by (with_reducible repeat (first | apply Kd.R_alloc | apply Kd.R_drewN | apply Kd.R_drew)); exact HO_12.out⟩, ⟨by repeat (first | (with_reducible exact HR149.out) | (with_reducible refine Kd.C_alloc ?_ _) | (with_reducible refine Kd.C_drewN ?_ _) | (with_reducible refine Kd.C_drew ?_) | exact HR149.out)⟩, ⟨by repeat (first | (with_reducible first | exact HB.out | apply below_alloc | apply pw_below_drewN | apply below_drew1) | exact HB.out)⟩⟩
                              · rw [if_neg c86] at H
                                exact absurd H (by simp)
                            · rw [if_neg c85] at H
                              exact absurd H (by simp)
                          · rw [if_neg c84] at H
                            have c84b0 : decide (x115_2 < (y156.length : Int)) = false := decide_eq_false c84
                            clear c84
                            obtain ⟨ji88, hji88⟩ : ∃ j_ : Int, (wrap64 ((t140.length : Int) - 1)) = j_ := ⟨_, rfl⟩
                            replace H : (if 0 ≤ (ji88) then (if (ji88) < (t140.length : Int) then (if t171 = t173 then (if t175 = (rd t140 (ji88)) then (if t177 = (rd t140 (ji88)) then (some (t179 == x23_2)) else (some false)) else (some false)) else (some false)) else (none)) else (none)) = some r := by first | (rw [hji88] at H; exact H) | (simp only [hji88] at H ⊢; exact H)
                            have hji88w : (IntKind.i64.wrap ((t140.length : Int) - 1)) = ji88 := (i64_w _).trans hji88
                            by_cases c89 : 0 ≤ (ji88)
                            · rw [if_pos c89] at H
                              have c89b0 : decide (0 ≤ (ji88)) = true := decide_eq_true c89
                              clear c89
                              by_cases c90 : (ji88) < (t140.length : Int)
                              · rw [if_pos c90] at H
                                have c90b0 : decide ((ji88) < (t140.length : Int)) = true := decide_eq_true c90
                                clear c90
                                by_cases c91 : t171 = t173
                                · rw [if_pos c91] at H
                                  have c91b0 : (t171 == t173) = true := beq_iff_eq.mpr c91
                                  have c91b1 : (t171 != t173) = false := bne_eq_false_iff_eq.mpr c91
                                  clear c91
                                  by_cases c92 : t175 = (rd t140 (ji88))
                                  · rw [if_pos c92] at H
                                    have c92b0 : (t175 == (rd t140 (ji88))) = true := beq_iff_eq.mpr c92
                                    have c92b1 : (t175 != (rd t140 (ji88))) = false := bne_eq_false_iff_eq.mpr c92
                                    clear c92
                                    by_cases c93 : t177 = (rd t140 (ji88))
                                    · rw [if_pos c93] at H
                                      have c93b0 : (t177 == (rd t140 (ji88))) = true := beq_iff_eq.mpr c93
                                      have c93b1 : (t177 != (rd t140 (ji88))) = false := bne_eq_false_iff_eq.mpr c93
                                      clear c93
                                      obtain rfl := Option.some.inj H
                                      have p170 : 0 ≤ ((ji88) : Int) := of_decide_eq_true (by first | (with_reducible assumption) | assumption)
                                      have q170 : (ji88) < (t140.length : Int) := of_decide_eq_true (by first | (with_reducible assumption) | assumption)
                                      obtain ⟨ad170, e170, hx170_0⟩ := Kd.at_int (Kd.R_reads' HO_9.out).2.2 (ji88) p170 q170
                                      cases e170
                                      replace p170 := eq_true p170
                                      replace q170 := eq_true q170
                                      go_wp2
                                      go_ret
                                      exact ⟨by first | rfl | (simp [errW_none, errW_some] <;> rfl) | (simp only [← hji12, ← hji88]; first | rfl | (simp [errW_none, errW_some] <;> rfl)) | (simp [*, errW_none, errW_some] <;> rfl), by repeat (first | (with_reducible first | exact HB.out | apply below_alloc | apply pw_below_drewN | apply below_drew1) | exact HB.out)⟩
                                    · rw [if_neg c93] at H
                                      have c93b0 : (t177 == (rd t140 (ji88))) = false := beq_eq_false_iff_ne.mpr c93
                                      have c93b1 : (t177 != (rd t140 (ji88))) = true := bne_iff_ne.mpr c93
                                      obtain rfl := Option.some.inj H
                                      have p170 : 0 ≤ ((ji88) : Int) := of_decide_eq_true (by first | (with_reducible assumption) | assumption)
                                      have q170 : (ji88) < (t140.length : Int) := of_decide_eq_true (by first | (with_reducible assumption) | assumption)
                                      obtain ⟨ad170, e170, hx170_0⟩ := Kd.at_int (Kd.R_reads' HO_9.out).2.2 (ji88) p170 q170
                                      cases e170
                                      replace p170 := eq_true p170
                                      replace q170 := eq_true q170
                                      go_wp2
                                      go_ret
                                      exact ⟨by first | rfl | (simp [errW_none, errW_some] <;> rfl) | (simp only [← hji12, ← hji88]; first | rfl | (simp [errW_none, errW_some] <;> rfl)) | (simp [*, errW_none, errW_some] <;> rfl), by repeat (first | (with_reducible first | exact HB.out | apply below_alloc | apply pw_below_drewN | apply below_drew1) | exact HB.out)⟩
                                  · rw [if_neg c92] at H
                                    have c92b0 : (t175 == (rd t140 (ji88))) = false := beq_eq_false_iff_ne.mpr c92
                                    have c92b1 : (t175 != (rd t140 (ji88))) = true := bne_iff_ne.mpr c92
                                    obtain rfl := Option.some.inj H
                                    have p170 : 0 ≤ ((ji88) : Int) := of_decide_eq_true (by first | (with_reducible assumption) | assumption)
                                    have q170 : (ji88) < (t140.length : Int) := of_decide_eq_true (by first | (with_reducible assumption) | assumption)
                                    obtain ⟨ad170, e170, hx170_0⟩ := Kd.at_int (Kd.R_reads' HO_9.out).2.2 (ji88) p170 q170
                                    cases e170
                                    replace p170 := eq_true p170
                                    replace q170 := eq_true q170
                                    go_wp2
                                    go_ret
                                    exact ⟨by first | rfl | (simp [errW_none, errW_some] <;> rfl) | (simp only [← hji12, ← hji88]; first | rfl | (simp [errW_none, errW_some] <;> rfl)) | (simp [*, errW_none, errW_some] <;> rfl), by repeat (first | (with_reducible first | exact HB.out | apply below_alloc | apply pw_below_drewN | apply below_drew1) | exact HB.out)⟩
                                · rw [if_neg c91] at H
                                  have c91b0 : (t171 == t173) = false := beq_eq_false_iff_ne.mpr c91
                                  have c91b1 : (t171 != t173) = true := bne_iff_ne.mpr c91
                                  obtain rfl := Option.some.inj H
                                  have p170 : 0 ≤ ((ji88) : Int) := of_decide_eq_true (by first | (with_reducible assumption) | assumption)
                                  have q170 : (ji88) < (t140.length : Int) := of_decide_eq_true (by first | (with_reducible assumption) | assumption)
                                  obtain ⟨ad170, e170, hx170_0⟩ := Kd.at_int (Kd.R_reads' HO_9.out).2.2 (ji88) p170 q170
                                  cases e170
                                  replace p170 := eq_true p170
                                  replace q170 := eq_true q170
                                  go_wp2
                                  go_ret
                                  exact ⟨by first | rfl | (simp [errW_none, errW_some] <;> rfl) | (simp only [← hji12, ← hji88]; first | rfl | (simp [errW_none, errW_some] <;> rfl)) | (simp [*, errW_none, errW_some] <;> rfl), by repeat (first | (with_reducible first | exact HB.out | apply below_alloc | apply pw_below_drewN | apply below_drew1) | exact HB.out)⟩
                              · rw [if_neg c90] at H
                                exact absurd H (by simp)
                            · rw [if_neg c89] at H
                              exact absurd H (by simp)
            · rw [if_neg c17] at H
              exact absurd H (by simp)
          · rw [if_neg c16] at H
            exact absurd H (by simp)
        · rw [if_neg c15] at H
          exact absurd H (by simp)
      · rw [if_neg c14] at H
        exact absurd H (by simp)
  · replace c6 := Bool.eq_false_iff.mpr c6
    subst c6
    have H1 : (some false) = some r := by rw [if_neg (show ¬ (false = true) by decide)] at H; exact H
    clear H
    have H := H1
    clear H1
    obtain rfl := Option.some.inj H
    go_enter Try.func11, Try.ntmps11
    go_wp2_with (first | ((with_reducible refine gate_callee (f := 20) rfl ?_); refine goesL_ (some 26) rfl rfl Try.func20 (by kernel_rfl) rfl #[] rfl (by (try simp only [List.map_toArray, List.map_cons, List.map_nil]); first | done | rfl | (simp only [List.length_drop, List.length_take]; rfl)) ?_; (with_reducible refine (pylonlaw18_awake.calls k  false _ A5.out).mono ?_); rintro e w94 ⟨rfl, hb⟩; refine ⟨_, rfl, ?_⟩; have n0_ := Aside0.mk (below_step (by repeat (first | (with_reducible first | exact HB.out | apply below_alloc | apply pw_below_drewN | apply below_drew1) | exact HB.out)) hb); clear HB; have HB := n0_; clear n0_; (try clear hb); (try clear hb2); (try clear hk); (try clear hi)))
    go_ret
    exact ⟨by first | rfl | (simp [errW_none, errW_some] <;> rfl) | (simp [*, errW_none, errW_some] <;> rfl), by repeat (first | (with_reducible first | exact HB.out | apply below_alloc | apply pw_below_drewN | apply below_drew1) | exact HB.out)⟩

/-- THE ONE PURE STATEMENT of pylonlaw18_RatchetLooks: yours. -/
def pylonlaw18_RatchetLooks.Pure : Prop := ∀ (l0 : List Int) (l1 : List Int) (a2 : Int) (a3 : Int), l0.length ≤ maxLen → l0.length * 8 ≤ 140737488351232 → (∀ x ∈ l0, (Lit.int .i64 x).wf = true) → l1.length ≤ maxLen → l1.length * 8 ≤ 140737488351232 → (∀ x ∈ l1, (Lit.int .i64 x).wf = true) → (Lit.int .i64 a2).wf = true → (Lit.int .i64 a3).wf = true → ∃ k, pylonlaw18_RatchetLooks.f k l0 l1 a2 a3 = some true
theorem pylonlaw18_RatchetLooks.walk (P : pylonlaw18_RatchetLooks.Pure) (a0 : Option Addr) (len0 cap0 : Nat) (z0 : List Int) (a1 : Option Addr) (len1 cap1 : Nat) (z1 : List Int) (a2 : Int) (a3 : Int) (w : World) (w0 : (a0 = none ∧ len0 = 0 ∧ cap0 = 0 ∧ z0 = []) ∨ ∃ x, a0 = some x ∧ len0 ≤ cap0 ∧ cap0 ≤ maxLen ∧ z0.length = cap0 ∧ (∀ i, i < z0.length → w.cell? (x.add i) = some (.int .i64 (z0.getD i 0))) ∧ ∀ n ∈ z0, (Lit.int .i64 n).wf = true) (y0 : len0 * 8 ≤ 140737488351232) (w1 : (a1 = none ∧ len1 = 0 ∧ cap1 = 0 ∧ z1 = []) ∨ ∃ x, a1 = some x ∧ len1 ≤ cap1 ∧ cap1 ≤ maxLen ∧ z1.length = cap1 ∧ (∀ i, i < z1.length → w.cell? (x.add i) = some (.int .i64 (z1.getD i 0))) ∧ ∀ n ∈ z1, (Lit.int .i64 n).wf = true) (y1 : len1 * 8 ≤ 140737488351232) (w2 : (Lit.int .i64 a2).wf = true) (w3 : (Lit.int .i64 a3).wf = true) :
    Calls Try.prog 11 #[.slice a0 len0 cap0, .slice a1 len1 cap1, .int .i64 a2, .int .i64 a3] w fun e w' => e = .returned (.bool true) ∧ Below w.heap.size w w' := by
  obtain ⟨l0, rfl, hr0, hm0, hw0, hc0⟩ := ReadsInt.ofRowC w0
  obtain ⟨l1, rfl, hr1, hm1, hw1, hc1⟩ := ReadsInt.ofRowC w1
  obtain ⟨k, h⟩ := P l0 l1 a2 a3 hm0 y0 hw0 hm1 y1 hw1 w2 w3
  refine (pylonlaw18_RatchetLooks.calls k _ _ l0 _ _ l1 a2 a3 true w (Kd.C_of_reads (d := (0 : Int)) (h1 := fun _ => rfl) hr0) hc0 (Kd.C_of_reads (d := (0 : Int)) (h1 := fun _ => rfl) hr1) hc1 h).mono ?_
  rintro e w' ⟨rfl, hd⟩
  exact ⟨rfl, hd⟩

end Go.Proofs.Ytbjkjakilpifhaa.PRL
