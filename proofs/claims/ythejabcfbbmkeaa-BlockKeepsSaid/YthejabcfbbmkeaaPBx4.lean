-- Written by a program of this session for this claim (wip/print2.sh). Lean checks it.
import Derived.Test.YthejabcfbbmkeaaPBx0
import Derived.Test.YthejabcfbbmkeaaPBx2
import Derived.Test.YthejabcfbbmkeaaPBx3
namespace Go.Proofs.Ythejabcfbbmkeaa.PB
open Go.Proofs.YthejabcfbbmkeaaW.PrintWords
attribute [local go_sem high] fx_eql fx_neq fx_lss fx_leq fx_gtr fx_geq fx_add fx_sub fx_mul fx_neg fx_toint cxx_add cxx_sub cxx_mul cxx_eql cxx_neq cxx_pick st_float st_complex
open Go.RowKit Go.Proofs.YthejabcfbbmkeaaW.PrintWords Go.Proofs.YthejabcfbbmkeaaW.PrintLast Go.Proofs.YthejabcfbbmkeaaW.PrintMore
attribute [local go_sem] max2_int min2_int max_two min_two max_three min_three max_four min_four   -- for this text's walks alone
set_option linter.unusedVariables false
set_option linter.unusedSimpArgs false

/-! ### block_Price: function 13 -/
mutual
def block_Price.l0 : Nat → List Int → List (S35) → Int → Int → Int → Int → Int → Int → Option (Int × Int)
  | 0, _, _, _, _, _, _, _, _ => none
  | k + 1, x6, x33, x34, x35, x122000, x122001, x123000, x123001 => if x35 < x34 then (if 0 ≤ x35 then (if x35 < (x33.length : Int) then (if ((rd_T35 x33 x35).f1) < 0 then (if x35 < (x6.length : Int) then ((bits_Mul64.f (IntKind.u64.wrap (rd x6 x35)) (IntKind.u64.wrap (wrap64 (-((rd_T35 x33 x35).f1))))).bind fun bt126 => (if c01 0 = true then (if c01 (u64car x123001 bt126.2 0) = true then (block_Price.l0 k x6 x33 x34 (wrap64 (x35 + 1)) x122000 (u64add x122001 bt126.1 (u64car x123001 bt126.2 0)) x123000 (u64add x123001 bt126.2 0)) else (none)) else (none))) else (none)) else (if x35 < (x6.length : Int) then ((bits_Mul64.f (IntKind.u64.wrap (rd x6 x35)) (IntKind.u64.wrap ((rd_T35 x33 x35).f1))).bind fun bt129 => (if c01 0 = true then (if c01 (u64car x123000 bt129.2 0) = true then (block_Price.l0 k x6 x33 x34 (wrap64 (x35 + 1)) (u64add x122000 bt129.1 (u64car x123000 bt129.2 0)) x122001 (u64add x123000 bt129.2 0) x123001) else (none)) else (none))) else (none))) else (none)) else (none)) else (if x122000 < x122001 then (block_Price.j1 k true x122000 x122001 x123000 x123001) else (if x122000 = x122001 then (block_Price.j1 k (decide (x123000 < x123001)) x122000 x122001 x123000 x123001) else (block_Price.j1 k false x122000 x122001 x123000 x123001)))
def block_Price.j1 : Nat → Bool → Int → Int → Int → Int → Option (Int × Int)
  | 0, _, _, _, _, _ => none
  | k + 1, x17, x122000, x122001, x123000, x123001 => if x17 = true then (block_Price.j2 k x17 x122001 x122000 x123001 x123000) else (block_Price.j2 k x17 x122000 x122001 x123000 x123001)
def block_Price.j2 : Nat → Bool → Int → Int → Int → Int → Option (Int × Int)
  | 0, _, _, _, _, _ => none
  | k + 1, x17, x122000, x122001, x123000, x123001 => if c01 0 = true then (if c01 (u64bor x123000 x123001 0) = true then ((bits_Div64.f k (u64sub x122000 x122001 (u64bor x123000 x123001 0)) (u64sub x123000 x123001 0) 1000).bind fun bt131 => (if bt131.2 > 500 then (block_Price.j3 k x17 bt131.1 true) else (if bt131.2 = 500 then (block_Price.j3 k x17 bt131.1 (!x17)) else (block_Price.j3 k x17 bt131.1 false)))) else (none)) else (none)
def block_Price.j3 : Nat → Bool → Int → Bool → Option (Int × Int)
  | 0, _, _, _ => none
  | k + 1, x17, x22, x143 => if x143 = true then (block_Price.j4 k x17 (IntKind.u64.wrap (x22 + 1))) else (block_Price.j4 k x17 x22)
def block_Price.j4 : Nat → Bool → Int → Option (Int × Int)
  | 0, _, _ => none
  | k + 1, x17, x22 => if x22 > 1000000000000000 then (some (0, 5)) else (if x17 = true then (some (wrap64 (-(wrap64 (x22))), 0)) else (some (wrap64 (x22), 0)))
end
def block_Price.f (k : Nat) (l0 : List (S35)) (a1 : Int) : Option (Int × Int) := (block_Parts.f k l0 a1).bind fun bt117 => (if bt117.2 = 0 then (block_Price.l0 k bt117.1 l0 (l0.length : Int) 0 0 0 0 0) else (some (0, bt117.2)))
theorem block_Price.mono_l : ∀ k, (∀ y0 y1 y2 y3 y4 y5 y6 y7, LeO (block_Price.l0 k y0 y1 y2 y3 y4 y5 y6 y7) (block_Price.l0 (k + 1) y0 y1 y2 y3 y4 y5 y6 y7)) ∧ (∀ y0 y1 y2 y3 y4, LeO (block_Price.j1 k y0 y1 y2 y3 y4) (block_Price.j1 (k + 1) y0 y1 y2 y3 y4)) ∧ (∀ y0 y1 y2 y3 y4, LeO (block_Price.j2 k y0 y1 y2 y3 y4) (block_Price.j2 (k + 1) y0 y1 y2 y3 y4)) ∧ (∀ y0 y1 y2, LeO (block_Price.j3 k y0 y1 y2) (block_Price.j3 (k + 1) y0 y1 y2)) ∧ (∀ y0 y1, LeO (block_Price.j4 k y0 y1) (block_Price.j4 (k + 1) y0 y1))
  | 0 => ⟨fun _ _ _ _ _ _ _ _ r h => by simp [block_Price.l0] at h, fun _ _ _ _ _ r h => by simp [block_Price.j1] at h, fun _ _ _ _ _ r h => by simp [block_Price.j2] at h, fun _ _ _ r h => by simp [block_Price.j3] at h, fun _ _ r h => by simp [block_Price.j4] at h⟩
  | k + 1 => by
    obtain ⟨ih0, ih1, ih2, ih3, ih4⟩ := block_Price.mono_l k
    refine ⟨?_, ?_, ?_, ?_, ?_⟩
    · intro y0 y1 y2 y3 y4 y5 y6 y7
      unfold block_Price.l0
      repeat' first
      | (with_reducible exact ih0 _ _ _ _ _ _ _ _)
      | (with_reducible exact ih1 _ _ _ _ _)
      | (with_reducible exact ih2 _ _ _ _ _)
      | (with_reducible exact ih3 _ _ _)
      | (with_reducible exact ih4 _ _)
      | (with_reducible exact bits_Div64.mono _ _ _ _)
      | (with_reducible exact block_Parts.mono _ _ _)
      | (with_reducible exact LeO.refl _)
      | (with_reducible exact LeO.none _)
      | (with_reducible refine LeO.ite ?_ ?_)
      | (with_reducible refine LeO.bind ?_ (fun _ => ?_))
      | exact ih0 _ _ _ _ _ _ _ _
      | exact ih1 _ _ _ _ _
      | exact ih2 _ _ _ _ _
      | exact ih3 _ _ _
      | exact ih4 _ _
      | exact bits_Div64.mono _ _ _ _
      | exact block_Parts.mono _ _ _
      | exact LeO.none _
      | refine LeO.ite ?_ ?_
      | refine LeO.bind ?_ (fun _ => ?_)
    · intro y0 y1 y2 y3 y4
      unfold block_Price.j1
      repeat' first
      | (with_reducible exact ih0 _ _ _ _ _ _ _ _)
      | (with_reducible exact ih1 _ _ _ _ _)
      | (with_reducible exact ih2 _ _ _ _ _)
      | (with_reducible exact ih3 _ _ _)
      | (with_reducible exact ih4 _ _)
      | (with_reducible exact bits_Div64.mono _ _ _ _)
      | (with_reducible exact block_Parts.mono _ _ _)
      | (with_reducible exact LeO.refl _)
      | (with_reducible exact LeO.none _)
      | (with_reducible refine LeO.ite ?_ ?_)
      | (with_reducible refine LeO.bind ?_ (fun _ => ?_))
      | exact ih0 _ _ _ _ _ _ _ _
      | exact ih1 _ _ _ _ _
      | exact ih2 _ _ _ _ _
      | exact ih3 _ _ _
      | exact ih4 _ _
      | exact bits_Div64.mono _ _ _ _
      | exact block_Parts.mono _ _ _
      | exact LeO.none _
      | refine LeO.ite ?_ ?_
      | refine LeO.bind ?_ (fun _ => ?_)
    · intro y0 y1 y2 y3 y4
      unfold block_Price.j2
      repeat' first
      | (with_reducible exact ih0 _ _ _ _ _ _ _ _)
      | (with_reducible exact ih1 _ _ _ _ _)
      | (with_reducible exact ih2 _ _ _ _ _)
      | (with_reducible exact ih3 _ _ _)
      | (with_reducible exact ih4 _ _)
      | (with_reducible exact bits_Div64.mono _ _ _ _)
      | (with_reducible exact block_Parts.mono _ _ _)
      | (with_reducible exact LeO.refl _)
      | (with_reducible exact LeO.none _)
      | (with_reducible refine LeO.ite ?_ ?_)
      | (with_reducible refine LeO.bind ?_ (fun _ => ?_))
      | exact ih0 _ _ _ _ _ _ _ _
      | exact ih1 _ _ _ _ _
      | exact ih2 _ _ _ _ _
      | exact ih3 _ _ _
      | exact ih4 _ _
      | exact bits_Div64.mono _ _ _ _
      | exact block_Parts.mono _ _ _
      | exact LeO.none _
      | refine LeO.ite ?_ ?_
      | refine LeO.bind ?_ (fun _ => ?_)
    · intro y0 y1 y2
      unfold block_Price.j3
      repeat' first
      | (with_reducible exact ih0 _ _ _ _ _ _ _ _)
      | (with_reducible exact ih1 _ _ _ _ _)
      | (with_reducible exact ih2 _ _ _ _ _)
      | (with_reducible exact ih3 _ _ _)
      | (with_reducible exact ih4 _ _)
      | (with_reducible exact bits_Div64.mono _ _ _ _)
      | (with_reducible exact block_Parts.mono _ _ _)
      | (with_reducible exact LeO.refl _)
      | (with_reducible exact LeO.none _)
      | (with_reducible refine LeO.ite ?_ ?_)
      | (with_reducible refine LeO.bind ?_ (fun _ => ?_))
      | exact ih0 _ _ _ _ _ _ _ _
      | exact ih1 _ _ _ _ _
      | exact ih2 _ _ _ _ _
      | exact ih3 _ _ _
      | exact ih4 _ _
      | exact bits_Div64.mono _ _ _ _
      | exact block_Parts.mono _ _ _
      | exact LeO.none _
      | refine LeO.ite ?_ ?_
      | refine LeO.bind ?_ (fun _ => ?_)
    · intro y0 y1
      unfold block_Price.j4
      repeat' first
      | (with_reducible exact ih0 _ _ _ _ _ _ _ _)
      | (with_reducible exact ih1 _ _ _ _ _)
      | (with_reducible exact ih2 _ _ _ _ _)
      | (with_reducible exact ih3 _ _ _)
      | (with_reducible exact ih4 _ _)
      | (with_reducible exact bits_Div64.mono _ _ _ _)
      | (with_reducible exact block_Parts.mono _ _ _)
      | (with_reducible exact LeO.refl _)
      | (with_reducible exact LeO.none _)
      | (with_reducible refine LeO.ite ?_ ?_)
      | (with_reducible refine LeO.bind ?_ (fun _ => ?_))
      | exact ih0 _ _ _ _ _ _ _ _
      | exact ih1 _ _ _ _ _
      | exact ih2 _ _ _ _ _
      | exact ih3 _ _ _
      | exact ih4 _ _
      | exact bits_Div64.mono _ _ _ _
      | exact block_Parts.mono _ _ _
      | exact LeO.none _
      | refine LeO.ite ?_ ?_
      | refine LeO.bind ?_ (fun _ => ?_)
theorem block_Price.mono : ∀ a0 a1 k, LeO (block_Price.f k a0 a1) (block_Price.f (k + 1) a0 a1) := by
  intro a0 a1 k
  obtain ⟨ih0, ih1, ih2, ih3, ih4⟩ := block_Price.mono_l k
  unfold block_Price.f
  repeat' first
      | (with_reducible exact ih0 _ _ _ _ _ _ _ _)
      | (with_reducible exact ih1 _ _ _ _ _)
      | (with_reducible exact ih2 _ _ _ _ _)
      | (with_reducible exact ih3 _ _ _)
      | (with_reducible exact ih4 _ _)
      | (with_reducible exact bits_Div64.mono _ _ _ _)
      | (with_reducible exact block_Parts.mono _ _ _)
      | (with_reducible exact LeO.refl _)
      | (with_reducible exact LeO.none _)
      | (with_reducible refine LeO.ite ?_ ?_)
      | (with_reducible refine LeO.bind ?_ (fun _ => ?_))
      | exact ih0 _ _ _ _ _ _ _ _
      | exact ih1 _ _ _ _ _
      | exact ih2 _ _ _ _ _
      | exact ih3 _ _ _
      | exact ih4 _ _
      | exact bits_Div64.mono _ _ _ _
      | exact block_Parts.mono _ _ _
      | exact LeO.none _
      | refine LeO.ite ?_ ?_
      | refine LeO.bind ?_ (fun _ => ?_)
def block_Price.T18 : Bool × List (List Nat × List Nat) := (true, [([], []), ([0], [0]), ([], []), ([2], [2]), ([], []), ([4], [4]), ([], []), ([6], [6]), ([0, 1, 2, 3, 6, 7], []), ([8, 1, 0, 1, 2, 3, 6, 7], [1, 8]), ([0, 1, 2, 3, 6, 7, 8, 9], []), ([10, 3, 9, 0, 1, 2, 3, 6, 7, 8, 9], [3, 10]), ([0, 1, 2, 3, 4, 5, 6, 7, 8, 9, 10, 11], []), ([12, 5, 11, 0, 1, 2, 3, 4, 5, 6, 7, 8, 9, 10, 11], [5, 12]), ([0, 1, 2, 3, 4, 5, 6, 7, 8, 9, 10, 11, 12, 13], []), ([14, 7, 13, 0, 1, 2, 3, 4, 5, 6, 7, 8, 9, 10, 11, 12, 13], [7, 14])])
def block_Price.B18 : List Nat := [0, 1, 0, 4, 0, 16, 0, 64, 207, 463, 975, 1999, 4095, 8191, 16383, 32767]
theorem block_Price.tab18 : rtab .any (opsOf Try.f13 18) = block_Price.T18 := by kernel_rfl
theorem block_Price.bits18 : waitsOk block_Price.T18.2 block_Price.B18 = true := by kernel_rfl
set_option maxHeartbeats 8000000 in
set_option maxRecDepth 100000 in
theorem block_Price.calls (k : Nat) (A0 : Option Addr) (c0 : Nat) (l0 : List (S35)) (a1 : Int) (r1 : Int) (r2 : Int) (w : World) (hr0 : Kd.C k35 w A0 l0.length l0) (hc0 : l0.length ≤ c0) (h : block_Price.f k l0 a1 = some (r1, r2)) :
    Calls Try.prog 13 #[.slice A0 l0.length c0, .int .i64 a1] w fun e w' => e = .returned (.tuple #[.int .i64 r1, .int .i64 r2]) ∧ Below w.heap.size w w' := by
  have hu44 := Try.underlying44
  have hu35 := Try.underlying35
  have hx23 := @ext23
  have hx24 := @ext24
  have HR0 := Aside0.mk hr0
  have HC0 := Aside0.mk hc0
  clear hr0 hc0
  have HB := Aside0.mk (Below.refl w.heap.size w)
  have H : ((block_Parts.f k l0 a1).bind fun bt117 => (if bt117.2 = 0 then (block_Price.l0 k bt117.1 l0 (l0.length : Int) 0 0 0 0 0) else (some (0, bt117.2)))) = some (r1, r2) := h
  clear h
  replace H := Option.bind_eq_some_iff.mp H
  obtain ⟨⟨t117, t118⟩, A30, H⟩ := H
  replace H : (if t118 = 0 then (block_Price.l0 k t117 l0 (l0.length : Int) 0 0 0 0 0) else (some (0, t118))) = some (r1, r2) := H
  have A3 := Aside0.mk A30
  clear A30
  by_cases c4 : t118 = 0
  · rw [if_pos c4] at H
    have c4b0 : (t118 == 0) = true := beq_iff_eq.mpr c4
    have c4b1 : (t118 != 0) = false := bne_eq_false_iff_eq.mpr c4
    clear c4
    have H' := Aside0.mk H
    clear H
    go_enter Try.func13, Try.ntmps13
    go_wp2_with (first | ((with_reducible refine gate_callee (f := 12) rfl ?_); refine goesL_ (some 27) rfl rfl Try.func12 (by kernel_rfl) rfl #[.slice A0 l0.length c0, .int .i64 a1] rfl (by (try simp only [List.map_toArray, List.map_cons, List.map_nil]); first | done | rfl | (simp only [List.length_drop, List.length_take]; rfl)) ?_; (with_reducible refine (block_Parts.calls k _ _ l0 a1 t117 t118 _ ?side1 ?side2 A3.out).mono ?_); (case side1 => repeat (first | exact HR0.out | (with_reducible refine Kd.C_alloc ?_ _) | (with_reducible refine Kd.C_drewN ?_ _) | (with_reducible refine Kd.C_drew ?_))); (case side2 => exact HC0.out); rintro e w5 ⟨v119, rfl, ho0, hb⟩; refine ⟨_, rfl, ?_⟩; have n0_ := Aside0.mk (Kd.R_lower ho0 (below_size (by repeat (first | (with_reducible first | exact HB.out | apply below_alloc | apply pw_below_drewN | apply below_drew1) | exact HB.out)))); have n1_ := Aside0.mk (below_step (by repeat (first | (with_reducible first | exact HB.out | apply below_alloc | apply pw_below_drewN | apply below_drew1) | exact HB.out)) hb); clear HB; have HO120 := n0_; have HB := n1_; clear n0_ n1_; (try clear hb); (try clear hb2); (try clear hk); (try clear hi); (try clear ho0)) | ((with_reducible refine gate_dst (N := 8) rfl ?_); refine box_event ?hg (N := 8) ?hd (cs := #[.int .u64 0, .int .u64 0]) (t := 44) ?hr ?_; (case hd => rfl); (case hg => rfl); (case hr => first | (go_simp; done) | (go_simp; rfl)); intro gb121 hg w6 hbox hb; have n0_ := Aside0.mk (Kd.R_below (by (with_reducible repeat (first | apply Kd.R_alloc | apply Kd.R_drewN | apply Kd.R_drew)); exact HO120.out) hb); have n1_ := Aside0.mk (below_step (by repeat (first | (with_reducible first | exact HB.out | apply below_alloc | apply pw_below_drewN | apply below_drew1) | exact HB.out)) hb); have n2_ := Aside0.mk (hbox); have n3_ := Aside0.mk ((by rw [hg]; exact (below_size (by repeat (first | (with_reducible first | exact HB.out | apply below_alloc | apply pw_below_drewN | apply below_drew1) | exact HB.out))) : w.heap.size ≤ gb121)); have n4_ := Aside0.mk ((by rw [hg]; exact (below_size (by repeat (first | (with_reducible first | exact HB.out | apply below_alloc | apply pw_below_drewN | apply below_drew1) | exact HB.out))) : w.heap.size ≤ gb121)); clear HO120; clear HB; have HO120 := n0_; have HB := n1_; have BK121 := n2_; have GW121 := n3_; have GE121 := n4_; clear n0_ n1_ n2_ n3_ n4_; clear hb hbox hg) | ((with_reducible refine gate_dst (N := 9) rfl ?_); refine box_event ?hg (N := 9) ?hd (cs := #[.int .u64 0, .int .u64 0]) (t := 44) ?hr ?_; (case hd => rfl); (case hg => rfl); (case hr => first | (go_simp; done) | (go_simp; rfl)); intro gb122 hg w7 hbox hb; have n0_ := Aside0.mk (Kd.R_below (by (with_reducible repeat (first | apply Kd.R_alloc | apply Kd.R_drewN | apply Kd.R_drew)); exact HO120.out) hb); have n1_ := Aside0.mk (blk_below (g := gb121) (o := .cells #[.int .u64 0, .int .u64 0] 44 (0, 0)) (by (with_reducible repeat (first | refine blk_drewN ?_ _ | refine blk_drew ?_ | refine blk_alloc ?_ _)); exact BK121.out) hb); have n2_ := Aside0.mk (below_step (by repeat (first | (with_reducible first | exact HB.out | apply below_alloc | apply pw_below_drewN | apply below_drew1 | refine below_set ?_ GE121.out) | exact HB.out)) hb); have n3_ := Aside0.mk (hbox); have n4_ := Aside0.mk ((by rw [hg]; exact (below_size (by repeat (first | (with_reducible first | exact HB.out | apply below_alloc | apply pw_below_drewN | apply below_drew1 | refine below_set ?_ GE121.out) | exact HB.out))) : w.heap.size ≤ gb122)); have n5_ := Aside0.mk ((by rw [hg]; exact (below_size (by repeat (first | (with_reducible first | exact HB.out | apply below_alloc | apply pw_below_drewN | apply below_drew1 | refine below_set ?_ GE121.out) | exact HB.out))) : w.heap.size ≤ gb122)); have n6_ := Aside0.mk ((by rw [hg]; exact Nat.ne_of_lt (blk_lt (g := gb121) (o := .cells #[.int .u64 0, .int .u64 0] 44 (0, 0)) (by (with_reducible repeat (first | refine blk_drewN ?_ _ | refine blk_drew ?_ | refine blk_alloc ?_ _)); exact BK121.out)) : gb121 ≠ gb122)); have n7_ := Aside0.mk ((by rw [hg]; exact Nat.ne_of_gt (blk_lt (g := gb121) (o := .cells #[.int .u64 0, .int .u64 0] 44 (0, 0)) (by (with_reducible repeat (first | refine blk_drewN ?_ _ | refine blk_drew ?_ | refine blk_alloc ?_ _)); exact BK121.out)) : gb122 ≠ gb121)); clear HO120; clear BK121; clear HB; have HO120 := n0_; have BK121 := n1_; have HB := n2_; have BK122 := n3_; have GW122 := n4_; have GE122 := n5_; have NB121_122 := n6_; have NB122_121 := n7_; clear n0_ n1_ n2_ n3_ n4_ n5_ n6_ n7_; clear hb hbox hg))
    go_loopg [35] k (fun kq v35 w' => ∃ (x35_1 : Int) (x122000_1 : Int) (x122001_1 : Int) (x123000_1 : Int) (x123001_1 : Int), v35 = .int .i64 x35_1 ∧ Aside0 (block_Price.l0 kq t117 l0 (l0.length : Int) x35_1 x122000_1 x122001_1 x123000_1 x123001_1 = some (r1, r2)) ∧ Aside0 (kq ≤ k) ∧ Aside0 (Kd.R (Kd.int .i64) 2 w' w.heap.size (fun _ => True) v119 t117) ∧ Aside0 (w'.heap[gb121]? = some (.cells #[.int .u64 x122000_1, .int .u64 x122001_1] 44 (0, 0))) ∧ Aside0 (w'.heap[gb122]? = some (.cells #[.int .u64 x123000_1, .int .u64 x123001_1] 44 (0, 0))) ∧ Aside0 (Below w.heap.size w w'))
    case atStart => exact ⟨(0), (0), (0), (0), (0), (by first | rfl | (simp; done) | (simp [*]; done)), H', ⟨Nat.le_refl _⟩, ⟨by (with_reducible repeat (first | apply Kd.R_alloc | apply Kd.R_drewN | apply Kd.R_drew)); exact HO120.out⟩, ⟨by (with_reducible repeat (first | refine blk_drewN ?_ _ | refine blk_drew ?_ | refine blk_alloc ?_ _)); exact BK121.out⟩, ⟨by (with_reducible repeat (first | refine blk_drewN ?_ _ | refine blk_drew ?_ | refine blk_alloc ?_ _)); exact BK122.out⟩, ⟨by repeat (first | (with_reducible first | exact HB.out | apply below_alloc | apply pw_below_drewN | apply below_drew1 | refine below_set ?_ GE121.out | refine below_set ?_ GE122.out) | exact HB.out)⟩⟩
    case round =>
      clear H'
      try clear c1
      try clear p2
      try clear c4
      try clear c4b0
      try clear c4b1
      obtain ⟨x35_1, x122000_1, x122001_1, x123000_1, x123001_1, rfl, HA, HK1, HO_6, BK121, BK122, HB⟩ := hrel
      cases gk with
      | zero => exact absurd HA.out (by simp [block_Price.l0])
      | succ k1 =>
        have H := HA.out
        clear HA
        simp only [block_Price.l0] at H
        by_cases c8 : x35_1 < (l0.length : Int)
        · rw [if_pos c8] at H
          have c8b0 : decide (x35_1 < (l0.length : Int)) = true := decide_eq_true c8
          clear c8
          by_cases c9 : 0 ≤ x35_1
          · rw [if_pos c9] at H
            have c9b0 : decide (0 ≤ x35_1) = true := decide_eq_true c9
            clear c9
            by_cases c10 : x35_1 < (l0.length : Int)
            · rw [if_pos c10] at H
              have c10b0 : decide (x35_1 < (l0.length : Int)) = true := decide_eq_true c10
              clear c10
              by_cases c11 : ((rd_T35 l0 x35_1).f1) < 0
              · rw [if_pos c11] at H
                have c11b0 : decide (((rd_T35 l0 x35_1).f1) < 0) = true := decide_eq_true c11
                clear c11
                by_cases c12 : x35_1 < (t117.length : Int)
                · rw [if_pos c12] at H
                  have c12b0 : decide (x35_1 < (t117.length : Int)) = true := decide_eq_true c12
                  clear c12
                  replace H := Option.bind_eq_some_iff.mp H
                  obtain ⟨⟨t126, t127⟩, A130, H⟩ := H
                  replace H : (if c01 0 = true then (if c01 (u64car x123001_1 t127 0) = true then (block_Price.l0 k1 t117 l0 (l0.length : Int) (wrap64 (x35_1 + 1)) x122000_1 (u64add x122001_1 t126 (u64car x123001_1 t127 0)) x123000_1 (u64add x123001_1 t127 0)) else (none)) else (none)) = some (r1, r2) := H
                  have A13 := Aside0.mk A130
                  clear A130
                  by_cases c14 : c01 0 = true
                  · rw [if_pos c14] at H
                    have c14b0 := eq_true c14
                    have c14b1 : decide (c01 0 = true) = true := decide_eq_true c14
                    clear c14
                    by_cases c15 : c01 (u64car x123001_1 t127 0) = true
                    · rw [if_pos c15] at H
                      have c15b0 := eq_true c15
                      have c15b1 : decide (c01 (u64car x123001_1 t127 0) = true) = true := decide_eq_true c15
                      clear c15
                      have H' := Aside0.mk H
                      clear H
                      have p123 : 0 ≤ (x35_1 : Int) := of_decide_eq_true (by first | (with_reducible assumption) | assumption)
                      have q123 : x35_1 < (l0.length : Int) := of_decide_eq_true (by first | (with_reducible assumption) | assumption)
                      obtain ⟨ad123, e123, hx123_0, hx123_1⟩ := at_T35 HR0.out x35_1 p123 q123
                      cases e123
                      replace hx123_0 := (HB.out.cell (World.block_lt_of_cell? w _ hx123_0)).trans hx123_0
                      replace hx123_1 := (HB.out.cell (World.block_lt_of_cell? w _ hx123_1)).trans hx123_1
                      replace p123 := eq_true p123
                      replace q123 := eq_true q123
                      try go_wp2_with (first | ((with_reducible refine gate_dst (N := 11) rfl ?_); refine box_event ?hg (N := 11) ?hd (cs := #[.int .i64 0, .int .i64 0]) (t := 35) ?hr ?_; (case hd => rfl); (case hg => rfl); (case hr => first | (go_simp; done) | (go_simp; rfl)); intro gb124 hg w16 hbox hb; have n0_ := Aside0.mk (Kd.R_below (by (with_reducible repeat (first | apply Kd.R_alloc | apply Kd.R_drewN | apply Kd.R_drew)); exact HO_6.out) hb); have n1_ := Aside0.mk (blk_below (g := gb121) (o := .cells #[.int .u64 x122000_1, .int .u64 x122001_1] 44 (0, 0)) (by (with_reducible repeat (first | refine blk_drewN ?_ _ | refine blk_drew ?_ | refine blk_alloc ?_ _)); exact BK121.out) hb); have n2_ := Aside0.mk (blk_below (g := gb122) (o := .cells #[.int .u64 x123000_1, .int .u64 x123001_1] 44 (0, 0)) (by (with_reducible repeat (first | refine blk_drewN ?_ _ | refine blk_drew ?_ | refine blk_alloc ?_ _)); exact BK122.out) hb); have n3_ := Aside0.mk (below_step (by repeat (first | (with_reducible first | exact HB.out | apply below_alloc | apply pw_below_drewN | apply below_drew1 | refine below_set ?_ GE121.out | refine below_set ?_ GE122.out) | exact HB.out)) hb); have n4_ := Aside0.mk (hbox); have n5_ := Aside0.mk ((by rw [hg]; exact (below_size (by repeat (first | (with_reducible first | exact HB.out | apply below_alloc | apply pw_below_drewN | apply below_drew1 | refine below_set ?_ GE121.out | refine below_set ?_ GE122.out) | exact HB.out))) : w.heap.size ≤ gb124)); have n6_ := Aside0.mk ((by rw [hg]; exact (below_size (by repeat (first | (with_reducible first | exact HB.out | apply below_alloc | apply pw_below_drewN | apply below_drew1 | refine below_set ?_ GE121.out | refine below_set ?_ GE122.out) | exact HB.out))) : w.heap.size ≤ gb124)); have n7_ := Aside0.mk ((by rw [hg]; exact Nat.ne_of_lt (blk_lt (g := gb121) (o := .cells #[.int .u64 x122000_1, .int .u64 x122001_1] 44 (0, 0)) (by (with_reducible repeat (first | refine blk_drewN ?_ _ | refine blk_drew ?_ | refine blk_alloc ?_ _)); exact BK121.out)) : gb121 ≠ gb124)); have n8_ := Aside0.mk ((by rw [hg]; exact Nat.ne_of_gt (blk_lt (g := gb121) (o := .cells #[.int .u64 x122000_1, .int .u64 x122001_1] 44 (0, 0)) (by (with_reducible repeat (first | refine blk_drewN ?_ _ | refine blk_drew ?_ | refine blk_alloc ?_ _)); exact BK121.out)) : gb124 ≠ gb121)); have n9_ := Aside0.mk ((by rw [hg]; exact Nat.ne_of_lt (blk_lt (g := gb122) (o := .cells #[.int .u64 x123000_1, .int .u64 x123001_1] 44 (0, 0)) (by (with_reducible repeat (first | refine blk_drewN ?_ _ | refine blk_drew ?_ | refine blk_alloc ?_ _)); exact BK122.out)) : gb122 ≠ gb124)); have n10_ := Aside0.mk ((by rw [hg]; exact Nat.ne_of_gt (blk_lt (g := gb122) (o := .cells #[.int .u64 x123000_1, .int .u64 x123001_1] 44 (0, 0)) (by (with_reducible repeat (first | refine blk_drewN ?_ _ | refine blk_drew ?_ | refine blk_alloc ?_ _)); exact BK122.out)) : gb124 ≠ gb122)); clear HO_6; clear BK121; clear BK122; clear HB; have HO_6 := n0_; have BK121 := n1_; have BK122 := n2_; have HB := n3_; have BK124 := n4_; have GW124 := n5_; have GE124 := n6_; have NB121_124 := n7_; have NB124_121 := n8_; have NB122_124 := n9_; have NB124_122 := n10_; clear n0_ n1_ n2_ n3_ n4_ n5_ n6_ n7_ n8_ n9_ n10_; clear hb hbox hg; have hnb17 := NB124_121.out; have hnc17 := NB121_124.out; have hnb18 := NB124_122.out; have hnc18 := NB122_124.out; have hcz19_0 : w16.cell? ⟨gb124, 0, none⟩ = some (.int .i64 0) := (blk_cell BK124.out 0).trans rfl; have hcz19_1 : w16.cell? ⟨gb124, 1, none⟩ = some (.int .i64 0) := (blk_cell BK124.out 1).trans rfl; have hfz19_0 := blk_frozen BK124.out 0; have hfz19_1 := blk_frozen BK124.out 1))
                      have n0_ : Aside0 (Kd.R (Kd.int .i64) 2 ((w16.setCell ⟨gb124, 0, none⟩ (.int .i64 ((rd_T35 l0 x35_1).f0))).setCell ⟨gb124, 1, none⟩ (.int .i64 ((rd_T35 l0 x35_1).f1))) w.heap.size (fun _ => True) v119 t117) := ⟨by (with_reducible repeat (first | apply Kd.R_alloc | apply Kd.R_drewN | apply Kd.R_drew)); exact Kd.R_mono (Kd.R_far (p := ⟨gb124, 1, none⟩) (Kd.R_far (p := ⟨gb124, 0, none⟩) (Kd.R_types HO_6.out BK124.out (by decide)) (fun _ hk => hk.2) (.int .i64 ((rd_T35 l0 x35_1).f0))) (fun _ hk => hk.2) (.int .i64 ((rd_T35 l0 x35_1).f1))) (fun _ hk => trivial)⟩
                      have n1_ : Aside0 (((w16.setCell ⟨gb124, 0, none⟩ (.int .i64 ((rd_T35 l0 x35_1).f0))).setCell ⟨gb124, 1, none⟩ (.int .i64 ((rd_T35 l0 x35_1).f1))).heap[gb121]? = some (.cells #[.int .u64 x122000_1, .int .u64 x122001_1] 44 (0, 0))) := ⟨by (with_reducible repeat (first | refine blk_drewN ?_ _ | refine blk_drew ?_ | refine blk_alloc ?_ _)); refine blk_far ?_ NB121_124.out _; (with_reducible repeat (first | refine blk_drewN ?_ _ | refine blk_drew ?_ | refine blk_alloc ?_ _)); refine blk_far ?_ NB121_124.out _; (with_reducible repeat (first | refine blk_drewN ?_ _ | refine blk_drew ?_ | refine blk_alloc ?_ _)); exact BK121.out⟩
                      have n2_ : Aside0 (((w16.setCell ⟨gb124, 0, none⟩ (.int .i64 ((rd_T35 l0 x35_1).f0))).setCell ⟨gb124, 1, none⟩ (.int .i64 ((rd_T35 l0 x35_1).f1))).heap[gb122]? = some (.cells #[.int .u64 x123000_1, .int .u64 x123001_1] 44 (0, 0))) := ⟨by (with_reducible repeat (first | refine blk_drewN ?_ _ | refine blk_drew ?_ | refine blk_alloc ?_ _)); refine blk_far ?_ NB122_124.out _; (with_reducible repeat (first | refine blk_drewN ?_ _ | refine blk_drew ?_ | refine blk_alloc ?_ _)); refine blk_far ?_ NB122_124.out _; (with_reducible repeat (first | refine blk_drewN ?_ _ | refine blk_drew ?_ | refine blk_alloc ?_ _)); exact BK122.out⟩
                      have n3_ : Aside0 (((w16.setCell ⟨gb124, 0, none⟩ (.int .i64 ((rd_T35 l0 x35_1).f0))).setCell ⟨gb124, 1, none⟩ (.int .i64 ((rd_T35 l0 x35_1).f1))).heap[gb124]? = some (.cells #[.int .i64 ((rd_T35 l0 x35_1).f0), .int .i64 ((rd_T35 l0 x35_1).f1)] 35 (0, 0))) := ⟨by (with_reducible repeat (first | refine blk_drewN ?_ _ | refine blk_drew ?_ | refine blk_alloc ?_ _)); refine blk_put (cs := #[.int .i64 ((rd_T35 l0 x35_1).f0), .int .i64 0]) ?_ 1 _ rfl; (with_reducible repeat (first | refine blk_drewN ?_ _ | refine blk_drew ?_ | refine blk_alloc ?_ _)); refine blk_put (cs := #[.int .i64 0, .int .i64 0]) ?_ 0 _ rfl; (with_reducible repeat (first | refine blk_drewN ?_ _ | refine blk_drew ?_ | refine blk_alloc ?_ _)); exact BK124.out⟩
                      have n4_ : Aside0 (Below w.heap.size w ((w16.setCell ⟨gb124, 0, none⟩ (.int .i64 ((rd_T35 l0 x35_1).f0))).setCell ⟨gb124, 1, none⟩ (.int .i64 ((rd_T35 l0 x35_1).f1)))) := ⟨by repeat (first | (with_reducible first | exact HB.out | apply below_alloc | apply pw_below_drewN | apply below_drew1 | refine below_set ?_ GE121.out | refine below_set ?_ GE122.out | refine below_set ?_ GE124.out) | exact HB.out)⟩
                      (try clear HO_6)
                      (try clear BK121)
                      (try clear BK122)
                      (try clear BK124)
                      (try clear HB)
                      generalize ((w16.setCell ⟨gb124, 0, none⟩ (.int .i64 ((rd_T35 l0 x35_1).f0))).setCell ⟨gb124, 1, none⟩ (.int .i64 ((rd_T35 l0 x35_1).f1))) = w20 at n0_ n1_ n2_ n3_ n4_ ⊢
                      have HO_6 := n0_
                      have BK121 := n1_
                      have BK122 := n2_
                      have BK124 := n3_
                      have HB := n4_
                      clear n0_ n1_ n2_ n3_ n4_
                      have n0_ := Aside0.mk (Kd.R_drew HO_6.out)
                      have n1_ := Aside0.mk (blk_drew BK121.out)
                      have n2_ := Aside0.mk (blk_drew BK122.out)
                      have n3_ := Aside0.mk (blk_drew BK124.out)
                      have n4_ := Aside0.mk (below_drew1 HB.out)
                      clear HO_6
                      clear BK121
                      clear BK122
                      clear BK124
                      clear HB
                      have HO_6 := n0_
                      have BK121 := n1_
                      have BK122 := n2_
                      have BK124 := n3_
                      have HB := n4_
                      clear n0_ n1_ n2_ n3_ n4_
                      refine start_ (n := 4) (S := fun w' => w'.cell? ⟨gb124, 0, none⟩ = some (.int .i64 ((rd_T35 l0 x35_1).f0)) ∧ w'.cell? ⟨gb124, 1, none⟩ = some (.int .i64 ((rd_T35 l0 x35_1).f1))) (ds := []) #[false, false, false, false] (by kernel_rfl) rfl rfl ⟨(blk_cell BK124.out 0).trans rfl, (blk_cell BK124.out 1).trans rfl⟩ (fun hHeld => ?_)
                      generalize w20.drew = w21 at HO_6 BK121 BK122 BK124 HB hHeld ⊢
                      refine pure_ (i := 0) (N := some 40) (v := ?_) (a' := ?_) #[true, false, false, false] rfl rfl (by kernel_rfl) (fun _ _ _ h => h) (Or.inl ⟨by rfl, ?_⟩) ?_ ?_
                      rotate_left
                      · intro w'
                        go_simp
                        with_reducible rfl
                      rotate_left
                      · simp only [Act.put, List.setIfInBounds_toArray, List.set_cons_zero, List.set_cons_succ, i64_w, i32_w]
                        rfl
                      refine pure_ (i := 2) (N := some 12) (v := ?_) (a' := ?_) #[true, false, true, false] rfl rfl (by kernel_rfl) (fun _ _ _ h => h) (Or.inl ⟨by rfl, ?_⟩) ?_ ?_
                      rotate_left
                      · intro w'
                        go_simp
                        with_reducible rfl
                      rotate_left
                      · simp only [Act.put, List.setIfInBounds_toArray, List.set_cons_zero, List.set_cons_succ, i64_w, i32_w]
                        rfl
                      refine take_ (i := 1) (N := some 41) (v := ?_) (a' := ?_) #[true, true, true, false] rfl rfl (by kernel_rfl) (fun _ _ _ h => h) (Or.inl ⟨by rfl, ?_⟩) hHeld ?_ ?_
                      rotate_left
                      · rintro w' ⟨s0, s1⟩
                        go_simp
                        with_reducible rfl
                      rotate_left
                      · simp only [Act.put, List.setIfInBounds_toArray, List.set_cons_zero, List.set_cons_succ, i64_w, i32_w]
                        rfl
                      refine pure_ (i := 3) (N := some 13) (v := ?_) (a' := ?_) #[true, true, true, true] rfl rfl (by kernel_rfl) (fun _ _ _ h => h) (Or.inl ⟨by rfl, ?_⟩) ?_ ?_
                      rotate_left
                      · intro w'
                        go_simp
                        with_reducible rfl
                      rotate_left
                      · simp only [Act.put, List.setIfInBounds_toArray, List.set_cons_zero, List.set_cons_succ, i64_w, i32_w]
                        rfl
                      refine done_ (by kernel_rfl) ?_
                      obtain ⟨Ao22, co22, eo22⟩ := Kd.R_slice HO_6.out
                      subst eo22
                      have p125 : 0 ≤ (x35_1 : Int) := of_decide_eq_true (by first | (with_reducible assumption) | assumption)
                      have q125 : x35_1 < (t117.length : Int) := of_decide_eq_true (by first | (with_reducible assumption) | assumption)
                      obtain ⟨ad125, e125, hx125_0⟩ := Kd.at_int (Kd.R_reads' HO_6.out).2.2 x35_1 p125 q125
                      cases e125
                      replace p125 := eq_true p125
                      replace q125 := eq_true q125
                      try go_wp2_with (first | ((with_reducible refine gate_callee (f := 22) rfl ?_); refine goesL_ (some 54) rfl rfl Try.func22 (by kernel_rfl) rfl #[.int .u64 (IntKind.u64.wrap (rd t117 x35_1)), .int .u64 (IntKind.u64.wrap (wrap64 (-((rd_T35 l0 x35_1).f1))))] rfl (by (try simp only [List.map_toArray, List.map_cons, List.map_nil]); first | done | rfl | (simp only [List.length_drop, List.length_take]; rfl)) ?_; (with_reducible refine (bits_Mul64.calls (IntKind.u64.wrap (rd t117 x35_1)) (IntKind.u64.wrap (wrap64 (-((rd_T35 l0 x35_1).f1)))) t126 t127 _ A13.out).mono ?_); rintro e w' ⟨rfl, ⟨nd, rfl⟩⟩; refine ⟨_, rfl, ?_⟩; (try (rw [drewN_self w21]; generalize hq_ : World.drewN w21 _ = w21; have n0_ : Aside0 (Kd.R (Kd.int .i64) 2 w21 w.heap.size (fun _ => True) (.slice (some ad125) t117.length co22) t117) := ⟨by rw [← hq_]; exact (by (with_reducible repeat (first | apply Kd.R_alloc | apply Kd.R_drewN | apply Kd.R_drew)); exact HO_6.out)⟩; have n1_ : Aside0 (w21.heap[gb121]? = some (.cells #[.int .u64 x122000_1, .int .u64 x122001_1] 44 (0, 0))) := ⟨by rw [← hq_]; exact (by (with_reducible repeat (first | refine blk_drewN ?_ _ | refine blk_drew ?_ | refine blk_alloc ?_ _)); exact BK121.out)⟩; have n2_ : Aside0 (w21.heap[gb122]? = some (.cells #[.int .u64 x123000_1, .int .u64 x123001_1] 44 (0, 0))) := ⟨by rw [← hq_]; exact (by (with_reducible repeat (first | refine blk_drewN ?_ _ | refine blk_drew ?_ | refine blk_alloc ?_ _)); exact BK122.out)⟩; have n3_ : Aside0 (w21.heap[gb124]? = some (.cells #[.int .i64 ((rd_T35 l0 x35_1).f0), .int .i64 ((rd_T35 l0 x35_1).f1)] 35 (0, 0))) := ⟨by rw [← hq_]; exact (by (with_reducible repeat (first | refine blk_drewN ?_ _ | refine blk_drew ?_ | refine blk_alloc ?_ _)); exact BK124.out)⟩; have n4_ : Aside0 (Below w.heap.size w w21) := ⟨by rw [← hq_]; exact (by repeat (first | (with_reducible first | exact HB.out | apply below_alloc | apply pw_below_drewN | apply below_drew1 | refine below_set ?_ GE121.out | refine below_set ?_ GE122.out | refine below_set ?_ GE124.out) | exact HB.out))⟩; clear HO_6 BK121 BK122 BK124 HB hq_; have HO_6 := n0_; have BK121 := n1_; have BK122 := n2_; have BK124 := n3_; have HB := n4_; clear n0_ n1_ n2_ n3_ n4_)); have hnb23 := NB122_121.out; have hnc23 := NB121_122.out; have hcz24_0 : w21.cell? ⟨gb122, 0, none⟩ = some (.int .u64 x123000_1) := (blk_cell BK122.out 0).trans rfl; have hcz24_1 : w21.cell? ⟨gb122, 1, none⟩ = some (.int .u64 x123001_1) := (blk_cell BK122.out 1).trans rfl; have hfz24_0 := blk_frozen BK122.out 0; have hfz24_1 := blk_frozen BK122.out 1; have hcz25_0 : w21.cell? ⟨gb121, 0, none⟩ = some (.int .u64 x122000_1) := (blk_cell BK121.out 0).trans rfl; have hcz25_1 : w21.cell? ⟨gb121, 1, none⟩ = some (.int .u64 x122001_1) := (blk_cell BK121.out 1).trans rfl; have hfz25_0 := blk_frozen BK121.out 0; have hfz25_1 := blk_frozen BK121.out 1))
                      go_roundg k1
                      case measure => have := HK1.out; omega
                      case rel => exact ⟨(wrap64 (x35_1 + 1)), (x122000_1), (u64add x122001_1 t126 (u64car x123001_1 t127 0)), (x123000_1), (u64add x123001_1 t127 0), (by first | rfl | (simp; done) | (simp [*]; done)), H', ⟨by have := HK1.out; omega⟩, ⟨by (with_reducible repeat (first | apply Kd.R_alloc | apply Kd.R_drewN | apply Kd.R_drew)); exact Kd.R_mono (Kd.R_far (p := ⟨gb121, 1, none⟩) (Kd.R_far (p := ⟨gb122, 1, none⟩) (Kd.R_types (Kd.R_types HO_6.out BK122.out (by decide)) BK121.out (by decide)) (fun _ hk => hk.1.2) (.int .u64 (u64add x123001_1 t127 0))) (fun _ hk => hk.2) (.int .u64 (u64add x122001_1 t126 (u64car x123001_1 t127 0)))) (fun _ hk => trivial)⟩, ⟨by (with_reducible repeat (first | refine blk_drewN ?_ _ | refine blk_drew ?_ | refine blk_alloc ?_ _)); refine blk_put (cs := #[.int .u64 x122000_1, .int .u64 x122001_1]) ?_ 1 _ rfl; (with_reducible repeat (first | refine blk_drewN ?_ _ | refine blk_drew ?_ | refine blk_alloc ?_ _)); refine blk_far ?_ NB121_122.out _; (with_reducible repeat (first | refine blk_drewN ?_ _ | refine blk_drew ?_ | refine blk_alloc ?_ _)); exact BK121.out⟩, ⟨by (with_reducible repeat (first | refine blk_drewN ?_ _ | refine blk_drew ?_ | refine blk_alloc ?_ _)); refine blk_far ?_ NB122_121.out _; (with_reducible repeat (first | refine blk_drewN ?_ _ | refine blk_drew ?_ | refine blk_alloc ?_ _)); refine blk_put (cs := #[.int .u64 x123000_1, .int .u64 x123001_1]) ?_ 1 _ rfl; (with_reducible repeat (first | refine blk_drewN ?_ _ | refine blk_drew ?_ | refine blk_alloc ?_ _)); exact BK122.out⟩, ⟨by repeat (first | (with_reducible first | exact HB.out | apply below_alloc | apply pw_below_drewN | apply below_drew1 | refine below_set ?_ GE121.out | refine below_set ?_ GE122.out | refine below_set ?_ GE124.out) | exact HB.out)⟩⟩
                    · rw [if_neg c15] at H
                      exact absurd H (by simp)
                  · rw [if_neg c14] at H
                    exact absurd H (by simp)
                · rw [if_neg c12] at H
                  exact absurd H (by simp)
              · rw [if_neg c11] at H
                have c11b0 : decide (((rd_T35 l0 x35_1).f1) < 0) = false := decide_eq_false c11
                clear c11
                by_cases c26 : x35_1 < (t117.length : Int)
                · rw [if_pos c26] at H
                  have c26b0 : decide (x35_1 < (t117.length : Int)) = true := decide_eq_true c26
                  clear c26
                  replace H := Option.bind_eq_some_iff.mp H
                  obtain ⟨⟨t129, t130⟩, A270, H⟩ := H
                  replace H : (if c01 0 = true then (if c01 (u64car x123000_1 t130 0) = true then (block_Price.l0 k1 t117 l0 (l0.length : Int) (wrap64 (x35_1 + 1)) (u64add x122000_1 t129 (u64car x123000_1 t130 0)) x122001_1 (u64add x123000_1 t130 0) x123001_1) else (none)) else (none)) = some (r1, r2) := H
                  have A27 := Aside0.mk A270
                  clear A270
                  by_cases c28 : c01 0 = true
                  · rw [if_pos c28] at H
                    have c28b0 := eq_true c28
                    have c28b1 : decide (c01 0 = true) = true := decide_eq_true c28
                    clear c28
                    by_cases c29 : c01 (u64car x123000_1 t130 0) = true
                    · rw [if_pos c29] at H
                      have c29b0 := eq_true c29
                      have c29b1 : decide (c01 (u64car x123000_1 t130 0) = true) = true := decide_eq_true c29
                      clear c29
                      have H' := Aside0.mk H
                      clear H
                      have p123 : 0 ≤ (x35_1 : Int) := of_decide_eq_true (by first | (with_reducible assumption) | assumption)
                      have q123 : x35_1 < (l0.length : Int) := of_decide_eq_true (by first | (with_reducible assumption) | assumption)
                      obtain ⟨ad123, e123, hx123_0, hx123_1⟩ := at_T35 HR0.out x35_1 p123 q123
                      cases e123
                      replace hx123_0 := (HB.out.cell (World.block_lt_of_cell? w _ hx123_0)).trans hx123_0
                      replace hx123_1 := (HB.out.cell (World.block_lt_of_cell? w _ hx123_1)).trans hx123_1
                      replace p123 := eq_true p123
                      replace q123 := eq_true q123
                      try go_wp2_with (first | ((with_reducible refine gate_dst (N := 11) rfl ?_); refine box_event ?hg (N := 11) ?hd (cs := #[.int .i64 0, .int .i64 0]) (t := 35) ?hr ?_; (case hd => rfl); (case hg => rfl); (case hr => first | (go_simp; done) | (go_simp; rfl)); intro gb124 hg w30 hbox hb; have n0_ := Aside0.mk (Kd.R_below (by (with_reducible repeat (first | apply Kd.R_alloc | apply Kd.R_drewN | apply Kd.R_drew)); exact HO_6.out) hb); have n1_ := Aside0.mk (blk_below (g := gb121) (o := .cells #[.int .u64 x122000_1, .int .u64 x122001_1] 44 (0, 0)) (by (with_reducible repeat (first | refine blk_drewN ?_ _ | refine blk_drew ?_ | refine blk_alloc ?_ _)); exact BK121.out) hb); have n2_ := Aside0.mk (blk_below (g := gb122) (o := .cells #[.int .u64 x123000_1, .int .u64 x123001_1] 44 (0, 0)) (by (with_reducible repeat (first | refine blk_drewN ?_ _ | refine blk_drew ?_ | refine blk_alloc ?_ _)); exact BK122.out) hb); have n3_ := Aside0.mk (below_step (by repeat (first | (with_reducible first | exact HB.out | apply below_alloc | apply pw_below_drewN | apply below_drew1 | refine below_set ?_ GE121.out | refine below_set ?_ GE122.out) | exact HB.out)) hb); have n4_ := Aside0.mk (hbox); have n5_ := Aside0.mk ((by rw [hg]; exact (below_size (by repeat (first | (with_reducible first | exact HB.out | apply below_alloc | apply pw_below_drewN | apply below_drew1 | refine below_set ?_ GE121.out | refine below_set ?_ GE122.out) | exact HB.out))) : w.heap.size ≤ gb124)); have n6_ := Aside0.mk ((by rw [hg]; exact (below_size (by repeat (first | (with_reducible first | exact HB.out | apply below_alloc | apply pw_below_drewN | apply below_drew1 | refine below_set ?_ GE121.out | refine below_set ?_ GE122.out) | exact HB.out))) : w.heap.size ≤ gb124)); have n7_ := Aside0.mk ((by rw [hg]; exact Nat.ne_of_lt (blk_lt (g := gb121) (o := .cells #[.int .u64 x122000_1, .int .u64 x122001_1] 44 (0, 0)) (by (with_reducible repeat (first | refine blk_drewN ?_ _ | refine blk_drew ?_ | refine blk_alloc ?_ _)); exact BK121.out)) : gb121 ≠ gb124)); have n8_ := Aside0.mk ((by rw [hg]; exact Nat.ne_of_gt (blk_lt (g := gb121) (o := .cells #[.int .u64 x122000_1, .int .u64 x122001_1] 44 (0, 0)) (by (with_reducible repeat (first | refine blk_drewN ?_ _ | refine blk_drew ?_ | refine blk_alloc ?_ _)); exact BK121.out)) : gb124 ≠ gb121)); have n9_ := Aside0.mk ((by rw [hg]; exact Nat.ne_of_lt (blk_lt (g := gb122) (o := .cells #[.int .u64 x123000_1, .int .u64 x123001_1] 44 (0, 0)) (by (with_reducible repeat (first | refine blk_drewN ?_ _ | refine blk_drew ?_ | refine blk_alloc ?_ _)); exact BK122.out)) : gb122 ≠ gb124)); have n10_ := Aside0.mk ((by rw [hg]; exact Nat.ne_of_gt (blk_lt (g := gb122) (o := .cells #[.int .u64 x123000_1, .int .u64 x123001_1] 44 (0, 0)) (by (with_reducible repeat (first | refine blk_drewN ?_ _ | refine blk_drew ?_ | refine blk_alloc ?_ _)); exact BK122.out)) : gb124 ≠ gb122)); clear HO_6; clear BK121; clear BK122; clear HB; have HO_6 := n0_; have BK121 := n1_; have BK122 := n2_; have HB := n3_; have BK124 := n4_; have GW124 := n5_; have GE124 := n6_; have NB121_124 := n7_; have NB124_121 := n8_; have NB122_124 := n9_; have NB124_122 := n10_; clear n0_ n1_ n2_ n3_ n4_ n5_ n6_ n7_ n8_ n9_ n10_; clear hb hbox hg; have hnb31 := NB124_121.out; have hnc31 := NB121_124.out; have hnb32 := NB124_122.out; have hnc32 := NB122_124.out; have hcz33_0 : w30.cell? ⟨gb124, 0, none⟩ = some (.int .i64 0) := (blk_cell BK124.out 0).trans rfl; have hcz33_1 : w30.cell? ⟨gb124, 1, none⟩ = some (.int .i64 0) := (blk_cell BK124.out 1).trans rfl; have hfz33_0 := blk_frozen BK124.out 0; have hfz33_1 := blk_frozen BK124.out 1))
                      have n0_ : Aside0 (Kd.R (Kd.int .i64) 2 ((w30.setCell ⟨gb124, 0, none⟩ (.int .i64 ((rd_T35 l0 x35_1).f0))).setCell ⟨gb124, 1, none⟩ (.int .i64 ((rd_T35 l0 x35_1).f1))) w.heap.size (fun _ => True) v119 t117) := ⟨by (with_reducible repeat (first | apply Kd.R_alloc | apply Kd.R_drewN | apply Kd.R_drew)); exact Kd.R_mono (Kd.R_far (p := ⟨gb124, 1, none⟩) (Kd.R_far (p := ⟨gb124, 0, none⟩) (Kd.R_types HO_6.out BK124.out (by decide)) (fun _ hk => hk.2) (.int .i64 ((rd_T35 l0 x35_1).f0))) (fun _ hk => hk.2) (.int .i64 ((rd_T35 l0 x35_1).f1))) (fun _ hk => trivial)⟩
                      have n1_ : Aside0 (((w30.setCell ⟨gb124, 0, none⟩ (.int .i64 ((rd_T35 l0 x35_1).f0))).setCell ⟨gb124, 1, none⟩ (.int .i64 ((rd_T35 l0 x35_1).f1))).heap[gb121]? = some (.cells #[.int .u64 x122000_1, .int .u64 x122001_1] 44 (0, 0))) := ⟨by (with_reducible repeat (first | refine blk_drewN ?_ _ | refine blk_drew ?_ | refine blk_alloc ?_ _)); refine blk_far ?_ NB121_124.out _; (with_reducible repeat (first | refine blk_drewN ?_ _ | refine blk_drew ?_ | refine blk_alloc ?_ _)); refine blk_far ?_ NB121_124.out _; (with_reducible repeat (first | refine blk_drewN ?_ _ | refine blk_drew ?_ | refine blk_alloc ?_ _)); exact BK121.out⟩
                      have n2_ : Aside0 (((w30.setCell ⟨gb124, 0, none⟩ (.int .i64 ((rd_T35 l0 x35_1).f0))).setCell ⟨gb124, 1, none⟩ (.int .i64 ((rd_T35 l0 x35_1).f1))).heap[gb122]? = some (.cells #[.int .u64 x123000_1, .int .u64 x123001_1] 44 (0, 0))) := ⟨by (with_reducible repeat (first | refine blk_drewN ?_ _ | refine blk_drew ?_ | refine blk_alloc ?_ _)); refine blk_far ?_ NB122_124.out _; (with_reducible repeat (first | refine blk_drewN ?_ _ | refine blk_drew ?_ | refine blk_alloc ?_ _)); refine blk_far ?_ NB122_124.out _; (with_reducible repeat (first | refine blk_drewN ?_ _ | refine blk_drew ?_ | refine blk_alloc ?_ _)); exact BK122.out⟩
                      have n3_ : Aside0 (((w30.setCell ⟨gb124, 0, none⟩ (.int .i64 ((rd_T35 l0 x35_1).f0))).setCell ⟨gb124, 1, none⟩ (.int .i64 ((rd_T35 l0 x35_1).f1))).heap[gb124]? = some (.cells #[.int .i64 ((rd_T35 l0 x35_1).f0), .int .i64 ((rd_T35 l0 x35_1).f1)] 35 (0, 0))) := ⟨by (with_reducible repeat (first | refine blk_drewN ?_ _ | refine blk_drew ?_ | refine blk_alloc ?_ _)); refine blk_put (cs := #[.int .i64 ((rd_T35 l0 x35_1).f0), .int .i64 0]) ?_ 1 _ rfl; (with_reducible repeat (first | refine blk_drewN ?_ _ | refine blk_drew ?_ | refine blk_alloc ?_ _)); refine blk_put (cs := #[.int .i64 0, .int .i64 0]) ?_ 0 _ rfl; (with_reducible repeat (first | refine blk_drewN ?_ _ | refine blk_drew ?_ | refine blk_alloc ?_ _)); exact BK124.out⟩
                      have n4_ : Aside0 (Below w.heap.size w ((w30.setCell ⟨gb124, 0, none⟩ (.int .i64 ((rd_T35 l0 x35_1).f0))).setCell ⟨gb124, 1, none⟩ (.int .i64 ((rd_T35 l0 x35_1).f1)))) := ⟨by repeat (first | (with_reducible first | exact HB.out | apply below_alloc | apply pw_below_drewN | apply below_drew1 | refine below_set ?_ GE121.out | refine below_set ?_ GE122.out | refine below_set ?_ GE124.out) | exact HB.out)⟩
                      (try clear HO_6)
                      (try clear BK121)
                      (try clear BK122)
                      (try clear BK124)
                      (try clear HB)
                      generalize ((w30.setCell ⟨gb124, 0, none⟩ (.int .i64 ((rd_T35 l0 x35_1).f0))).setCell ⟨gb124, 1, none⟩ (.int .i64 ((rd_T35 l0 x35_1).f1))) = w34 at n0_ n1_ n2_ n3_ n4_ ⊢
                      have HO_6 := n0_
                      have BK121 := n1_
                      have BK122 := n2_
                      have BK124 := n3_
                      have HB := n4_
                      clear n0_ n1_ n2_ n3_ n4_
                      have n0_ := Aside0.mk (Kd.R_drew HO_6.out)
                      have n1_ := Aside0.mk (blk_drew BK121.out)
                      have n2_ := Aside0.mk (blk_drew BK122.out)
                      have n3_ := Aside0.mk (blk_drew BK124.out)
                      have n4_ := Aside0.mk (below_drew1 HB.out)
                      clear HO_6
                      clear BK121
                      clear BK122
                      clear BK124
                      clear HB
                      have HO_6 := n0_
                      have BK121 := n1_
                      have BK122 := n2_
                      have BK124 := n3_
                      have HB := n4_
                      clear n0_ n1_ n2_ n3_ n4_
                      refine start_ (n := 4) (S := fun w' => w'.cell? ⟨gb124, 0, none⟩ = some (.int .i64 ((rd_T35 l0 x35_1).f0)) ∧ w'.cell? ⟨gb124, 1, none⟩ = some (.int .i64 ((rd_T35 l0 x35_1).f1))) (ds := []) #[false, false, false, false] (by kernel_rfl) rfl rfl ⟨(blk_cell BK124.out 0).trans rfl, (blk_cell BK124.out 1).trans rfl⟩ (fun hHeld => ?_)
                      generalize w34.drew = w35 at HO_6 BK121 BK122 BK124 HB hHeld ⊢
                      refine pure_ (i := 0) (N := some 40) (v := ?_) (a' := ?_) #[true, false, false, false] rfl rfl (by kernel_rfl) (fun _ _ _ h => h) (Or.inl ⟨by rfl, ?_⟩) ?_ ?_
                      rotate_left
                      · intro w'
                        go_simp
                        with_reducible rfl
                      rotate_left
                      · simp only [Act.put, List.setIfInBounds_toArray, List.set_cons_zero, List.set_cons_succ, i64_w, i32_w]
                        rfl
                      refine pure_ (i := 2) (N := some 12) (v := ?_) (a' := ?_) #[true, false, true, false] rfl rfl (by kernel_rfl) (fun _ _ _ h => h) (Or.inl ⟨by rfl, ?_⟩) ?_ ?_
                      rotate_left
                      · intro w'
                        go_simp
                        with_reducible rfl
                      rotate_left
                      · simp only [Act.put, List.setIfInBounds_toArray, List.set_cons_zero, List.set_cons_succ, i64_w, i32_w]
                        rfl
                      refine take_ (i := 1) (N := some 41) (v := ?_) (a' := ?_) #[true, true, true, false] rfl rfl (by kernel_rfl) (fun _ _ _ h => h) (Or.inl ⟨by rfl, ?_⟩) hHeld ?_ ?_
                      rotate_left
                      · rintro w' ⟨s0, s1⟩
                        go_simp
                        with_reducible rfl
                      rotate_left
                      · simp only [Act.put, List.setIfInBounds_toArray, List.set_cons_zero, List.set_cons_succ, i64_w, i32_w]
                        rfl
                      refine pure_ (i := 3) (N := some 13) (v := ?_) (a' := ?_) #[true, true, true, true] rfl rfl (by kernel_rfl) (fun _ _ _ h => h) (Or.inl ⟨by rfl, ?_⟩) ?_ ?_
                      rotate_left
                      · intro w'
                        go_simp
                        with_reducible rfl
                      rotate_left
                      · simp only [Act.put, List.setIfInBounds_toArray, List.set_cons_zero, List.set_cons_succ, i64_w, i32_w]
                        rfl
                      refine done_ (by kernel_rfl) ?_
                      obtain ⟨Ao36, co36, eo36⟩ := Kd.R_slice HO_6.out
                      subst eo36
                      have p128 : 0 ≤ (x35_1 : Int) := of_decide_eq_true (by first | (with_reducible assumption) | assumption)
                      have q128 : x35_1 < (t117.length : Int) := of_decide_eq_true (by first | (with_reducible assumption) | assumption)
                      obtain ⟨ad128, e128, hx128_0⟩ := Kd.at_int (Kd.R_reads' HO_6.out).2.2 x35_1 p128 q128
                      cases e128
                      replace p128 := eq_true p128
                      replace q128 := eq_true q128
                      try go_wp2_with (first | ((with_reducible refine gate_callee (f := 22) rfl ?_); refine goesL_ (some 54) rfl rfl Try.func22 (by kernel_rfl) rfl #[.int .u64 (IntKind.u64.wrap (rd t117 x35_1)), .int .u64 (IntKind.u64.wrap ((rd_T35 l0 x35_1).f1))] rfl (by (try simp only [List.map_toArray, List.map_cons, List.map_nil]); first | done | rfl | (simp only [List.length_drop, List.length_take]; rfl)) ?_; (with_reducible refine (bits_Mul64.calls (IntKind.u64.wrap (rd t117 x35_1)) (IntKind.u64.wrap ((rd_T35 l0 x35_1).f1)) t129 t130 _ A27.out).mono ?_); rintro e w' ⟨rfl, ⟨nd, rfl⟩⟩; refine ⟨_, rfl, ?_⟩; (try (rw [drewN_self w35]; generalize hq_ : World.drewN w35 _ = w35; have n0_ : Aside0 (Kd.R (Kd.int .i64) 2 w35 w.heap.size (fun _ => True) (.slice (some ad128) t117.length co36) t117) := ⟨by rw [← hq_]; exact (by (with_reducible repeat (first | apply Kd.R_alloc | apply Kd.R_drewN | apply Kd.R_drew)); exact HO_6.out)⟩; have n1_ : Aside0 (w35.heap[gb121]? = some (.cells #[.int .u64 x122000_1, .int .u64 x122001_1] 44 (0, 0))) := ⟨by rw [← hq_]; exact (by (with_reducible repeat (first | refine blk_drewN ?_ _ | refine blk_drew ?_ | refine blk_alloc ?_ _)); exact BK121.out)⟩; have n2_ : Aside0 (w35.heap[gb122]? = some (.cells #[.int .u64 x123000_1, .int .u64 x123001_1] 44 (0, 0))) := ⟨by rw [← hq_]; exact (by (with_reducible repeat (first | refine blk_drewN ?_ _ | refine blk_drew ?_ | refine blk_alloc ?_ _)); exact BK122.out)⟩; have n3_ : Aside0 (w35.heap[gb124]? = some (.cells #[.int .i64 ((rd_T35 l0 x35_1).f0), .int .i64 ((rd_T35 l0 x35_1).f1)] 35 (0, 0))) := ⟨by rw [← hq_]; exact (by (with_reducible repeat (first | refine blk_drewN ?_ _ | refine blk_drew ?_ | refine blk_alloc ?_ _)); exact BK124.out)⟩; have n4_ : Aside0 (Below w.heap.size w w35) := ⟨by rw [← hq_]; exact (by repeat (first | (with_reducible first | exact HB.out | apply below_alloc | apply pw_below_drewN | apply below_drew1 | refine below_set ?_ GE121.out | refine below_set ?_ GE122.out | refine below_set ?_ GE124.out) | exact HB.out))⟩; clear HO_6 BK121 BK122 BK124 HB hq_; have HO_6 := n0_; have BK121 := n1_; have BK122 := n2_; have BK124 := n3_; have HB := n4_; clear n0_ n1_ n2_ n3_ n4_)); have hnb37 := NB122_121.out; have hnc37 := NB121_122.out; have hcz38_0 : w35.cell? ⟨gb122, 0, none⟩ = some (.int .u64 x123000_1) := (blk_cell BK122.out 0).trans rfl; have hcz38_1 : w35.cell? ⟨gb122, 1, none⟩ = some (.int .u64 x123001_1) := (blk_cell BK122.out 1).trans rfl; have hfz38_0 := blk_frozen BK122.out 0; have hfz38_1 := blk_frozen BK122.out 1; have hcz39_0 : w35.cell? ⟨gb121, 0, none⟩ = some (.int .u64 x122000_1) := (blk_cell BK121.out 0).trans rfl; have hcz39_1 : w35.cell? ⟨gb121, 1, none⟩ = some (.int .u64 x122001_1) := (blk_cell BK121.out 1).trans rfl; have hfz39_0 := blk_frozen BK121.out 0; have hfz39_1 := blk_frozen BK121.out 1))
                      go_roundg k1
                      case measure => have := HK1.out; omega
                      case rel => exact ⟨(wrap64 (x35_1 + 1)), (u64add x122000_1 t129 (u64car x123000_1 t130 0)), (x122001_1), (u64add x123000_1 t130 0), (x123001_1), (by first | rfl | (simp; done) | (simp [*]; done)), H', ⟨by have := HK1.out; omega⟩, ⟨by (with_reducible repeat (first | apply Kd.R_alloc | apply Kd.R_drewN | apply Kd.R_drew)); exact Kd.R_mono (Kd.R_far (p := ⟨gb121, 0, none⟩) (Kd.R_far (p := ⟨gb122, 0, none⟩) (Kd.R_types (Kd.R_types HO_6.out BK122.out (by decide)) BK121.out (by decide)) (fun _ hk => hk.1.2) (.int .u64 (u64add x123000_1 t130 0))) (fun _ hk => hk.2) (.int .u64 (u64add x122000_1 t129 (u64car x123000_1 t130 0)))) (fun _ hk => trivial)⟩, ⟨by (with_reducible repeat (first | refine blk_drewN ?_ _ | refine blk_drew ?_ | refine blk_alloc ?_ _)); refine blk_put (cs := #[.int .u64 x122000_1, .int .u64 x122001_1]) ?_ 0 _ rfl; (with_reducible repeat (first | refine blk_drewN ?_ _ | refine blk_drew ?_ | refine blk_alloc ?_ _)); refine blk_far ?_ NB121_122.out _; (with_reducible repeat (first | refine blk_drewN ?_ _ | refine blk_drew ?_ | refine blk_alloc ?_ _)); exact BK121.out⟩, ⟨by (with_reducible repeat (first | refine blk_drewN ?_ _ | refine blk_drew ?_ | refine blk_alloc ?_ _)); refine blk_far ?_ NB122_121.out _; (with_reducible repeat (first | refine blk_drewN ?_ _ | refine blk_drew ?_ | refine blk_alloc ?_ _)); refine blk_put (cs := #[.int .u64 x123000_1, .int .u64 x123001_1]) ?_ 0 _ rfl; (with_reducible repeat (first | refine blk_drewN ?_ _ | refine blk_drew ?_ | refine blk_alloc ?_ _)); exact BK122.out⟩, ⟨by repeat (first | (with_reducible first | exact HB.out | apply below_alloc | apply pw_below_drewN | apply below_drew1 | refine below_set ?_ GE121.out | refine below_set ?_ GE122.out | refine below_set ?_ GE124.out) | exact HB.out)⟩⟩
                    · rw [if_neg c29] at H
                      exact absurd H (by simp)
                  · rw [if_neg c28] at H
                    exact absurd H (by simp)
                · rw [if_neg c26] at H
                  exact absurd H (by simp)
            · rw [if_neg c10] at H
              exact absurd H (by simp)
          · rw [if_neg c9] at H
            exact absurd H (by simp)
        · rw [if_neg c8] at H
          have c8b0 : decide (x35_1 < (l0.length : Int)) = false := decide_eq_false c8
          clear c8
          have HC40 := Aside0.mk H
          clear H
          go_upto_region 16 with (fail)
          go_cut [17] (fun v17 wc => ∃ (kq : Nat) (x17_39 : Bool), v17 = .bool x17_39 ∧ Aside0 (block_Price.j1 kq x17_39 x122000_1 x122001_1 x123000_1 x123001_1 = some (r1, r2)) ∧ Aside0 (kq ≤ k1) ∧ Aside0 (wc.heap[gb121]? = some (.cells #[.int .u64 x122000_1, .int .u64 x122001_1] 44 (0, 0))) ∧ Aside0 (wc.heap[gb122]? = some (.cells #[.int .u64 x123000_1, .int .u64 x123001_1] 44 (0, 0))) ∧ Aside0 (Below w.heap.size w wc))
          case first =>
            have H := HC40.out
            clear HC40
            by_cases c41 : x122000_1 < x122001_1
            · rw [if_pos c41] at H
              have c41b0 : decide (x122000_1 < x122001_1) = true := decide_eq_true c41
              clear c41
              (first | rw [c41b0] | (simp only [i64_w, i32_w]; rw [c41b0]) | skip)
              have H' := Aside0.mk H
              clear H
              have hnb42 := NB121_122.out
              have hnc42 := NB122_121.out
              have hcz43_0 : wr.cell? ⟨gb121, 0, none⟩ = some (.int .u64 x122000_1) := (blk_cell BK121.out 0).trans rfl
              have hcz43_1 : wr.cell? ⟨gb121, 1, none⟩ = some (.int .u64 x122001_1) := (blk_cell BK121.out 1).trans rfl
              have hfz43_0 := blk_frozen BK121.out 0
              have hfz43_1 := blk_frozen BK121.out 1
              go_wp2
              go_meet
              case rel => exact ⟨_, (true), (by first | rfl | (simp; done) | (simp [*]; done)), H', ⟨by have := HK1.out; first | omega | exact Nat.le_refl _⟩, ⟨by (with_reducible repeat (first | refine blk_drewN ?_ _ | refine blk_drew ?_ | refine blk_alloc ?_ _)); exact BK121.out⟩, ⟨by (with_reducible repeat (first | refine blk_drewN ?_ _ | refine blk_drew ?_ | refine blk_alloc ?_ _)); exact BK122.out⟩, ⟨by repeat (first | (with_reducible first | exact HB.out | apply below_alloc | apply pw_below_drewN | apply below_drew1 | refine below_set ?_ GE121.out | refine below_set ?_ GE122.out) | exact HB.out)⟩⟩
            · rw [if_neg c41] at H
              have c41b0 : decide (x122000_1 < x122001_1) = false := decide_eq_false c41
              clear c41
              (first | rw [c41b0] | (simp only [i64_w, i32_w]; rw [c41b0]) | skip)
              by_cases c44 : x122000_1 = x122001_1
              · rw [if_pos c44] at H
                have c44b0 : (x122000_1 == x122001_1) = true := beq_iff_eq.mpr c44
                have c44b1 : (x122000_1 != x122001_1) = false := bne_eq_false_iff_eq.mpr c44
                clear c44
                have H' := Aside0.mk H
                clear H
                have hnb45 := NB121_122.out
                have hnc45 := NB122_121.out
                have hcz46_0 : wr.cell? ⟨gb121, 0, none⟩ = some (.int .u64 x122000_1) := (blk_cell BK121.out 0).trans rfl
                have hcz46_1 : wr.cell? ⟨gb121, 1, none⟩ = some (.int .u64 x122001_1) := (blk_cell BK121.out 1).trans rfl
                have hfz46_0 := blk_frozen BK121.out 0
                have hfz46_1 := blk_frozen BK121.out 1
                have hcz47_0 : wr.cell? ⟨gb122, 0, none⟩ = some (.int .u64 x123000_1) := (blk_cell BK122.out 0).trans rfl
                have hcz47_1 : wr.cell? ⟨gb122, 1, none⟩ = some (.int .u64 x123001_1) := (blk_cell BK122.out 1).trans rfl
                have hfz47_0 := blk_frozen BK122.out 0
                have hfz47_1 := blk_frozen BK122.out 1
                go_wp2
                go_meet
                case rel => exact ⟨_, (decide (x123000_1 < x123001_1)), (by first | rfl | (simp; done) | (simp [*]; done) | (by_cases hdp0_ : x123000_1 < x123001_1 <;> simp [*] <;> done)), H', ⟨by have := HK1.out; first | omega | exact Nat.le_refl _⟩, ⟨by (with_reducible repeat (first | refine blk_drewN ?_ _ | refine blk_drew ?_ | refine blk_alloc ?_ _)); exact BK121.out⟩, ⟨by (with_reducible repeat (first | refine blk_drewN ?_ _ | refine blk_drew ?_ | refine blk_alloc ?_ _)); exact BK122.out⟩, ⟨by repeat (first | (with_reducible first | exact HB.out | apply below_alloc | apply pw_below_drewN | apply below_drew1 | refine below_set ?_ GE121.out | refine below_set ?_ GE122.out) | exact HB.out)⟩⟩
              · rw [if_neg c44] at H
                have c44b0 : (x122000_1 == x122001_1) = false := beq_eq_false_iff_ne.mpr c44
                have c44b1 : (x122000_1 != x122001_1) = true := bne_iff_ne.mpr c44
                have H' := Aside0.mk H
                clear H
                have hnb48 := NB121_122.out
                have hnc48 := NB122_121.out
                have hcz49_0 : wr.cell? ⟨gb121, 0, none⟩ = some (.int .u64 x122000_1) := (blk_cell BK121.out 0).trans rfl
                have hcz49_1 : wr.cell? ⟨gb121, 1, none⟩ = some (.int .u64 x122001_1) := (blk_cell BK121.out 1).trans rfl
                have hfz49_0 := blk_frozen BK121.out 0
                have hfz49_1 := blk_frozen BK121.out 1
                go_wp2
                go_meet
                case rel => exact ⟨_, (false), (by first | rfl | (simp; done) | (simp [*]; done)), H', ⟨by have := HK1.out; first | omega | exact Nat.le_refl _⟩, ⟨by (with_reducible repeat (first | refine blk_drewN ?_ _ | refine blk_drew ?_ | refine blk_alloc ?_ _)); exact BK121.out⟩, ⟨by (with_reducible repeat (first | refine blk_drewN ?_ _ | refine blk_drew ?_ | refine blk_alloc ?_ _)); exact BK122.out⟩, ⟨by repeat (first | (with_reducible first | exact HB.out | apply below_alloc | apply pw_below_drewN | apply below_drew1 | refine below_set ?_ GE121.out | refine below_set ?_ GE122.out) | exact HB.out)⟩⟩
          case rest =>
            clear HC40
            try clear c1
            try clear p1
            try clear q1
            try clear hx1
            try clear c2
            try clear p2
            try clear c3
            try clear c4
            try clear c4b0
            try clear c4b1
            try clear p6
            try clear c8
            try clear c8b0
            try clear c9
            try clear c9b0
            try clear c10
            try clear c10b0
            try clear c11
            try clear c11b0
            try clear c12
            try clear c12b0
            try clear p12
            try clear q12
            try clear hx12
            try clear c13
            try clear c14
            try clear c14b0
            try clear c14b1
            try clear c15
            try clear c15b0
            try clear c15b1
            try clear c17
            try clear c18
            try clear c22
            try clear c23
            try clear c26
            try clear c26b0
            try clear c28
            try clear c28b0
            try clear c28b1
            try clear c29
            try clear c29b0
            try clear c29b1
            try clear c31
            try clear c32
            try clear c37
            try clear c41
            try clear c41b0
            try clear c42
            try clear c44
            try clear c44b0
            try clear c44b1
            try clear c45
            try clear c48
            try clear hcz19_0
            try clear hcz19_1
            try clear hcz24_0
            try clear hcz24_1
            try clear hcz25_0
            try clear hcz25_1
            try clear hcz33_0
            try clear hcz33_1
            try clear hcz38_0
            try clear hcz38_1
            try clear hcz39_0
            try clear hcz39_1
            try clear hcz43_0
            try clear hcz43_1
            try clear hcz46_0
            try clear hcz46_1
            try clear hcz47_0
            try clear hcz47_1
            try clear hcz49_0
            try clear hcz49_1
            try clear hfz19_0
            try clear hfz19_1
            try clear hfz24_0
            try clear hfz24_1
            try clear hfz25_0
            try clear hfz25_1
            try clear hfz33_0
            try clear hfz33_1
            try clear hfz38_0
            try clear hfz38_1
            try clear hfz39_0
            try clear hfz39_1
            try clear hfz43_0
            try clear hfz43_1
            try clear hfz46_0
            try clear hfz46_1
            try clear hfz47_0
            try clear hfz47_1
            try clear hfz49_0
            try clear hfz49_1
            try clear hx123_0
            try clear hx123_1
            try clear hx125_0
            try clear hx128_0
            try clear p123
            try clear p125
            try clear p128
            try clear p2
            try clear q123
            try clear q125
            try clear q128
            obtain ⟨kq, x17_39, rfl, HA, HJ39, BK121, BK122, HB⟩ := hcut
            cases kq with
            | zero => exact absurd HA.out (by simp [block_Price.j1])
            | succ kj39 =>
              have H := HA.out
              clear HA
              simp only [block_Price.j1] at H
              have HC50 := Aside0.mk H
              clear H
              go_upto_if 98 with (fail)
              go_cut [] (fun wc => ∃ (kq : Nat) (x122000_49 : Int) (x122001_49 : Int) (x123000_49 : Int) (x123001_49 : Int), Aside0 (block_Price.j2 kq x17_39 x122000_49 x122001_49 x123000_49 x123001_49 = some (r1, r2)) ∧ Aside0 (kq ≤ kj39) ∧ Aside0 (wc.heap[gb121]? = some (.cells #[.int .u64 x122000_49, .int .u64 x122001_49] 44 (0, 0))) ∧ Aside0 (wc.heap[gb122]? = some (.cells #[.int .u64 x123000_49, .int .u64 x123001_49] 44 (0, 0))) ∧ Aside0 (Below w.heap.size w wc))
              case first =>
                have H := HC50.out
                clear HC50
                by_cases c51 : x17_39 = true
                · subst c51
                  have H1 : (block_Price.j2 kj39 true x122001_1 x122000_1 x123001_1 x123000_1) = some (r1, r2) := by rw [if_pos rfl] at H; exact H
                  clear H
                  have H := H1
                  clear H1
                  have H' := Aside0.mk H
                  clear H
                  try go_wp2
                  have n0_ := Aside0.mk (blk_drew BK121.out)
                  have n1_ := Aside0.mk (blk_drew BK122.out)
                  have n2_ := Aside0.mk (below_drew1 HB.out)
                  clear BK121
                  clear BK122
                  clear HB
                  have BK121 := n0_
                  have BK122 := n1_
                  have HB := n2_
                  clear n0_ n1_ n2_
                  refine start_ (n := 16) (S := fun w' => w'.cell? ⟨gb122, 0, none⟩ = some (.int .u64 x123000_1) ∧ w'.cell? ⟨gb122, 1, none⟩ = some (.int .u64 x123001_1)) (ds := [13, 15]) #[false, false, false, false, false, false, false, false, false, false, false, false, false, false, false, false] (by kernel_rfl) rfl rfl ⟨(blk_cell BK122.out 0).trans rfl, (blk_cell BK122.out 1).trans rfl⟩ (fun hHeld => ?_); refine with_tabW block_Price.tab18 block_Price.bits18 (fun HT_ HW_ => ?_)
                  generalize wc.drew = w52 at BK121 BK122 HB hHeld ⊢
                  have hnow121_0 : w52.cell? ⟨gb121, 0, none⟩ = some (.int .u64 x122000_1) := (blk_cell BK121.out 0).trans rfl
                  have hnow121_1 : w52.cell? ⟨gb121, 1, none⟩ = some (.int .u64 x122001_1) := (blk_cell BK121.out 1).trans rfl
                  refine pure_ (i := 0) (N := some 99) (v := ?_) (a' := ?_) #[true, false, false, false, false, false, false, false, false, false, false, false, false, false, false, false] rfl rfl (any_of HT_.out (by kernel_rfl)) (fun _ _ _ h => h) (Or.inl ⟨by rfl, ?_⟩) ?_ ?_
                  rotate_left
                  · intro w'
                    go_simp
                    with_reducible rfl
                  rotate_left
                  · simp only [Act.put, List.setIfInBounds_toArray, List.set_cons_zero, List.set_cons_succ, i64_w, i32_w]
                    rfl
                  refine pure_ (i := 2) (N := some 101) (v := ?_) (a' := ?_) #[true, false, true, false, false, false, false, false, false, false, false, false, false, false, false, false] rfl rfl (any_of HT_.out (by kernel_rfl)) (fun _ _ _ h => h) (Or.inl ⟨by rfl, ?_⟩) ?_ ?_
                  rotate_left
                  · intro w'
                    go_simp
                    with_reducible rfl
                  rotate_left
                  · simp only [Act.put, List.setIfInBounds_toArray, List.set_cons_zero, List.set_cons_succ, i64_w, i32_w]
                    rfl
                  refine pure_ (i := 4) (N := some 103) (v := ?_) (a' := ?_) #[true, false, true, false, true, false, false, false, false, false, false, false, false, false, false, false] rfl rfl (any_of HT_.out (by kernel_rfl)) (fun _ _ _ h => h) (Or.inl ⟨by rfl, ?_⟩) ?_ ?_
                  rotate_left
                  · intro w'
                    go_simp
                    with_reducible rfl
                  rotate_left
                  · simp only [Act.put, List.setIfInBounds_toArray, List.set_cons_zero, List.set_cons_succ, i64_w, i32_w]
                    rfl
                  refine pure_ (i := 6) (N := some 105) (v := ?_) (a' := ?_) #[true, false, true, false, true, false, true, false, false, false, false, false, false, false, false, false] rfl rfl (any_of HT_.out (by kernel_rfl)) (fun _ _ _ h => h) (Or.inl ⟨by rfl, ?_⟩) ?_ ?_
                  rotate_left
                  · intro w'
                    go_simp
                    with_reducible rfl
                  rotate_left
                  · simp only [Act.put, List.setIfInBounds_toArray, List.set_cons_zero, List.set_cons_succ, i64_w, i32_w]
                    rfl
                  refine take_ (i := 5) (N := some 104) (v := ?_) (a' := ?_) #[true, false, true, false, true, true, true, false, false, false, false, false, false, false, false, false] rfl rfl (take_ofW HT_.out HW_.out (by kernel_rfl)) (fun _ _ _ h => h) (Or.inl ⟨by rfl, ?_⟩) hHeld ?_ ?_
                  rotate_left
                  · rintro w' ⟨s0, s1⟩
                    go_simp
                    with_reducible rfl
                  rotate_left
                  · simp only [Act.put, List.setIfInBounds_toArray, List.set_cons_zero, List.set_cons_succ, i64_w, i32_w]
                    rfl
                  refine take_ (i := 7) (N := some 106) (v := ?_) (a' := ?_) #[true, false, true, false, true, true, true, true, false, false, false, false, false, false, false, false] rfl rfl (take_ofW HT_.out HW_.out (by kernel_rfl)) (fun _ _ _ h => h) (Or.inl ⟨by rfl, ?_⟩) hHeld ?_ ?_
                  rotate_left
                  · rintro w' ⟨s0, s1⟩
                    go_simp
                    with_reducible rfl
                  rotate_left
                  · simp only [Act.put, List.setIfInBounds_toArray, List.set_cons_zero, List.set_cons_succ, i64_w, i32_w]
                    rfl
                  refine pair_ (i := 1) (j := 3) (Ni := some 100) (Nj := some 102) (vi := ?vi_) (vj := ?vj_) (a' := ?aa_) #[true, true, true, true, true, true, true, true, false, false, false, false, false, false, false, false] rfl rfl rfl rfl (by kernel_rfl) (Or.inl ⟨by rfl, ?y1_⟩) (Or.inl ⟨by rfl, ?y2_⟩) (Or.inl ⟨by rfl, ?y3_⟩) (Or.inl ⟨by rfl, ?y4_⟩) ?ha_ ?hb_ ?_
                  case y1_ =>
                    intro w' e'
                    subst e'
                    (try simp only [Act.put, List.setIfInBounds_toArray, List.set_cons_zero, List.set_cons_succ, i64_w, i32_w])
                    go_simp
                    try with_reducible rfl
                  case y3_ =>
                    intro w' e'
                    subst e'
                    (try simp only [Act.put, List.setIfInBounds_toArray, List.set_cons_zero, List.set_cons_succ, i64_w, i32_w])
                    go_simp
                    try with_reducible rfl
                  case y2_ =>
                    intro w' e'
                    subst e'
                    (try simp only [Act.put, List.setIfInBounds_toArray, List.set_cons_zero, List.set_cons_succ, i64_w, i32_w])
                    go_simp
                    try with_reducible rfl
                  case y4_ =>
                    intro w' e'
                    subst e'
                    (try simp only [Act.put, List.setIfInBounds_toArray, List.set_cons_zero, List.set_cons_succ, i64_w, i32_w])
                    go_simp
                    try with_reducible rfl
                  case ha_ =>
                    simp only [Act.put, List.setIfInBounds_toArray, List.set_cons_zero, List.set_cons_succ, i64_w, i32_w]
                    try rfl
                  case hb_ =>
                    simp only [Act.put, List.setIfInBounds_toArray, List.set_cons_zero, List.set_cons_succ, i64_w, i32_w]
                    try rfl
                  refine pure_ (i := 8) (N := some 107) (v := ?_) (a' := ?_) #[true, true, true, true, true, true, true, true, true, false, false, false, false, false, false, false] rfl rfl (any_of HT_.out (by kernel_rfl)) (fun _ _ _ h => h) (Or.inl ⟨by rfl, ?_⟩) ?_ ?_
                  rotate_left
                  · intro w'
                    go_simp
                    with_reducible rfl
                  rotate_left
                  · simp only [Act.put, List.setIfInBounds_toArray, List.set_cons_zero, List.set_cons_succ, i64_w, i32_w]
                    rfl
                  refine one_ (i := 9) (N := none) #[true, true, true, true, true, true, true, true, true, true, false, false, false, false, false, false] rfl rfl (one_of HT_.out (by kernel_rfl)) (by decide) (fun K hK => ?_)
                  have hs53 : w52.cell? ⟨gb121, 0, none⟩ = some (.int .u64 x122000_1) := (blk_cell BK121.out 0).trans rfl
                  have hfs53 := blk_frozen BK121.out 0
                  have hns53_1 := NB122_121.out
                  have hms53_1 := NB121_122.out
                  refine skip_ (w1 := ?_) (by rfl) rfl ?_ ?_
                  rotate_left
                  · go_simp
                    rfl
                  refine hK.out _ _ ⟨((cell_far (p := ⟨gb121, _, none⟩) NB122_121.out _).trans (hHeld.1)), ((cell_far (p := ⟨gb121, _, none⟩) NB122_121.out _).trans (hHeld.2))⟩ (fun hHeld => ?_)
                  clear hK K
                  refine pure_ (i := 10) (N := some 108) (v := ?_) (a' := ?_) #[true, true, true, true, true, true, true, true, true, true, true, false, false, false, false, false] rfl rfl (any_of HT_.out (by kernel_rfl)) (fun _ _ _ h => h) (Or.inl ⟨by rfl, ?_⟩) ?_ ?_
                  rotate_left
                  · intro w'
                    go_simp
                    with_reducible rfl
                  rotate_left
                  · simp only [Act.put, List.setIfInBounds_toArray, List.set_cons_zero, List.set_cons_succ, i64_w, i32_w]
                    rfl
                  refine one_ (i := 11) (N := none) #[true, true, true, true, true, true, true, true, true, true, true, true, false, false, false, false] rfl rfl (one_of HT_.out (by kernel_rfl)) (by decide) (fun K hK => ?_)
                  have hs54 : w52.cell? ⟨gb121, 1, none⟩ = some (.int .u64 x122001_1) := (blk_cell BK121.out 1).trans rfl
                  have hfs54 := blk_frozen BK121.out 1
                  have hns54_1 := NB122_121.out
                  have hms54_1 := NB121_122.out
                  refine skip_ (w1 := ?_) (by rfl) rfl ?_ ?_
                  rotate_left
                  · go_simp
                    rfl
                  refine hK.out _ _ ⟨((cell_far (p := ⟨gb121, _, none⟩) NB122_121.out _).trans (hHeld.1)), ((cell_far (p := ⟨gb121, _, none⟩) NB122_121.out _).trans (hHeld.2))⟩ (fun hHeld => ?_)
                  clear hK K
                  refine pure_ (i := 12) (N := some 109) (v := ?_) (a' := ?_) #[true, true, true, true, true, true, true, true, true, true, true, true, true, false, false, false] rfl rfl (any_of HT_.out (by kernel_rfl)) (fun _ _ _ h => h) (Or.inl ⟨by rfl, ?_⟩) ?_ ?_
                  rotate_left
                  · intro w'
                    go_simp
                    with_reducible rfl
                  rotate_left
                  · simp only [Act.put, List.setIfInBounds_toArray, List.set_cons_zero, List.set_cons_succ, i64_w, i32_w]
                    rfl
                  refine last_ (i := 13) (N := none) #[true, true, true, true, true, true, true, true, true, true, true, true, true, true, false, false] rfl rfl (one_of HT_.out (by kernel_rfl)) (by decide) (fun K hK => ?_)
                  have hs55 : w52.cell? ⟨gb122, 0, none⟩ = some (.int .u64 x123000_1) := (blk_cell BK122.out 0).trans rfl
                  have hfs55 := blk_frozen BK122.out 0
                  have hns55_0 := NB121_122.out
                  have hms55_0 := NB122_121.out
                  refine skip_ (w1 := ?_) (by rfl) rfl ?_ ?_
                  rotate_left
                  · go_simp
                    rfl
                  refine hK.out _ _ ?_
                  clear hK K
                  refine pure_ (i := 14) (N := some 110) (v := ?_) (a' := ?_) #[true, true, true, true, true, true, true, true, true, true, true, true, true, true, true, false] rfl rfl (any_of HT_.out (by kernel_rfl)) (fun _ _ _ h => h) (Or.inl ⟨by rfl, ?_⟩) ?_ ?_
                  rotate_left
                  · intro w'
                    go_simp
                    with_reducible rfl
                  rotate_left
                  · simp only [Act.put, List.setIfInBounds_toArray, List.set_cons_zero, List.set_cons_succ, i64_w, i32_w]
                    rfl
                  refine last_ (i := 15) (N := none) #[true, true, true, true, true, true, true, true, true, true, true, true, true, true, true, true] rfl rfl (one_of HT_.out (by kernel_rfl)) (by decide) (fun K hK => ?_)
                  have hs56 : w52.cell? ⟨gb122, 1, none⟩ = some (.int .u64 x123001_1) := (blk_cell BK122.out 1).trans rfl
                  have hfs56 := blk_frozen BK122.out 1
                  have hns56_0 := NB121_122.out
                  have hms56_0 := NB122_121.out
                  refine skip_ (w1 := ?_) (by rfl) rfl ?_ ?_
                  rotate_left
                  · go_simp
                    rfl
                  refine hK.out _ _ ?_
                  clear hK K
                  refine done_ (done_of HT_.out (by kernel_rfl)) ?_
                  try go_wp2
                  go_meet
                  case rel => exact ⟨_, (x122001_1), (x122000_1), (x123001_1), (x123000_1), H', ⟨by have := HK1.out; have := HJ39.out; first | omega | exact Nat.le_refl _⟩, ⟨by (with_reducible repeat (first | refine blk_drewN ?_ _ | refine blk_drew ?_ | refine blk_alloc ?_ _)); refine blk_far ?_ NB121_122.out _; (with_reducible repeat (first | refine blk_drewN ?_ _ | refine blk_drew ?_ | refine blk_alloc ?_ _)); refine blk_far ?_ NB121_122.out _; (with_reducible repeat (first | refine blk_drewN ?_ _ | refine blk_drew ?_ | refine blk_alloc ?_ _)); refine blk_put (cs := #[.int .u64 x122001_1, .int .u64 x122001_1]) ?_ 1 _ rfl; (with_reducible repeat (first | refine blk_drewN ?_ _ | refine blk_drew ?_ | refine blk_alloc ?_ _)); refine blk_put (cs := #[.int .u64 x122000_1, .int .u64 x122001_1]) ?_ 0 _ rfl; (with_reducible repeat (first | refine blk_drewN ?_ _ | refine blk_drew ?_ | refine blk_alloc ?_ _)); exact BK121.out⟩, ⟨by (with_reducible repeat (first | refine blk_drewN ?_ _ | refine blk_drew ?_ | refine blk_alloc ?_ _)); refine blk_put (cs := #[.int .u64 x123001_1, .int .u64 x123001_1]) ?_ 1 _ rfl; (with_reducible repeat (first | refine blk_drewN ?_ _ | refine blk_drew ?_ | refine blk_alloc ?_ _)); refine blk_put (cs := #[.int .u64 x123000_1, .int .u64 x123001_1]) ?_ 0 _ rfl; (with_reducible repeat (first | refine blk_drewN ?_ _ | refine blk_drew ?_ | refine blk_alloc ?_ _)); refine blk_far ?_ NB122_121.out _; (with_reducible repeat (first | refine blk_drewN ?_ _ | refine blk_drew ?_ | refine blk_alloc ?_ _)); refine blk_far ?_ NB122_121.out _; (with_reducible repeat (first | refine blk_drewN ?_ _ | refine blk_drew ?_ | refine blk_alloc ?_ _)); exact BK122.out⟩, ⟨by repeat (first | (with_reducible first | exact HB.out | apply below_alloc | apply pw_below_drewN | apply below_drew1 | refine below_set ?_ GE121.out | refine below_set ?_ GE122.out) | exact HB.out)⟩⟩
                · replace c51 := Bool.eq_false_iff.mpr c51
                  subst c51
                  have H1 : (block_Price.j2 kj39 false x122000_1 x122001_1 x123000_1 x123001_1) = some (r1, r2) := by rw [if_neg (show ¬ (false = true) by decide)] at H; exact H
                  clear H
                  have H := H1
                  clear H1
                  have H' := Aside0.mk H
                  clear H
                  go_wp2
                  go_meet
                  case rel => exact ⟨_, (x122000_1), (x122001_1), (x123000_1), (x123001_1), H', ⟨by have := HK1.out; have := HJ39.out; first | omega | exact Nat.le_refl _⟩, ⟨by (with_reducible repeat (first | refine blk_drewN ?_ _ | refine blk_drew ?_ | refine blk_alloc ?_ _)); exact BK121.out⟩, ⟨by (with_reducible repeat (first | refine blk_drewN ?_ _ | refine blk_drew ?_ | refine blk_alloc ?_ _)); exact BK122.out⟩, ⟨by repeat (first | (with_reducible first | exact HB.out | apply below_alloc | apply pw_below_drewN | apply below_drew1 | refine below_set ?_ GE121.out | refine below_set ?_ GE122.out) | exact HB.out)⟩⟩
              case rest =>
                clear HC50
                try clear c1
                try clear p1
                try clear q1
                try clear hx1
                try clear c2
                try clear p2
                try clear c3
                try clear c4
                try clear c4b0
                try clear c4b1
                try clear c5
                try clear p6
                try clear c8
                try clear c8b0
                try clear c9
                try clear c9b0
                try clear c10
                try clear c10b0
                try clear c11
                try clear c11b0
                try clear c12
                try clear c12b0
                try clear p12
                try clear q12
                try clear hx12
                try clear c13
                try clear c14
                try clear c14b0
                try clear c14b1
                try clear c15
                try clear c15b0
                try clear c15b1
                try clear c17
                try clear c18
                try clear c22
                try clear c23
                try clear c26
                try clear c26b0
                try clear c28
                try clear c28b0
                try clear c28b1
                try clear c29
                try clear c29b0
                try clear c29b1
                try clear c31
                try clear c32
                try clear c37
                try clear c41
                try clear c41b0
                try clear c42
                try clear c44
                try clear c44b0
                try clear c44b1
                try clear c45
                try clear c48
                try clear c51
                try clear hcz19_0
                try clear hcz19_1
                try clear hcz24_0
                try clear hcz24_1
                try clear hcz25_0
                try clear hcz25_1
                try clear hcz33_0
                try clear hcz33_1
                try clear hcz38_0
                try clear hcz38_1
                try clear hcz39_0
                try clear hcz39_1
                try clear hcz43_0
                try clear hcz43_1
                try clear hcz46_0
                try clear hcz46_1
                try clear hcz47_0
                try clear hcz47_1
                try clear hcz49_0
                try clear hcz49_1
                try clear hfz19_0
                try clear hfz19_1
                try clear hfz24_0
                try clear hfz24_1
                try clear hfz25_0
                try clear hfz25_1
                try clear hfz33_0
                try clear hfz33_1
                try clear hfz38_0
                try clear hfz38_1
                try clear hfz39_0
                try clear hfz39_1
                try clear hfz43_0
                try clear hfz43_1
                try clear hfz46_0
                try clear hfz46_1
                try clear hfz47_0
                try clear hfz47_1
                try clear hfz49_0
                try clear hfz49_1
                try clear hx123_0
                try clear hx123_1
                try clear hx125_0
                try clear hx128_0
                try clear p1
                try clear p12
                try clear p123
                try clear p125
                try clear p128
                try clear p2
                try clear p6
                try clear q1
                try clear q12
                try clear q123
                try clear q125
                try clear q128
                obtain ⟨kq, x122000_49, x122001_49, x123000_49, x123001_49, HA, HJ49, BK121, BK122, HB⟩ := hcut
                cases kq with
                | zero => exact absurd HA.out (by simp [block_Price.j2])
                | succ kj49 =>
                  have H := HA.out
                  clear HA
                  simp only [block_Price.j2] at H
                  by_cases c57 : c01 0 = true
                  · rw [if_pos c57] at H
                    have c57b0 := eq_true c57
                    have c57b1 : decide (c01 0 = true) = true := decide_eq_true c57
                    clear c57
                    by_cases c58 : c01 (u64bor x123000_49 x123001_49 0) = true
                    · rw [if_pos c58] at H
                      have c58b0 := eq_true c58
                      have c58b1 : decide (c01 (u64bor x123000_49 x123001_49 0) = true) = true := decide_eq_true c58
                      clear c58
                      replace H := Option.bind_eq_some_iff.mp H
                      obtain ⟨⟨t131, t132⟩, A590, H⟩ := H
                      replace H : (if t132 > 500 then (block_Price.j3 kj49 x17_39 t131 true) else (if t132 = 500 then (block_Price.j3 kj49 x17_39 t131 (!x17_39)) else (block_Price.j3 kj49 x17_39 t131 false))) = some (r1, r2) := H
                      have A59 := Aside0.mk A590
                      clear A590
                      have HC60 := Aside0.mk H
                      clear H
                      have hnb61 := NB122_121.out
                      have hnc61 := NB121_122.out
                      have hcz62_0 : wc.cell? ⟨gb122, 0, none⟩ = some (.int .u64 x123000_49) := (blk_cell BK122.out 0).trans rfl
                      have hcz62_1 : wc.cell? ⟨gb122, 1, none⟩ = some (.int .u64 x123001_49) := (blk_cell BK122.out 1).trans rfl
                      have hfz62_0 := blk_frozen BK122.out 0
                      have hfz62_1 := blk_frozen BK122.out 1
                      have hcz63_0 : wc.cell? ⟨gb121, 0, none⟩ = some (.int .u64 x122000_49) := (blk_cell BK121.out 0).trans rfl
                      have hcz63_1 : wc.cell? ⟨gb121, 1, none⟩ = some (.int .u64 x122001_49) := (blk_cell BK121.out 1).trans rfl
                      have hfz63_0 := blk_frozen BK121.out 0
                      have hfz63_1 := blk_frozen BK121.out 1
                      go_upto_region 22 with (first | ((with_reducible refine gate_callee (f := 25) rfl ?_); refine goesL_ (some 131) rfl rfl Try.func25 (by kernel_rfl) rfl #[.int .u64 (u64sub x122000_49 x122001_49 (u64bor x123000_49 x123001_49 0)), .int .u64 (u64sub x123000_49 x123001_49 0), .int .u64 1000] rfl (by (try simp only [List.map_toArray, List.map_cons, List.map_nil]); first | done | rfl | (simp only [List.length_drop, List.length_take]; rfl)) ?_; (with_reducible refine (bits_Div64.calls kj49 (u64sub x122000_49 x122001_49 (u64bor x123000_49 x123001_49 0)) (u64sub x123000_49 x123001_49 0) 1000 t131 t132 _ A59.out).mono ?_); rintro e w' ⟨rfl, ⟨nd, rfl⟩⟩; refine ⟨_, rfl, ?_⟩))
                      (try simp only [Act.put, List.setIfInBounds_toArray, List.set_cons_zero, List.set_cons_succ])
                      go_cut [143] (fun v143 wc => ∃ (kq : Nat) (x143_59 : Bool), v143 = .bool x143_59 ∧ Aside0 (block_Price.j3 kq x17_39 t131 x143_59 = some (r1, r2)) ∧ Aside0 (kq ≤ kj49) ∧ Aside0 (wc.heap[gb121]? = some (.cells #[.int .u64 x122000_49, .int .u64 x122001_49] 44 (0, 0))) ∧ Aside0 (wc.heap[gb122]? = some (.cells #[.int .u64 x123000_49, .int .u64 x123001_49] 44 (0, 0))) ∧ Aside0 (Below w.heap.size w wc))
                      case first =>
                        have H := HC60.out
                        clear HC60
                        by_cases c64 : t132 > 500
                        · rw [if_pos c64] at H
                          have c64b0 : decide (500 < t132) = true := decide_eq_true c64
                          clear c64
                          (first | rw [c64b0] | (simp only [i64_w, i32_w]; rw [c64b0]) | skip)
                          have H' := Aside0.mk H
                          clear H
                          go_wp2
                          go_meet
                          case rel => exact ⟨_, (true), (by first | rfl | (simp; done) | (simp [*]; done)), H', ⟨by have := HK1.out; have := HJ39.out; have := HJ49.out; first | omega | exact Nat.le_refl _⟩, ⟨by (with_reducible repeat (first | refine blk_drewN ?_ _ | refine blk_drew ?_ | refine blk_alloc ?_ _)); exact BK121.out⟩, ⟨by (with_reducible repeat (first | refine blk_drewN ?_ _ | refine blk_drew ?_ | refine blk_alloc ?_ _)); exact BK122.out⟩, ⟨by repeat (first | (with_reducible first | exact HB.out | apply below_alloc | apply pw_below_drewN | apply below_drew1 | refine below_set ?_ GE121.out | refine below_set ?_ GE122.out) | exact HB.out)⟩⟩
                        · rw [if_neg c64] at H
                          have c64b0 : decide (500 < t132) = false := decide_eq_false c64
                          clear c64
                          (first | rw [c64b0] | (simp only [i64_w, i32_w]; rw [c64b0]) | skip)
                          by_cases c65 : t132 = 500
                          · rw [if_pos c65] at H
                            have c65b0 : (t132 == 500) = true := beq_iff_eq.mpr c65
                            have c65b1 : (t132 != 500) = false := bne_eq_false_iff_eq.mpr c65
                            clear c65
                            have H' := Aside0.mk H
                            clear H
                            go_wp2
                            go_meet
                            case rel => exact ⟨_, (!x17_39), (by first | rfl | (simp; done) | (simp [*]; done)), H', ⟨by have := HK1.out; have := HJ39.out; have := HJ49.out; first | omega | exact Nat.le_refl _⟩, ⟨by (with_reducible repeat (first | refine blk_drewN ?_ _ | refine blk_drew ?_ | refine blk_alloc ?_ _)); exact BK121.out⟩, ⟨by (with_reducible repeat (first | refine blk_drewN ?_ _ | refine blk_drew ?_ | refine blk_alloc ?_ _)); exact BK122.out⟩, ⟨by repeat (first | (with_reducible first | exact HB.out | apply below_alloc | apply pw_below_drewN | apply below_drew1 | refine below_set ?_ GE121.out | refine below_set ?_ GE122.out) | exact HB.out)⟩⟩
                          · rw [if_neg c65] at H
                            have c65b0 : (t132 == 500) = false := beq_eq_false_iff_ne.mpr c65
                            have c65b1 : (t132 != 500) = true := bne_iff_ne.mpr c65
                            have H' := Aside0.mk H
                            clear H
                            go_wp2
                            go_meet
                            case rel => exact ⟨_, (false), (by first | rfl | (simp; done) | (simp [*]; done)), H', ⟨by have := HK1.out; have := HJ39.out; have := HJ49.out; first | omega | exact Nat.le_refl _⟩, ⟨by (with_reducible repeat (first | refine blk_drewN ?_ _ | refine blk_drew ?_ | refine blk_alloc ?_ _)); exact BK121.out⟩, ⟨by (with_reducible repeat (first | refine blk_drewN ?_ _ | refine blk_drew ?_ | refine blk_alloc ?_ _)); exact BK122.out⟩, ⟨by repeat (first | (with_reducible first | exact HB.out | apply below_alloc | apply pw_below_drewN | apply below_drew1 | refine below_set ?_ GE121.out | refine below_set ?_ GE122.out) | exact HB.out)⟩⟩
                      case rest =>
                        clear HC60
                        try clear c1
                        try clear p1
                        try clear q1
                        try clear hx1
                        try clear c2
                        try clear p2
                        try clear c3
                        try clear c4
                        try clear c4b0
                        try clear c4b1
                        try clear c5
                        try clear c6
                        try clear p6
                        try clear c8
                        try clear c8b0
                        try clear c9
                        try clear c9b0
                        try clear c10
                        try clear c10b0
                        try clear c11
                        try clear c11b0
                        try clear c12
                        try clear c12b0
                        try clear p12
                        try clear q12
                        try clear hx12
                        try clear c13
                        try clear c14
                        try clear c14b0
                        try clear c14b1
                        try clear c15
                        try clear c15b0
                        try clear c15b1
                        try clear c17
                        try clear c18
                        try clear c22
                        try clear c23
                        try clear c25
                        try clear c26
                        try clear c26b0
                        try clear c28
                        try clear c28b0
                        try clear c28b1
                        try clear c29
                        try clear c29b0
                        try clear c29b1
                        try clear c31
                        try clear c32
                        try clear c37
                        try clear c41
                        try clear c41b0
                        try clear c42
                        try clear c44
                        try clear c44b0
                        try clear c44b1
                        try clear c45
                        try clear c48
                        try clear c51
                        try clear c57
                        try clear c57b0
                        try clear c57b1
                        try clear c58
                        try clear c58b0
                        try clear c58b1
                        try clear c61
                        try clear c64
                        try clear c64b0
                        try clear p64
                        try clear c65
                        try clear c65b0
                        try clear c65b1
                        try clear hcz19_0
                        try clear hcz19_1
                        try clear hcz24_0
                        try clear hcz24_1
                        try clear hcz25_0
                        try clear hcz25_1
                        try clear hcz33_0
                        try clear hcz33_1
                        try clear hcz38_0
                        try clear hcz38_1
                        try clear hcz39_0
                        try clear hcz39_1
                        try clear hcz43_0
                        try clear hcz43_1
                        try clear hcz46_0
                        try clear hcz46_1
                        try clear hcz47_0
                        try clear hcz47_1
                        try clear hcz49_0
                        try clear hcz49_1
                        try clear hcz62_0
                        try clear hcz62_1
                        try clear hcz63_0
                        try clear hcz63_1
                        try clear hfz19_0
                        try clear hfz19_1
                        try clear hfz24_0
                        try clear hfz24_1
                        try clear hfz25_0
                        try clear hfz25_1
                        try clear hfz33_0
                        try clear hfz33_1
                        try clear hfz38_0
                        try clear hfz38_1
                        try clear hfz39_0
                        try clear hfz39_1
                        try clear hfz43_0
                        try clear hfz43_1
                        try clear hfz46_0
                        try clear hfz46_1
                        try clear hfz47_0
                        try clear hfz47_1
                        try clear hfz49_0
                        try clear hfz49_1
                        try clear hfz62_0
                        try clear hfz62_1
                        try clear hfz63_0
                        try clear hfz63_1
                        try clear hx123_0
                        try clear hx123_1
                        try clear hx125_0
                        try clear hx128_0
                        try clear p1
                        try clear p12
                        try clear p123
                        try clear p125
                        try clear p128
                        try clear p2
                        try clear p6
                        try clear q1
                        try clear q12
                        try clear q123
                        try clear q125
                        try clear q128
                        obtain ⟨kq, x143_59, rfl, HA, HJ59, BK121, BK122, HB⟩ := hcut
                        cases kq with
                        | zero => exact absurd HA.out (by simp [block_Price.j3])
                        | succ kj59 =>
                          have H := HA.out
                          clear HA
                          simp only [block_Price.j3] at H
                          have HC66 := Aside0.mk H
                          clear H
                          go_upto_if 143 with (fail)
                          go_cut [22] (fun v22 wc => ∃ (kq : Nat) (x22_65 : Int), v22 = .int .u64 x22_65 ∧ Aside0 (block_Price.j4 kq x17_39 x22_65 = some (r1, r2)) ∧ Aside0 (kq ≤ kj59) ∧ Aside0 (wc.heap[gb121]? = some (.cells #[.int .u64 x122000_49, .int .u64 x122001_49] 44 (0, 0))) ∧ Aside0 (wc.heap[gb122]? = some (.cells #[.int .u64 x123000_49, .int .u64 x123001_49] 44 (0, 0))) ∧ Aside0 (Below w.heap.size w wc))
                          case first =>
                            have H := HC66.out
                            clear HC66
                            by_cases c67 : x143_59 = true
                            · subst c67
                              have H1 : (block_Price.j4 kj59 x17_39 (IntKind.u64.wrap (t131 + 1))) = some (r1, r2) := by rw [if_pos rfl] at H; exact H
                              clear H
                              have H := H1
                              clear H1
                              have H' := Aside0.mk H
                              clear H
                              go_wp2
                              go_meet
                              case rel => exact ⟨_, (IntKind.u64.wrap (t131 + 1)), (by first | rfl | (simp; done) | (simp [*]; done)), H', ⟨by have := HK1.out; have := HJ39.out; have := HJ49.out; have := HJ59.out; first | omega | exact Nat.le_refl _⟩, ⟨by (with_reducible repeat (first | refine blk_drewN ?_ _ | refine blk_drew ?_ | refine blk_alloc ?_ _)); exact BK121.out⟩, ⟨by (with_reducible repeat (first | refine blk_drewN ?_ _ | refine blk_drew ?_ | refine blk_alloc ?_ _)); exact BK122.out⟩, ⟨by repeat (first | (with_reducible first | exact HB.out | apply below_alloc | apply pw_below_drewN | apply below_drew1 | refine below_set ?_ GE121.out | refine below_set ?_ GE122.out) | exact HB.out)⟩⟩
                            · replace c67 := Bool.eq_false_iff.mpr c67
                              subst c67
                              have H1 : (block_Price.j4 kj59 x17_39 t131) = some (r1, r2) := by rw [if_neg (show ¬ (false = true) by decide)] at H; exact H
                              clear H
                              have H := H1
                              clear H1
                              have H' := Aside0.mk H
                              clear H
                              go_wp2
                              go_meet
                              case rel => exact ⟨_, (t131), (by first | rfl | (simp; done) | (simp [*]; done)), H', ⟨by have := HK1.out; have := HJ39.out; have := HJ49.out; have := HJ59.out; first | omega | exact Nat.le_refl _⟩, ⟨by (with_reducible repeat (first | refine blk_drewN ?_ _ | refine blk_drew ?_ | refine blk_alloc ?_ _)); exact BK121.out⟩, ⟨by (with_reducible repeat (first | refine blk_drewN ?_ _ | refine blk_drew ?_ | refine blk_alloc ?_ _)); exact BK122.out⟩, ⟨by repeat (first | (with_reducible first | exact HB.out | apply below_alloc | apply pw_below_drewN | apply below_drew1 | refine below_set ?_ GE121.out | refine below_set ?_ GE122.out) | exact HB.out)⟩⟩
                          case rest =>
                            clear HC66
                            try clear c1
                            try clear p1
                            try clear q1
                            try clear hx1
                            try clear c2
                            try clear p2
                            try clear c3
                            try clear c4
                            try clear c4b0
                            try clear c4b1
                            try clear c5
                            try clear c6
                            try clear p6
                            try clear c8
                            try clear c8b0
                            try clear c9
                            try clear c9b0
                            try clear c10
                            try clear c10b0
                            try clear c11
                            try clear c11b0
                            try clear c12
                            try clear c12b0
                            try clear p12
                            try clear q12
                            try clear hx12
                            try clear c13
                            try clear c14
                            try clear c14b0
                            try clear c14b1
                            try clear c15
                            try clear c15b0
                            try clear c15b1
                            try clear c17
                            try clear c18
                            try clear c22
                            try clear c23
                            try clear c25
                            try clear c26
                            try clear c26b0
                            try clear c28
                            try clear c28b0
                            try clear c28b1
                            try clear c29
                            try clear c29b0
                            try clear c29b1
                            try clear c31
                            try clear c32
                            try clear c37
                            try clear c41
                            try clear c41b0
                            try clear c42
                            try clear c44
                            try clear c44b0
                            try clear c44b1
                            try clear c45
                            try clear c48
                            try clear c51
                            try clear c57
                            try clear c57b0
                            try clear c57b1
                            try clear c58
                            try clear c58b0
                            try clear c58b1
                            try clear c61
                            try clear c64
                            try clear c64b0
                            try clear p64
                            try clear c65
                            try clear c65b0
                            try clear c65b1
                            try clear c67
                            try clear hcz19_0
                            try clear hcz19_1
                            try clear hcz24_0
                            try clear hcz24_1
                            try clear hcz25_0
                            try clear hcz25_1
                            try clear hcz33_0
                            try clear hcz33_1
                            try clear hcz38_0
                            try clear hcz38_1
                            try clear hcz39_0
                            try clear hcz39_1
                            try clear hcz43_0
                            try clear hcz43_1
                            try clear hcz46_0
                            try clear hcz46_1
                            try clear hcz47_0
                            try clear hcz47_1
                            try clear hcz49_0
                            try clear hcz49_1
                            try clear hcz62_0
                            try clear hcz62_1
                            try clear hcz63_0
                            try clear hcz63_1
                            try clear hfz19_0
                            try clear hfz19_1
                            try clear hfz24_0
                            try clear hfz24_1
                            try clear hfz25_0
                            try clear hfz25_1
                            try clear hfz33_0
                            try clear hfz33_1
                            try clear hfz38_0
                            try clear hfz38_1
                            try clear hfz39_0
                            try clear hfz39_1
                            try clear hfz43_0
                            try clear hfz43_1
                            try clear hfz46_0
                            try clear hfz46_1
                            try clear hfz47_0
                            try clear hfz47_1
                            try clear hfz49_0
                            try clear hfz49_1
                            try clear hfz62_0
                            try clear hfz62_1
                            try clear hfz63_0
                            try clear hfz63_1
                            try clear hx123_0
                            try clear hx123_1
                            try clear hx125_0
                            try clear hx128_0
                            try clear p1
                            try clear p12
                            try clear p123
                            try clear p125
                            try clear p128
                            try clear p2
                            try clear p6
                            try clear p64
                            try clear q1
                            try clear q12
                            try clear q123
                            try clear q125
                            try clear q128
                            obtain ⟨kq, x22_65, rfl, HA, HJ65, BK121, BK122, HB⟩ := hcut
                            cases kq with
                            | zero => exact absurd HA.out (by simp [block_Price.j4])
                            | succ kj65 =>
                              have H := HA.out
                              clear HA
                              simp only [block_Price.j4] at H
                              by_cases c68 : x22_65 > 1000000000000000
                              · rw [if_pos c68] at H
                                have c68b0 : decide (1000000000000000 < x22_65) = true := decide_eq_true c68
                                clear c68
                                simp only [Option.some.injEq, Prod.mk.injEq] at H
                                obtain ⟨rfl, rfl⟩ := H
                                go_wp2
                                go_ret2
                                exact ⟨by first | rfl | (simp [errW_none, errW_some] <;> rfl) | (simp [*, errW_none, errW_some] <;> rfl), by repeat (first | (with_reducible first | exact HB.out | apply below_alloc | apply pw_below_drewN | apply below_drew1 | refine below_set ?_ GE121.out | refine below_set ?_ GE122.out) | exact HB.out)⟩
                              · rw [if_neg c68] at H
                                have c68b0 : decide (1000000000000000 < x22_65) = false := decide_eq_false c68
                                clear c68
                                by_cases c69 : x17_39 = true
                                · subst c69
                                  have H1 : (some (wrap64 (-(wrap64 (x22_65))), 0)) = some (r1, r2) := by rw [if_pos rfl] at H; exact H
                                  clear H
                                  have H := H1
                                  clear H1
                                  simp only [Option.some.injEq, Prod.mk.injEq] at H
                                  obtain ⟨rfl, rfl⟩ := H
                                  go_wp2
                                  go_ret2
                                  exact ⟨by first | rfl | (simp [errW_none, errW_some] <;> rfl) | (simp [*, errW_none, errW_some] <;> rfl), by repeat (first | (with_reducible first | exact HB.out | apply below_alloc | apply pw_below_drewN | apply below_drew1 | refine below_set ?_ GE121.out | refine below_set ?_ GE122.out) | exact HB.out)⟩
                                · replace c69 := Bool.eq_false_iff.mpr c69
                                  subst c69
                                  have H1 : (some (wrap64 (x22_65), 0)) = some (r1, r2) := by rw [if_neg (show ¬ (false = true) by decide)] at H; exact H
                                  clear H
                                  have H := H1
                                  clear H1
                                  simp only [Option.some.injEq, Prod.mk.injEq] at H
                                  obtain ⟨rfl, rfl⟩ := H
                                  go_wp2
                                  go_ret2
                                  exact ⟨by first | rfl | (simp [errW_none, errW_some] <;> rfl) | (simp [*, errW_none, errW_some] <;> rfl), by repeat (first | (with_reducible first | exact HB.out | apply below_alloc | apply pw_below_drewN | apply below_drew1 | refine below_set ?_ GE121.out | refine below_set ?_ GE122.out) | exact HB.out)⟩
                    · rw [if_neg c58] at H
                      exact absurd H (by simp)
                  · rw [if_neg c57] at H
                    exact absurd H (by simp)
  · rw [if_neg c4] at H
    have c4b0 : (t118 == 0) = false := beq_eq_false_iff_ne.mpr c4
    have c4b1 : (t118 != 0) = true := bne_iff_ne.mpr c4
    simp only [Option.some.injEq, Prod.mk.injEq] at H
    obtain ⟨rfl, rfl⟩ := H
    go_enter Try.func13, Try.ntmps13
    go_wp2_with (first | ((with_reducible refine gate_callee (f := 12) rfl ?_); refine goesL_ (some 27) rfl rfl Try.func12 (by kernel_rfl) rfl #[.slice A0 l0.length c0, .int .i64 a1] rfl (by (try simp only [List.map_toArray, List.map_cons, List.map_nil]); first | done | rfl | (simp only [List.length_drop, List.length_take]; rfl)) ?_; (with_reducible refine (block_Parts.calls k _ _ l0 a1 t117 t118 _ ?side1 ?side2 A3.out).mono ?_); (case side1 => repeat (first | exact HR0.out | (with_reducible refine Kd.C_alloc ?_ _) | (with_reducible refine Kd.C_drewN ?_ _) | (with_reducible refine Kd.C_drew ?_))); (case side2 => exact HC0.out); rintro e w70 ⟨v119, rfl, ho0, hb⟩; refine ⟨_, rfl, ?_⟩; have n0_ := Aside0.mk (Kd.R_lower ho0 (below_size (by repeat (first | (with_reducible first | exact HB.out | apply below_alloc | apply pw_below_drewN | apply below_drew1) | exact HB.out)))); have n1_ := Aside0.mk (below_step (by repeat (first | (with_reducible first | exact HB.out | apply below_alloc | apply pw_below_drewN | apply below_drew1) | exact HB.out)) hb); clear HB; have HO120 := n0_; have HB := n1_; clear n0_ n1_; (try clear hb); (try clear hb2); (try clear hk); (try clear hi); (try clear ho0)))
    go_ret2
    exact ⟨by first | rfl | (simp [errW_none, errW_some] <;> rfl) | (simp [*, errW_none, errW_some] <;> rfl), by repeat (first | (with_reducible first | exact HB.out | apply below_alloc | apply pw_below_drewN | apply below_drew1) | exact HB.out)⟩

end Go.Proofs.Ythejabcfbbmkeaa.PB
