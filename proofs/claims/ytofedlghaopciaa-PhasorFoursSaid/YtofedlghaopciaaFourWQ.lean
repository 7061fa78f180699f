/- phasor.sums, Four, Back: arrays of four complex numbers, walked by hand. -/
import Derived.Test.YtofedlghaopciaaPQx1
import Derived.Test.YtofedlghaopciaaXFlo
import Derived.StillTailTactics
set_option linter.unusedVariables false
set_option linter.unusedSimpArgs false
namespace Go.Proofs.Ytofedlghaopciaa.FourW
open Go Go.RowKit Go.Proofs.Ytofedlghaopciaa.PQ Go.Proofs.YtofedlghaopciaaW.PrintWords Go.Proofs.YtofedlghaopciaaW.PrintLast Go.Proofs.YtofedlghaopciaaW.PrintMore
attribute [local go_sem high] fx_eql fx_neq fx_lss fx_leq fx_gtr fx_geq fx_add fx_sub fx_mul fx_neg fx_toint cxx_add cxx_sub cxx_mul cxx_eql cxx_neq cxx_pick st_float st_complex
theorem still_tail {P : Program} {id : Nat} {Q : Exit → Act → World → Prop} {a : Act} {w : World} {l : List Oper} (n : Nat) (hm : P.follows .mixedOrders = true) (hB : Region.lexTailB .any l.toArray n = true)
    (h : wpStill P l.toArray w.drew (fun a' => wpList P l.toArray Q (l.drop n) a' w.drew) (l.take n) a) : (Code.region id l.toArray true).wp P Q a w := wp_region_still_tail n hm hB h
/-- i to the power m, as unit gives it. -/
def unitV (m : Int) : Cx := (phasor_unit.f m).getD (cx 0 0)
def stepOk (o z u : Cx) : Bool := cmulok z.re z.im u.re u.im && caddok o.re o.im (cmulre z.re z.im u.re u.im) (cmulim z.re z.im u.re u.im)
def stepV (o z u : Cx) : Cx := cx (caddre o.re o.im (cmulre z.re z.im u.re u.im) (cmulim z.re z.im u.re u.im)) (caddim o.re o.im (cmulre z.re z.im u.re u.im) (cmulim z.re z.im u.re u.im))
/-- The sum for k over the first n. -/
def part (x : Nat → Cx) (s : Int) (k : Nat) : Nat → Cx
  | 0 => cx 0 0
  | n + 1 => stepV (part x s k n) (x n) (unitV (s * k * n))
def sumsOk (x : Nat → Cx) (s : Int) : Prop := ∀ k n, k < 4 → n < 4 → stepOk (part x s k n) (x n) (unitV (s * k * n)) = true ∧ phasor_unit.f (s * k * n) = some (unitV (s * k * n))
/-- Row j while row k stands at n. -/
def cell (x : Nat → Cx) (s : Int) (k n j : Nat) : Cx := if j < k then part x s j 4 else if j = k then part x s k n else cx 0 0
abbrev arr (f : Nat → Cx) : Array Value := #[.complex .f64 (f 0).re (f 0).im, .complex .f64 (f 1).re (f 1).im, .complex .f64 (f 2).re (f 2).im, .complex .f64 (f 3).re (f 3).im]
abbrev arr0 : Array Value := #[.complex .f64 0 0, .complex .f64 0 0, .complex .f64 0 0, .complex .f64 0 0]
set_option maxRecDepth 100000 in
theorem unit_same (m : Int) (hm : ∃ r, phasor_unit.f m = some r) (w : World) : Calls Try.prog 15 #[.int .i64 m] w fun e w' => e = .returned (.complex .f64 (unitV m).re (unitV m).im) ∧ w' = w := by
  have hu26 := Try.underlying26
  have hpk26 := fun w k i a1 a2 b1 b2 c1 c2 d1 d2 => cxx_pick (P := Try.prog) w 26 k i a1 a2 b1 b2 c1 c2 d1 d2 (by kernel_rfl) (by kernel_rfl) (by kernel_rfl) (by kernel_rfl)
  obtain ⟨r, hr⟩ := hm
  have hv : unitV m = r := by unfold unitV; rw [hr]; rfl
  rw [hv]
  clear hv
  unfold phasor_unit.f at hr
  by_cases c2 : 0 ≤ (Go.bits .and .i64 m 3)
  · by_cases c3 : (Go.bits .and .i64 m 3) < 4
    · rw [if_pos c2, if_pos c3] at hr
      obtain rfl := Option.some.inj hr
      clear hr
      go_enter Try.func15, Try.ntmps15
      go_wp2
      go_ret
      exact ⟨rfl, rfl⟩
    · rw [if_pos c2, if_neg c3] at hr; cases hr
  · rw [if_neg c2] at hr; cases hr
/-- The three blocks: what came in, the result's, the sums'. -/
abbrev W3 (w : World) (x o : Nat → Cx) (nd : Nat) : World := (((w.alloc (.cells (arr x) 26)).alloc (.cells arr0 26)).alloc (.cells (arr o) 26)).drewN nd
theorem pick4 (x : Nat → Cx) (i : Int) (h0 : 0 ≤ i) (h1 : i < 4) (W : World) : (Instr.index 26 (.agg (arr x)) (.int .i64 i)).run Try.prog W = .ok (.complex .f64 (pk4 i (x 0).re (x 1).re (x 2).re (x 3).re) (pk4 i (x 0).im (x 1).im (x 2).im (x 3).im)) W :=
  cxx_pick (P := Try.prog) W 26 .i64 i _ _ _ _ _ _ _ _ (by kernel_rfl) (by kernel_rfl) (by kernel_rfl) (by kernel_rfl) h0 h1
theorem W3_congr {w : World} {x o o' : Nat → Cx} {nd : Nat} (h : ∀ j, j < 4 → o j = o' j) : W3 w x o nd = W3 w x o' nd := by
  unfold W3 arr
  rw [h 0 (by decide), h 1 (by decide), h 2 (by decide), h 3 (by decide)]
theorem W3_set (w : World) (x o : Nat → Cx) (nd k : Nat) (hk : k < 4) (z : Cx) : (W3 w x o nd).setCell ⟨w.heap.size + 1 + 1, k, none⟩ (.complex .f64 z.re z.im) = W3 w x (fun j => if j = k then z else o j) nd := by
  have e : ∀ (W : World) a v, (W.drewN nd).setCell a v = (W.setCell a v).drewN nd := fun _ _ _ => rfl
  unfold W3
  rw [e, World.setCell_alloc_at _ _ _ _ _ (by simp)]
  have : k = 0 ∨ k = 1 ∨ k = 2 ∨ k = 3 := by omega
  rcases this with rfl | rfl | rfl | rfl <;> rfl
theorem W3_res (w : World) (x o : Nat → Cx) (nd : Nat) (v0 v1 v2 v3 : Value) : ((((W3 w x o nd).setCell ⟨w.heap.size + 1, 0, none⟩ v0).setCell ⟨w.heap.size + 1, 1, none⟩ v1).setCell ⟨w.heap.size + 1, 2, none⟩ v2).setCell ⟨w.heap.size + 1, 3, none⟩ v3 =
    (((w.alloc (.cells (arr x) 26)).alloc (.cells #[v0, v1, v2, v3] 26)).alloc (.cells (arr o) 26)).drewN nd := by
  have e : ∀ (W : World) a v, (W.drewN nd).setCell a v = (W.setCell a v).drewN nd := fun _ _ _ => rfl
  have f : ∀ (W : World) (c : Array Value) (i : Nat) (v : Value), W.heap.size = w.heap.size + 1 → ((W.alloc (.cells c 26)).alloc (.cells (arr o) 26)).setCell ⟨w.heap.size + 1, i, none⟩ v = (W.alloc (.cells (c.setIfInBounds i v) 26)).alloc (.cells (arr o) 26) := by
    intro W c i v hW
    rw [World.setCell_alloc_past _ _ _ _ (by simp [hW]), World.setCell_alloc_at _ _ _ _ _ hW.symm]
  unfold W3
  simp only [e]
  rw [f _ _ _ _ (by simp), f _ _ _ _ (by simp), f _ _ _ _ (by simp), f _ _ _ _ (by simp)]
  rfl
theorem W3_below (w : World) (x o : Nat → Cx) (nd : Nat) : Below w.heap.size w (W3 w x o nd) :=
  pw_below_drewN ((((Below.refl _ _).alloc (Nat.le_refl _) _).alloc (by simp) _).alloc (by simp; omega) _) nd
theorem cell_now (x : Nat → Cx) (s : Int) (k n : Nat) : cell x s k n k = part x s k n := by unfold cell; rw [if_neg (by omega), if_pos rfl]
theorem cell_step (x : Nat → Cx) (s : Int) (k n j : Nat) : (if j = k then stepV (cell x s k n k) (x n) (unitV (s * k * n)) else cell x s k n j) = cell x s k (n + 1) j := by
  by_cases h : j = k
  · subst h
    rw [if_pos rfl, cell_now, cell_now]
    rfl
  · rw [if_neg h]
    unfold cell
    simp only [if_neg h]
theorem cell_next (x : Nat → Cx) (s : Int) (k j : Nat) : cell x s k 4 j = cell x s (k + 1) 0 j := by
  unfold cell
  by_cases h : j < k
  · rw [if_pos h, if_pos (by omega)]
  · rw [if_neg h]
    by_cases h2 : j = k
    · subst h2; rw [if_pos rfl, if_pos (by omega)]
    · rw [if_neg h2, if_neg (by omega)]
      split <;> rfl
theorem c0 : ((0 : Nat) : Int) = 0 := rfl
theorem c1 : ((1 : Nat) : Int) = 1 := rfl
theorem c2 : ((2 : Nat) : Int) = 2 := rfl
theorem c3 : ((3 : Nat) : Int) = 3 := rfl
theorem four_of {k : Nat} (h : k < 4) : k = 0 ∨ k = 1 ∨ k = 2 ∨ k = 3 := by omega
set_option maxHeartbeats 4000000 in
set_option maxRecDepth 100000 in
theorem sums_calls (x : Nat → Cx) (s : Int) (hs : s = 1 ∨ s = -1) (w : World) (h : sumsOk x s) :
    Calls Try.prog 11 #[.agg (arr x), .int .i64 s] w fun e w' => e = .returned (.agg (arr fun k => part x s k 4)) ∧ Below w.heap.size w w' := by
  have H := Aside0.mk h
  have HS := Aside0.mk hs
  clear h hs
  have hi0 : ∀ W, (Instr.index 26 (.agg (arr x)) (.int .i64 0)).run Try.prog W = .ok (.complex .f64 (x 0).re (x 0).im) W := pick4 x 0 (by decide) (by decide)
  have hi1 : ∀ W, (Instr.index 26 (.agg (arr x)) (.int .i64 1)).run Try.prog W = .ok (.complex .f64 (x 1).re (x 1).im) W := pick4 x 1 (by decide) (by decide)
  have hi2 : ∀ W, (Instr.index 26 (.agg (arr x)) (.int .i64 2)).run Try.prog W = .ok (.complex .f64 (x 2).re (x 2).im) W := pick4 x 2 (by decide) (by decide)
  have hi3 : ∀ W, (Instr.index 26 (.agg (arr x)) (.int .i64 3)).run Try.prog W = .ok (.complex .f64 (x 3).re (x 3).im) W := pick4 x 3 (by decide) (by decide)
  go_enter Try.func11, Try.ntmps11
  go_wp2
  go_loopg [9] 4 (fun g s9 wx => ∃ k nd : Nat, k + g = 4 ∧ s9 = .int .i64 k ∧ wx = W3 w x (cell x s k 0) nd)
  case atStart => exact ⟨0, 0, rfl, rfl, rfl⟩
  case round =>
    obtain ⟨k, nd, hk, rfl, rfl⟩ := hrel
    cases gk with
    | zero =>
      obtain rfl : k = 4 := by omega
      have hres : ∀ j, j < 4 → cell x s 4 0 j = part x s j 4 := fun j hj => by unfold cell; rw [if_pos hj]
      go_wp2
      rw [W3_res]
      refine bodyPost_ret (v := .agg (arr fun k => part x s k 4)) ?_ rfl ⟨rfl, ?_⟩
      · simp [results, Try.results11, go_sem]
      · exact pw_below_drewN ((((Below.refl _ _).alloc (Nat.le_refl _) _).alloc (by simp) _).alloc (by simp; omega) _) nd
    | succ g =>
      have hlt : k < 4 := by omega
      have h0 : (0 : Int) ≤ (k : Int) := by omega
      go_wp2
      go_loopg [13] 4 (fun g2 s13 wx => ∃ n nd2 : Nat, n + g2 = 4 ∧ s13 = .int .i64 n ∧ wx = W3 w x (cell x s k n) nd2)
      case atStart => exact ⟨0, nd, rfl, rfl, rfl⟩
      case round =>
        obtain ⟨n, nd2, hn, rfl, rfl⟩ := hrel
        cases gk with
        | zero =>
          obtain rfl : n = 4 := by omega
          go_wp2
          go_roundg g
          case measure => omega
          case rel => exact ⟨k + 1, _, by omega, by go_num, W3_congr (fun j _ => cell_next x s k j)⟩
        | succ g2 =>
          have hltn : n < 4 := by omega
          obtain ⟨hst1, hst2⟩ := H.out k n hlt hltn
          rw [← cell_now] at hst1
          unfold stepOk at hst1
          obtain ⟨hm, ha⟩ := (Bool.and_eq_true _ _).mp hst1
          have HU := Aside0.mk (⟨_, hst2⟩ : ∃ r, phasor_unit.f (s * k * n) = some r)
          clear hst1 hst2
          rcases HS.out with rfl | rfl
          all_goals
           rcases four_of hlt with rfl | rfl | rfl | rfl
          all_goals
           rcases four_of hltn with rfl | rfl | rfl | rfl
          all_goals simp only [c0, c1, c2, c3, Int.reduceMul, Int.reduceNeg] at hm ha
          all_goals
            have HE := Aside0.mk (W3_set w x)
            go_wp2
            refine still_tail 12 (by kernel_rfl) (by kernel_rfl) ?_
            simp only [List.take_succ_cons, List.take_zero, List.drop_succ_cons, List.drop_zero]
            iterate 9 still_step
            still_call (unit_same _ HU.out _)
            iterate 2 still_step
            refine wpStill_nil ?_
            go_wp2
            go_roundg g2
            case measure => omega
            case rel =>
              first
                | refine ⟨1, nd2 + 1, by omega, rfl, ?_⟩
                | refine ⟨2, nd2 + 1, by omega, rfl, ?_⟩
                | refine ⟨3, nd2 + 1, by omega, rfl, ?_⟩
                | refine ⟨4, nd2 + 1, by omega, rfl, ?_⟩
              · refine (W3_set w x _ _ _ (by decide) (stepV _ _ _)).trans ?_
                exact W3_congr (fun j _ => cell_step x _ _ _ j)
end Go.Proofs.Ytofedlghaopciaa.FourW
