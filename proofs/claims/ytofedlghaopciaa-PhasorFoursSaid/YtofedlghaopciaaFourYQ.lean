/- phasor.Four, walked by hand over phasor.sums. -/
import Derived.Test.YtofedlghaopciaaFourWQ
set_option linter.unusedVariables false
set_option linter.unusedSimpArgs false
namespace Go.Proofs.Ytofedlghaopciaa.FourW
open Go Go.RowKit Go.Proofs.Ytofedlghaopciaa.PQ Go.Proofs.YtofedlghaopciaaW.PrintWords Go.Proofs.YtofedlghaopciaaW.PrintLast Go.Proofs.YtofedlghaopciaaW.PrintMore
attribute [local go_sem high] fx_eql fx_neq fx_lss fx_leq fx_gtr fx_geq fx_add fx_sub fx_mul fx_neg fx_toint cxx_add cxx_sub cxx_mul cxx_eql cxx_neq cxx_pick st_float st_complex
abbrev W2 (w : World) (x : Nat → Cx) (nd : Nat) : World := ((w.alloc (.cells (arr x) 26)).alloc (.cells arr0 26)).drewN nd
/-- Four stores into one block: what the four cells hold. -/
theorem four_sets (w : World) (b : Nat) (v0 v1 v2 v3 : Value) {u0 u1 u2 u3 : Value} (h0 : w.cell? ⟨b, 0, none⟩ = some u0) (h1 : w.cell? ⟨b, 1, none⟩ = some u1) (h2 : w.cell? ⟨b, 2, none⟩ = some u2) (h3 : w.cell? ⟨b, 3, none⟩ = some u3) :
    ((((w.setCell ⟨b, 0, none⟩ v0).setCell ⟨b, 1, none⟩ v1).setCell ⟨b, 2, none⟩ v2).setCell ⟨b, 3, none⟩ v3).cell? ⟨b, 0, none⟩ = some v0 ∧
    ((((w.setCell ⟨b, 0, none⟩ v0).setCell ⟨b, 1, none⟩ v1).setCell ⟨b, 2, none⟩ v2).setCell ⟨b, 3, none⟩ v3).cell? ⟨b, 1, none⟩ = some v1 ∧
    ((((w.setCell ⟨b, 0, none⟩ v0).setCell ⟨b, 1, none⟩ v1).setCell ⟨b, 2, none⟩ v2).setCell ⟨b, 3, none⟩ v3).cell? ⟨b, 2, none⟩ = some v2 ∧
    ((((w.setCell ⟨b, 0, none⟩ v0).setCell ⟨b, 1, none⟩ v1).setCell ⟨b, 2, none⟩ v2).setCell ⟨b, 3, none⟩ v3).cell? ⟨b, 3, none⟩ = some v3 := by
  have n : ∀ (W : World) (i j : Nat) (v : Value), i ≠ j → (W.setCell ⟨b, i, none⟩ v).cell? ⟨b, j, none⟩ = W.cell? ⟨b, j, none⟩ := fun W i j v h => World.cell?_setCell_other (h := fun e => h (by injection e)) ..
  refine ⟨?_, ?_, ?_, ?_⟩
  · rw [n _ 3 0 _ (by decide), n _ 2 0 _ (by decide), n _ 1 0 _ (by decide)]; exact World.cell?_setCell_same (h := h0) ..
  · rw [n _ 3 1 _ (by decide), n _ 2 1 _ (by decide)]; exact World.cell?_setCell_same (h := ((n _ 0 1 _ (by decide)).trans h1)) ..
  · rw [n _ 3 2 _ (by decide)]; exact World.cell?_setCell_same (h := (((n _ 1 2 _ (by decide)).trans (n _ 0 2 _ (by decide))).trans h2)) ..
  · exact World.cell?_setCell_same (h := ((((n _ 2 3 _ (by decide)).trans (n _ 1 3 _ (by decide))).trans (n _ 0 3 _ (by decide))).trans h3)) ..
theorem W2_below (w : World) (x : Nat → Cx) (nd : Nat) : Below w.heap.size w (W2 w x nd) := pw_below_drewN (((Below.refl _ _).alloc (Nat.le_refl _) _).alloc (by simp) _) nd
theorem W2_cell (w : World) (x : Nat → Cx) (nd j : Nat) (hj : j < 4) : (W2 w x nd).cell? ⟨w.heap.size + 1, j, none⟩ = some (.complex .f64 0 0) := by
  show ((w.alloc (.cells (arr x) 26)).alloc (.cells arr0 26)).cell? _ = _
  rw [World.cell?_alloc_at _ _ _ _ (by simp)]
  rcases four_of hj with rfl | rfl | rfl | rfl <;> rfl
theorem W2_arg (w : World) (x : Nat → Cx) (nd j : Nat) (hj : j < 4) : (W2 w x nd).cell? ⟨w.heap.size, j, none⟩ = some (.complex .f64 (x j).re (x j).im) := by
  show ((w.alloc (.cells (arr x) 26)).alloc (.cells arr0 26)).cell? _ = _
  rw [World.cell?_alloc_past _ _ _ (by simp), World.cell?_alloc_at _ _ _ _ rfl]
  rcases four_of hj with rfl | rfl | rfl | rfl <;> rfl
theorem W2_free (w : World) (x : Nat → Cx) (nd j : Nat) : (W2 w x nd).frozen? ⟨w.heap.size + 1, j, none⟩ = false := by
  show ((w.alloc (.cells (arr x) 26)).alloc (.cells arr0 26)).frozen? _ = _
  exact World.frozen?_alloc_at _ _ _ _ (by simp)
theorem bcell {W w1 : World} {n : Nat} (hb : Below n W w1) : (∀ b o, b < n → w1.cell? ⟨b, o, none⟩ = W.cell? ⟨b, o, none⟩) ∧ (∀ b o, b < n → w1.frozen? ⟨b, o, none⟩ = W.frozen? ⟨b, o, none⟩) :=
  ⟨fun b o h => hb.cell (p := ⟨b, o, none⟩) h, fun b o h => hb.frozen (p := ⟨b, o, none⟩) h⟩
set_option maxHeartbeats 4000000 in
set_option maxRecDepth 100000 in
theorem four_yes (x : Nat → Cx) (w : World) (hb : ∀ j, j < 4 → phasor_Fits.f (x j) = some true) (hs : sumsOk x (-1)) :
    Calls Try.prog 7 #[.agg (arr x)] w fun e w' => e = .returned (.tuple #[.agg (arr fun k => part x (-1) k 4), .int .i64 0]) ∧ Below w.heap.size w w' := by
  have H := Aside0.mk hb
  have HS := Aside0.mk hs
  clear hb hs
  have hi0 : ∀ W, (Instr.index 26 (.agg (arr x)) (.int .i64 0)).run Try.prog W = .ok (.complex .f64 (x 0).re (x 0).im) W := pick4 x 0 (by decide) (by decide)
  have hi1 : ∀ W, (Instr.index 26 (.agg (arr x)) (.int .i64 1)).run Try.prog W = .ok (.complex .f64 (x 1).re (x 1).im) W := pick4 x 1 (by decide) (by decide)
  have hi2 : ∀ W, (Instr.index 26 (.agg (arr x)) (.int .i64 2)).run Try.prog W = .ok (.complex .f64 (x 2).re (x 2).im) W := pick4 x 2 (by decide) (by decide)
  have hi3 : ∀ W, (Instr.index 26 (.agg (arr x)) (.int .i64 3)).run Try.prog W = .ok (.complex .f64 (x 3).re (x 3).im) W := pick4 x 3 (by decide) (by decide)
  go_enter Try.func7, Try.ntmps7
  go_wp2
  go_loopg [7] 4 (fun g s7 wx => ∃ n : Nat, n + g = 4 ∧ s7 = .int .i64 n ∧ Below (w.heap.size + 2) (W2 w x 0) wx)
  case atStart => exact ⟨0, rfl, rfl, Below.refl _ _⟩
  case round =>
    obtain ⟨n, hn, rfl, hbx⟩ := hrel
    have HB := Aside0.mk hbx
    cases gk with
    | zero =>
      obtain rfl : n = 4 := by omega
      obtain ⟨hc, hf⟩ := bcell hbx
      have k0 : ∀ j, j < 4 → wr.cell? ⟨w.heap.size, j, none⟩ = some (.complex .f64 (x j).re (x j).im) := fun j hj => (hc _ j (by omega)).trans (W2_arg w x 0 j hj)
      have r0 : ∀ j, j < 4 → wr.cell? ⟨w.heap.size + 1, j, none⟩ = some (.complex .f64 0 0) := fun j hj => (hc _ j (by omega)).trans (W2_cell w x 0 j hj)
      have k00 := k0 0 (by decide)
      have k01 := k0 1 (by decide)
      have k02 := k0 2 (by decide)
      have k03 := k0 3 (by decide)
      have hz : w.heap.size + 2 ≤ wr.heap.size := by have := hbx.size; simpa using this
      have HR := Aside0.mk r0
      have HZ := Aside0.mk hz
      have HFz := Aside0.mk hf
      clear k0 r0 hc hf hbx hz
      go_wp2_with (go_at_call 11; refine (sums_calls x (-1) (.inr rfl) _ HS.out).mono ?_; rintro e w1 ⟨rfl, hb⟩; have HB1 := Aside0.mk hb; have hc1 : ∀ j, j < 4 → w1.cell? ⟨w.heap.size + 1, j, none⟩ = some (.complex .f64 0 0) := (fun j hj => ((bcell hb).1 _ j (by have := HZ.out; omega)).trans (HR.out j hj)); have c10 := hc1 0 (by decide); have c11 := hc1 1 (by decide); have c12 := hc1 2 (by decide); have c13 := hc1 3 (by decide); have hf1 : ∀ j, w1.frozen? ⟨w.heap.size + 1, j, none⟩ = false := (fun j => ((bcell hb).2 _ j (by have := HZ.out; omega)).trans ((HFz.out _ j (by omega)).trans (W2_free w x 0 j))); clear hb hc1)
      have e := four_sets w1 (w.heap.size + 1) (.complex .f64 (part x (-1) 0 4).re (part x (-1) 0 4).im) (.complex .f64 (part x (-1) 1 4).re (part x (-1) 1 4).im) (.complex .f64 (part x (-1) 2 4).re (part x (-1) 2 4).im) (.complex .f64 (part x (-1) 3 4).re (part x (-1) 3 4).im) c10 c11 c12 c13
      obtain ⟨e0, e1, e2, e3⟩ := e
      refine bodyPost_ret (v := .tuple #[.agg (arr fun k => part x (-1) k 4), .int .i64 0]) ?_ rfl ⟨rfl, ?_⟩
      · simp [results, Try.results7, go_sem, e0, e1, e2, e3]
      · exact ((((((W2_below w x 0).trans (HB.out.mono (by omega))).trans (HB1.out.mono (by have := HZ.out; omega))).setCell (by simp) _).setCell (by simp) _).setCell (by simp) _).setCell (by simp) _
    | succ g =>
      have hlt : n < 4 := by omega
      have HF := Aside0.mk (fun W => phasor_Fits.calls (x n) true W (H.out n hlt))
      clear hbx
      rcases four_of hlt with rfl | rfl | rfl | rfl
      all_goals
        go_wp2_with (go_at_call 10; refine (HF.out _).mono ?_; rintro e w1 ⟨rfl, hb⟩; have HB1 := Aside0.mk (HB.out.trans (hb.mono (by have := HB.out.size; simpa using this))); clear hb)
        go_roundg g
        case measure => omega
        case rel => first
          | exact ⟨1, by omega, rfl, HB1.out⟩
          | exact ⟨2, by omega, rfl, HB1.out⟩
          | exact ⟨3, by omega, rfl, HB1.out⟩
          | exact ⟨4, by omega, rfl, HB1.out⟩
set_option maxHeartbeats 4000000 in
set_option maxRecDepth 100000 in
theorem four_no (x : Nat → Cx) (w : World) (m : Nat) (hm : m < 4) (hb : ∀ j, j < m → phasor_Fits.f (x j) = some true) (hs : phasor_Fits.f (x m) = some false) :
    Calls Try.prog 7 #[.agg (arr x)] w fun e w' => e = .returned (.tuple #[.agg arr0, .int .i64 5]) ∧ Below w.heap.size w w' := by
  have H := Aside0.mk hb
  have HS := Aside0.mk hs
  clear hb hs
  have hi0 : ∀ W, (Instr.index 26 (.agg (arr x)) (.int .i64 0)).run Try.prog W = .ok (.complex .f64 (x 0).re (x 0).im) W := pick4 x 0 (by decide) (by decide)
  have hi1 : ∀ W, (Instr.index 26 (.agg (arr x)) (.int .i64 1)).run Try.prog W = .ok (.complex .f64 (x 1).re (x 1).im) W := pick4 x 1 (by decide) (by decide)
  have hi2 : ∀ W, (Instr.index 26 (.agg (arr x)) (.int .i64 2)).run Try.prog W = .ok (.complex .f64 (x 2).re (x 2).im) W := pick4 x 2 (by decide) (by decide)
  have hi3 : ∀ W, (Instr.index 26 (.agg (arr x)) (.int .i64 3)).run Try.prog W = .ok (.complex .f64 (x 3).re (x 3).im) W := pick4 x 3 (by decide) (by decide)
  go_enter Try.func7, Try.ntmps7
  go_wp2
  go_loopg [7] 4 (fun g s7 wx => ∃ n : Nat, n + g = 4 ∧ n ≤ m ∧ s7 = .int .i64 n ∧ Below (w.heap.size + 2) (W2 w x 0) wx)
  case atStart => exact ⟨0, rfl, Nat.zero_le _, rfl, Below.refl _ _⟩
  case round =>
    obtain ⟨n, hn, hnm, rfl, hbx⟩ := hrel
    have HB := Aside0.mk hbx
    cases gk with
    | zero => omega
    | succ g =>
      have hlt : n < 4 := by omega
      by_cases hlm : n < m
      · have HF := Aside0.mk (fun W => phasor_Fits.calls (x n) true W (H.out n hlm))
        have HM := Aside0.mk hlm
        clear hbx hm hnm hlm
        rcases four_of hlt with rfl | rfl | rfl | rfl
        all_goals
          go_wp2_with (go_at_call 10; refine (HF.out _).mono ?_; rintro e w1 ⟨rfl, hb⟩; have HB1 := Aside0.mk (HB.out.trans (hb.mono (by have := HB.out.size; simpa using this))); clear hb)
          go_roundg g
          case measure => omega
          case rel =>
            have hlm := HM.out
            first
            | exact ⟨1, by omega, by omega, rfl, HB1.out⟩
            | exact ⟨2, by omega, by omega, rfl, HB1.out⟩
            | exact ⟨3, by omega, by omega, rfl, HB1.out⟩
            | exact ⟨4, by omega, by omega, rfl, HB1.out⟩
      · obtain rfl : n = m := by omega
        have HF := Aside0.mk (fun W => phasor_Fits.calls (x n) false W HS.out)
        have HZ := Aside0.mk (by have := hbx.size; simpa using this : w.heap.size + 2 ≤ wr.heap.size)
        have HR := Aside0.mk (fun j (hj : j < 4) => ((bcell hbx).1 _ j (by omega)).trans (W2_cell w x 0 j hj))
        have HG := Aside0.mk (fun j => ((bcell hbx).2 _ j (by omega)).trans (W2_free w x 0 j))
        clear hbx hm hnm hlm
        rcases four_of hlt with rfl | rfl | rfl | rfl
        all_goals
          go_wp2_with (go_at_call 10; refine (HF.out _).mono ?_; rintro e w1 ⟨rfl, hb⟩; have HB1 := Aside0.mk (HB.out.trans (hb.mono (by have := HB.out.size; simpa using this))); have hc1 : ∀ j, j < 4 → w1.cell? ⟨w.heap.size + 1, j, none⟩ = some (.complex .f64 0 0) := (fun j hj => ((bcell hb).1 _ j (by have := HZ.out; omega)).trans (HR.out j hj)); have c10 := hc1 0 (by decide); have c11 := hc1 1 (by decide); have c12 := hc1 2 (by decide); have c13 := hc1 3 (by decide); have hf1 : ∀ j, w1.frozen? ⟨w.heap.size + 1, j, none⟩ = false := (fun j => ((bcell hb).2 _ j (by have := HZ.out; omega)).trans (HG.out j)); clear hb hc1)
          have e := four_sets w1 (w.heap.size + 1) (.complex .f64 0 0) (.complex .f64 0 0) (.complex .f64 0 0) (.complex .f64 0 0) c10 c11 c12 c13
          obtain ⟨e0, e1, e2, e3⟩ := e
          refine bodyPost_ret (v := .tuple #[.agg arr0, .int .i64 5]) ?_ rfl ⟨rfl, ?_⟩
          · simp [results, Try.results7, go_sem, e0, e1, e2, e3]
          · exact ((((((W2_below w x 0).trans (HB1.out.mono (by omega)))).setCell (by simp) _).setCell (by simp) _).setCell (by simp) _).setCell (by simp) _
end Go.Proofs.Ytofedlghaopciaa.FourW
