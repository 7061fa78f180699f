/- phasor.Back, walked by hand: what it answers where all parts fit. -/
import Derived.Test.YtofedlghaopciaaFourBQ
set_option linter.unusedVariables false
set_option linter.unusedSimpArgs false
namespace Go.Proofs.Ytofedlghaopciaa.FourW
open Go Go.RowKit Go.Proofs.Ytofedlghaopciaa.PQ Go.Proofs.YtofedlghaopciaaW.PrintWords Go.Proofs.YtofedlghaopciaaW.PrintLast Go.Proofs.YtofedlghaopciaaW.PrintMore
attribute [local go_sem high] fx_eql fx_neq fx_lss fx_leq fx_gtr fx_geq fx_add fx_sub fx_mul fx_neg fx_toint cxx_add cxx_sub cxx_mul cxx_eql cxx_neq cxx_pick st_float st_complex
abbrev four : Nat := 4616189618054758400
def wholeQ (z : Cx) : Prop := ∃ a b, math_Trunc.f z.re = some a ∧ feq a z.re = true ∧ math_Trunc.f z.im = some b ∧ feq b z.im = true
def fracQ (z : Cx) : Prop := (∃ a, math_Trunc.f z.re = some a ∧ feq a z.re = false) ∨ (∃ a b, math_Trunc.f z.re = some a ∧ feq a z.re = true ∧ math_Trunc.f z.im = some b ∧ feq b z.im = false)
abbrev W4 (w : World) (o : Nat → Cx) (nd : Nat) : World := (w.alloc (.cells (arr o) 26)).drewN nd
theorem W4_congr {w : World} {o o' : Nat → Cx} {nd : Nat} (h : ∀ j, j < 4 → o j = o' j) : W4 w o nd = W4 w o' nd := by
  unfold W4 arr
  rw [h 0 (by decide), h 1 (by decide), h 2 (by decide), h 3 (by decide)]
theorem W4_set (w : World) (o : Nat → Cx) (nd k : Nat) (hk : k < 4) (z : Cx) : (W4 w o nd).setCell ⟨w.heap.size, k, none⟩ (.complex .f64 z.re z.im) = W4 w (fun j => if j = k then z else o j) nd := by
  have e : ∀ (W : World) a v, (W.drewN nd).setCell a v = (W.setCell a v).drewN nd := fun _ _ _ => rfl
  unfold W4
  rw [e, World.setCell_alloc_at _ _ _ _ _ rfl]
  rcases four_of hk with rfl | rfl | rfl | rfl <;> rfl
theorem W4_old (w : World) (o : Nat → Cx) (nd b j : Nat) (h : b < w.heap.size) : (W4 w o nd).cell? ⟨b, j, none⟩ = w.cell? ⟨b, j, none⟩ := World.cell?_alloc_past _ _ _ h
theorem W4_below {w0 : World} (w : World) (o : Nat → Cx) (nd : Nat) {n : Nat} (h : Below n w0 w) (hn : n ≤ w.heap.size) : Below n w0 (W4 w o nd) := pw_below_drewN (h.alloc hn _) nd
def mid (y z : Nat → Cx) (k j : Nat) : Cx := if j < k then z j else y j
theorem mid_step (y z : Nat → Cx) (k j : Nat) : (if j = k then z k else mid y z k j) = mid y z (k + 1) j := by
  unfold mid
  by_cases h : j = k
  · subst h; rw [if_pos rfl, if_pos (by omega)]
  · rw [if_neg h]
    by_cases h2 : j < k
    · rw [if_pos h2, if_pos (by omega)]
    · rw [if_neg h2, if_neg (by omega)]
theorem quo_run (a b e f : Nat) (h : cQuoBits a b four 0 = some (e, f)) (W : World) : (binOp .quo 25 (.complex .f64 a b) (.complex .f64 four 0)).run Try.prog W = .ok (.complex .f64 e f) W := (run_complex_quo W 25 a b four 0 e f h).1
set_option maxHeartbeats 1000000 in
set_option maxRecDepth 100000 in
theorem back_yes (x z : Nat → Cx) (w : World) (hb : ∀ j, j < 4 → wholeYes (x j)) (hs : sumsOk x 1) (hq : ∀ j, j < 4 → cQuoBits (part x 1 j 4).re (part x 1 j 4).im four 0 = some ((z j).re, (z j).im)) (ht : ∀ j, j < 4 → wholeQ (z j)) :
    Calls Try.prog 8 #[.agg (arr x)] w fun e w' => e = .returned (.tuple #[.agg (arr z), .int .i64 0]) ∧ Below w.heap.size w w' := by
  have H := Aside0.mk hb
  have HS := Aside0.mk hs
  have HQ := Aside0.mk hq
  have HT := Aside0.mk ht
  clear hb hs hq ht
  have hi0 : ∀ W, (Instr.index 26 (.agg (arr x)) (.int .i64 0)).run Try.prog W = .ok (.complex .f64 (x 0).re (x 0).im) W := pick4 x 0 (by decide) (by decide)
  have hi1 : ∀ W, (Instr.index 26 (.agg (arr x)) (.int .i64 1)).run Try.prog W = .ok (.complex .f64 (x 1).re (x 1).im) W := pick4 x 1 (by decide) (by decide)
  have hi2 : ∀ W, (Instr.index 26 (.agg (arr x)) (.int .i64 2)).run Try.prog W = .ok (.complex .f64 (x 2).re (x 2).im) W := pick4 x 2 (by decide) (by decide)
  have hi3 : ∀ W, (Instr.index 26 (.agg (arr x)) (.int .i64 3)).run Try.prog W = .ok (.complex .f64 (x 3).re (x 3).im) W := pick4 x 3 (by decide) (by decide)
  have hj0 : ∀ W, (Instr.index 26 (.agg (arr fun k => part x 1 k 4)) (.int .i64 0)).run Try.prog W = .ok (.complex .f64 (part x 1 0 4).re (part x 1 0 4).im) W := pick4 (fun k => part x 1 k 4) 0 (by decide) (by decide)
  have hj1 : ∀ W, (Instr.index 26 (.agg (arr fun k => part x 1 k 4)) (.int .i64 1)).run Try.prog W = .ok (.complex .f64 (part x 1 1 4).re (part x 1 1 4).im) W := pick4 (fun k => part x 1 k 4) 1 (by decide) (by decide)
  have hj2 : ∀ W, (Instr.index 26 (.agg (arr fun k => part x 1 k 4)) (.int .i64 2)).run Try.prog W = .ok (.complex .f64 (part x 1 2 4).re (part x 1 2 4).im) W := pick4 (fun k => part x 1 k 4) 2 (by decide) (by decide)
  have hj3 : ∀ W, (Instr.index 26 (.agg (arr fun k => part x 1 k 4)) (.int .i64 3)).run Try.prog W = .ok (.complex .f64 (part x 1 3 4).re (part x 1 3 4).im) W := pick4 (fun k => part x 1 k 4) 3 (by decide) (by decide)
  go_enter Try.func8, Try.ntmps8
  go_wp2
  go_loopg [10] 4 (fun g s10 wx => ∃ n nd : Nat, n + g = 4 ∧ s10 = .int .i64 n ∧ wx = W2 w x nd)
  case atStart => exact ⟨0, 0, rfl, rfl, rfl⟩
  case round =>
    obtain ⟨n, nd, hn, rfl, rfl⟩ := hrel
    cases gk with
    | zero =>
      obtain rfl : n = 4 := by omega
      go_wp2_with (go_at_call 11; (with_reducible refine (sums_calls x 1 (.inl rfl) _ HS.out).mono ?_); rintro e w1 ⟨rfl, hb⟩; have HB1 := Aside0.mk ((W2_below w x nd).trans (hb.mono (by simp; omega))); have hc1 : ∀ j, j < 4 → w1.cell? ⟨w.heap.size + 1, j, none⟩ = some (.complex .f64 0 0) := (fun j hj => ((bcell hb).1 _ j (by simp)).trans (W2_cell w x nd j hj)); have c10 := hc1 0 (by decide); have c11 := hc1 1 (by decide); have c12 := hc1 2 (by decide); have c13 := hc1 3 (by decide); have hf1 : ∀ j, w1.frozen? ⟨w.heap.size + 1, j, none⟩ = false := (fun j => ((bcell hb).2 _ j (by simp)).trans (W2_free w x nd j)); have hz : w.heap.size + 1 < w1.heap.size := (by have := hb.size; simp at this; omega); clear hb hc1)
      go_loopg [28] 4 (fun g2 s28 wx => ∃ k nd2 : Nat, k + g2 = 4 ∧ s28 = .int .i64 k ∧ wx = W4 w1 (mid (fun k => part x 1 k 4) z k) nd2)
      case atStart => exact ⟨0, 0, rfl, rfl, rfl⟩
      case round =>
        obtain ⟨k, nd2, hk, rfl, rfl⟩ := hrel
        cases gk with
        | zero => 
          obtain rfl : k = 4 := by omega
          go_wp2
          obtain ⟨e0, e1, e2, e3⟩ := four_sets (W4 w1 (mid (fun k => part x 1 k 4) z 4) nd2) (w.heap.size + 1) (.complex .f64 (mid (fun k => part x 1 k 4) z 4 0).re (mid (fun k => part x 1 k 4) z 4 0).im) (.complex .f64 (mid (fun k => part x 1 k 4) z 4 1).re (mid (fun k => part x 1 k 4) z 4 1).im) (.complex .f64 (mid (fun k => part x 1 k 4) z 4 2).re (mid (fun k => part x 1 k 4) z 4 2).im) (.complex .f64 (mid (fun k => part x 1 k 4) z 4 3).re (mid (fun k => part x 1 k 4) z 4 3).im) ((W4_old w1 _ nd2 _ _ hz).trans c10) ((W4_old w1 _ nd2 _ _ hz).trans c11) ((W4_old w1 _ nd2 _ _ hz).trans c12) ((W4_old w1 _ nd2 _ _ hz).trans c13)
          refine bodyPost_ret (v := .tuple #[.agg (arr (mid (fun k => part x 1 k 4) z 4)), .int .i64 0]) ?_ rfl ⟨rfl, ?_⟩
          · simp [results, Try.results8, go_sem, e0, e1, e2, e3]
          · exact (((((W4_below w1 _ nd2 HB1.out (by omega)).setCell (by simp) _).setCell (by simp) _).setCell (by simp) _).setCell (by simp) _)
        | succ g2 =>
          have hltk : k < 4 := by omega
          have hquo := quo_run _ _ _ _ (HQ.out k hltk)
          obtain ⟨a, b, ha, hfa, hb, hfb⟩ := HT.out k hltk
          have HF := Aside0.mk (fun W => math_Trunc.calls (z k).re a W ha)
          have HF2 := Aside0.mk (fun W => math_Trunc.calls (z k).im b W hb)
          clear ha hb
          have HE := Aside0.mk (fun n => (W4_set w1 (mid (fun k => part x 1 k 4) z k) n k hltk (z k)).trans (W4_congr (fun j _ => mid_step (fun k => part x 1 k 4) z k j)))
          have HK := Aside0.mk (show k + 1 + g2 = 4 by omega)
          rcases four_of hltk with rfl | rfl | rfl | rfl
          all_goals
            go_wp2_with (go_at_call 13; (first | ((with_reducible refine (HF.out _).mono ?_); rintro e w2 ⟨rfl, ⟨nq, rfl⟩⟩) | ((with_reducible refine (HF2.out _).mono ?_); rintro e w2 ⟨rfl, ⟨nq, rfl⟩⟩)))
            go_roundg g2
            case measure => omega
            case rel =>
              exact ⟨_, _, HK.out, rfl, HE.out _⟩
    | succ g =>
      have hlt : n < 4 := by omega
      have HF := Aside0.mk (fun W => phasor_whole.calls (x n).re most4 true W (H.out n hlt).1)
      have HF2 := Aside0.mk (fun W => phasor_whole.calls (x n).im most4 true W (H.out n hlt).2)
      rcases four_of hlt with rfl | rfl | rfl | rfl
      all_goals
        go_wp2_with (go_at_call 12; (first | ((with_reducible refine (HF.out _).mono ?_); rintro e w1 ⟨rfl, ⟨nq, rfl⟩⟩) | ((with_reducible refine (HF2.out _).mono ?_); rintro e w1 ⟨rfl, ⟨nq, rfl⟩⟩)))
        go_roundg g
        case measure => omega
        case rel => first
          | exact ⟨1, _, by omega, rfl, rfl⟩
          | exact ⟨2, _, by omega, rfl, rfl⟩
          | exact ⟨3, _, by omega, rfl, rfl⟩
          | exact ⟨4, _, by omega, rfl, rfl⟩
end Go.Proofs.Ytofedlghaopciaa.FourW
