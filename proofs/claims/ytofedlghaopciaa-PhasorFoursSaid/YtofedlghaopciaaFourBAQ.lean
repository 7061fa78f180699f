/- phasor.Back, walked by hand: where a fourth isn't whole. -/
import Derived.Test.YtofedlghaopciaaFourBYQ
set_option linter.unusedVariables false
set_option linter.unusedSimpArgs false
namespace Go.Proofs.Ytofedlghaopciaa.FourW
open Go Go.RowKit Go.Proofs.Ytofedlghaopciaa.PQ Go.Proofs.YtofedlghaopciaaW.PrintWords Go.Proofs.YtofedlghaopciaaW.PrintLast Go.Proofs.YtofedlghaopciaaW.PrintMore
attribute [local go_sem high] fx_eql fx_neq fx_lss fx_leq fx_gtr fx_geq fx_add fx_sub fx_mul fx_neg fx_toint cxx_add cxx_sub cxx_mul cxx_eql cxx_neq cxx_pick st_float st_complex
set_option maxHeartbeats 1000000 in
set_option maxRecDepth 100000 in
theorem back_arg (x z : Nat → Cx) (w : World) (m : Nat) (hm : m < 4) (hb : ∀ j, j < 4 → wholeYes (x j)) (hs : sumsOk x 1) (hq : ∀ j, j < 4 → cQuoBits (part x 1 j 4).re (part x 1 j 4).im four 0 = some ((z j).re, (z j).im)) (hp : ∀ j, j < m → wholeQ (z j)) (ht : fracQ (z m)) :
    Calls Try.prog 8 #[.agg (arr x)] w fun e w' => e = .returned (.tuple #[.agg arr0, .int .i64 8]) ∧ Below w.heap.size w w' := by
  have H := Aside0.mk hb
  have HS := Aside0.mk hs
  have HQ := Aside0.mk hq
  have HT := Aside0.mk ht
  have HP := Aside0.mk hp
  have HM := Aside0.mk hm
  clear hb hs hq ht hp hm
  have hi0 : ∀ W, (Instr.index 26 (.agg (arr x)) (.int .i64 0)).run Try.prog W = .ok (.complex .f64 (x 0).re (x 0).im) W := pick4 x 0 (by decide) (by decide)
  have hi1 : ∀ W, (Instr.index 26 (.agg (arr x)) (.int .i64 1)).run Try.prog W = .ok (.complex .f64 (x 1).re (x 1).im) W := pick4 x 1 (by decide) (by decide)
  have hi2 : ∀ W, (Instr.index 26 (.agg (arr x)) (.int .i64 2)).run Try.prog W = .ok (.complex .f64 (x 2).re (x 2).im) W := pick4 x 2 (by decide) (by decide)
  have hi3 : ∀ W, (Instr.index 26 (.agg (arr x)) (.int .i64 3)).run Try.prog W = .ok (.complex .f64 (x 3).re (x 3).im) W := pick4 x 3 (by decide) (by decide)
  have hj0 : ∀ W, (Instr.index 26 (.agg (arr fun k => part x 1 k 4)) (.int .i64 0)).run Try.prog W = .ok (.complex .f64 (part x 1 0 4).re (part x 1 0 4).im) W := pick4 (fun k => part x 1 k 4) 0 (by decide) (by decide)
  have hj1 : ∀ W, (Instr.index 26 (.agg (arr fun k => part x 1 k 4)) (.int .i64 1)).run Try.prog W = .ok (.complex .f64 (part x 1 1 4).re (part x 1 1 4).im) W := pick4 (fun k => part x 1 k 4) 1 (by decide) (by decide)
  have hj2 : ∀ W, (Instr.index 26 (.agg (arr fun k => part x 1 k 4)) (.int .i64 2)).run Try.prog W = .ok (.complex .f64 (part x 1 2 4).re (part x 1 2 4).im) W := pick4 (fun k => part x 1 k 4) 2 (by decide) (by decide)
  have hj3 : ∀ W, (Instr.index 26 (.agg (arr fun k => part x 1 k 4)) (.int .i64 3)).run Try.prog W = .ok (.complex .f64 (part x 1 3 4).re (part x 1 3 4).im) W := pick4 (fun k => part x 1 k 4) 3 (by decide) (by decide)
  go_enter Try.func8, Try.ntmps8
  go_wp2
  go_loopg [10] 4 (fun g s10 wx => ∃ n nd : Nat, n + g = 4 ∧ s10 = .int .i64 n ∧ wx = W2 w x nd)
  case atStart => exact ⟨0, 0, rfl, rfl, rfl⟩
  case round =>
    obtain ⟨n, nd, hn, rfl, rfl⟩ := hrel
    cases gk with
    | zero =>
      obtain rfl : n = 4 := by omega
      go_wp2_with (go_at_call 11; (with_reducible refine (sums_calls x 1 (.inl rfl) _ HS.out).mono ?_); rintro e w1 ⟨rfl, hb⟩; have HB1 := Aside0.mk ((W2_below w x nd).trans (hb.mono (by simp; omega))); have hc1 : ∀ j, j < 4 → w1.cell? ⟨w.heap.size + 1, j, none⟩ = some (.complex .f64 0 0) := (fun j hj => ((bcell hb).1 _ j (by simp)).trans (W2_cell w x nd j hj)); have c10 := hc1 0 (by decide); have c11 := hc1 1 (by decide); have c12 := hc1 2 (by decide); have c13 := hc1 3 (by decide); have hf1 : ∀ j, w1.frozen? ⟨w.heap.size + 1, j, none⟩ = false := (fun j => ((bcell hb).2 _ j (by simp)).trans (W2_free w x nd j)); have hz : w.heap.size + 1 < w1.heap.size := (by have := hb.size; simp at this; omega); clear hb hc1)
      go_loopg [28] 4 (fun g2 s28 wx => ∃ k nd2 : Nat, k + g2 = 4 ∧ k ≤ m ∧ s28 = .int .i64 k ∧ wx = W4 w1 (mid (fun k => part x 1 k 4) z k) nd2)
      case atStart => exact ⟨0, 0, rfl, Nat.zero_le _, rfl, rfl⟩
      case round =>
        obtain ⟨k, nd2, hk, hkm, rfl, rfl⟩ := hrel
        cases gk with
        | zero => have := HM.out; omega
        | succ g2 =>
          have hltk : k < 4 := by omega
          have hquo := quo_run _ _ _ _ (HQ.out k hltk)
          by_cases hlm : k < m
          · obtain ⟨a, b, ha, hfa, hb, hfb⟩ := HP.out k hlm
            have HF := Aside0.mk (fun W => math_Trunc.calls (z k).re a W ha)
            have HF2 := Aside0.mk (fun W => math_Trunc.calls (z k).im b W hb)
            clear ha hb
            have HE := Aside0.mk (fun n => (W4_set w1 (mid (fun k => part x 1 k 4) z k) n k hltk (z k)).trans (W4_congr (fun j _ => mid_step (fun k => part x 1 k 4) z k j)))
            have HK := Aside0.mk (show k + 1 + g2 = 4 by omega)
            have HL := Aside0.mk (show k + 1 ≤ m by omega)
            clear hkm hlm
            rcases four_of hltk with rfl | rfl | rfl | rfl
            all_goals
              go_wp2_with (go_at_call 13; (first | ((with_reducible refine (HF.out _).mono ?_); rintro e w2 ⟨rfl, ⟨nq, rfl⟩⟩) | ((with_reducible refine (HF2.out _).mono ?_); rintro e w2 ⟨rfl, ⟨nq, rfl⟩⟩)))
              go_roundg g2
              case measure => omega
              case rel =>
                exact ⟨_, _, HK.out, HL.out, rfl, HE.out _⟩
          · obtain rfl : k = m := by omega
            clear hkm hlm
            have HD : ∀ n v0 v1 v2 v3, _ := fun (n : Nat) v0 v1 v2 v3 => four_sets (W4 w1 (mid (fun k => part x 1 k 4) z k) n) (w.heap.size + 1) v0 v1 v2 v3 ((W4_old w1 _ n _ _ hz).trans c10) ((W4_old w1 _ n _ _ hz).trans c11) ((W4_old w1 _ n _ _ hz).trans c12) ((W4_old w1 _ n _ _ hz).trans c13)
            have HD := Aside0.mk HD
            have HBW := Aside0.mk (fun n => W4_below w1 (mid (fun k => part x 1 k 4) z k) n HB1.out (by omega))
            rcases HT.out with ⟨a, ha, hfa⟩ | ⟨a, b, ha, hfa, hb, hfb⟩
            · have HF := Aside0.mk (fun W => math_Trunc.calls (z k).re a W ha)
              clear ha
              rcases four_of hltk with rfl | rfl | rfl | rfl
              all_goals
                go_wp2_with (go_at_call 13; (first | ((with_reducible refine (HF.out _).mono ?_); rintro e w2 ⟨rfl, ⟨nq, rfl⟩⟩)))
                obtain ⟨e0, e1, e2, e3⟩ := HD.out (nd2 + nq) (.complex .f64 0 0) (.complex .f64 0 0) (.complex .f64 0 0) (.complex .f64 0 0)
                refine bodyPost_ret (v := .tuple #[.agg arr0, .int .i64 8]) ?_ rfl ⟨rfl, ?_⟩
                · simp [results, Try.results8, go_sem, e0, e1, e2, e3]
                · exact (((((HBW.out _).setCell (by simp) _).setCell (by simp) _).setCell (by simp) _).setCell (by simp) _)
            · have HF := Aside0.mk (fun W => math_Trunc.calls (z k).re a W ha)
              have HF2 := Aside0.mk (fun W => math_Trunc.calls (z k).im b W hb)
              clear ha hb
              rcases four_of hltk with rfl | rfl | rfl | rfl
              all_goals
                go_wp2_with (go_at_call 13; (first | ((with_reducible refine (HF.out _).mono ?_); rintro e w2 ⟨rfl, ⟨nq, rfl⟩⟩) | ((with_reducible refine (HF2.out _).mono ?_); rintro e w2 ⟨rfl, ⟨nq2, rfl⟩⟩)))
                obtain ⟨e0, e1, e2, e3⟩ := HD.out (nd2 + nq + nq2) (.complex .f64 0 0) (.complex .f64 0 0) (.complex .f64 0 0) (.complex .f64 0 0)
                refine bodyPost_ret (v := .tuple #[.agg arr0, .int .i64 8]) ?_ rfl ⟨rfl, ?_⟩
                · simp [results, Try.results8, go_sem, e0, e1, e2, e3]
                · exact (((((HBW.out _).setCell (by simp) _).setCell (by simp) _).setCell (by simp) _).setCell (by simp) _)
    | succ g =>
      have hlt : n < 4 := by omega
      have HF := Aside0.mk (fun W => phasor_whole.calls (x n).re most4 true W (H.out n hlt).1)
      have HF2 := Aside0.mk (fun W => phasor_whole.calls (x n).im most4 true W (H.out n hlt).2)
      rcases four_of hlt with rfl | rfl | rfl | rfl
      all_goals
        go_wp2_with (go_at_call 12; (first | ((with_reducible refine (HF.out _).mono ?_); rintro e w1 ⟨rfl, ⟨nq, rfl⟩⟩) | ((with_reducible refine (HF2.out _).mono ?_); rintro e w1 ⟨rfl, ⟨nq, rfl⟩⟩)))
        go_roundg g
        case measure => omega
        case rel => first
          | exact ⟨1, _, by omega, rfl, rfl⟩
          | exact ⟨2, _, by omega, rfl, rfl⟩
          | exact ⟨3, _, by omega, rfl, rfl⟩
          | exact ⟨4, _, by omega, rfl, rfl⟩
end Go.Proofs.Ytofedlghaopciaa.FourW
