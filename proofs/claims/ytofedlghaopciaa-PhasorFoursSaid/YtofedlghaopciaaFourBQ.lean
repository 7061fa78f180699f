/- phasor.Back, walked by hand over phasor.sums. -/
import Derived.Test.YtofedlghaopciaaFourYQ
import Derived.Laws.ComplexQuo
set_option linter.unusedVariables false
set_option linter.unusedSimpArgs false
namespace Go.Proofs.Ytofedlghaopciaa.FourW
open Go Go.RowKit Go.Proofs.Ytofedlghaopciaa.PQ Go.Proofs.YtofedlghaopciaaW.PrintWords Go.Proofs.YtofedlghaopciaaW.PrintLast Go.Proofs.YtofedlghaopciaaW.PrintMore
attribute [local go_sem high] fx_eql fx_neq fx_lss fx_leq fx_gtr fx_geq fx_add fx_sub fx_mul fx_neg fx_toint cxx_add cxx_sub cxx_mul cxx_eql cxx_neq cxx_pick st_float st_complex
/-- The greatest part that Back takes, as bits. -/
abbrev most4 : Nat := 4728779608739020800
theorem W2_res (w : World) (x : Nat → Cx) (nd : Nat) (v0 v1 v2 v3 : Value) : ((((W2 w x nd).setCell ⟨w.heap.size + 1, 0, none⟩ v0).setCell ⟨w.heap.size + 1, 1, none⟩ v1).setCell ⟨w.heap.size + 1, 2, none⟩ v2).setCell ⟨w.heap.size + 1, 3, none⟩ v3 =
    ((w.alloc (.cells (arr x) 26)).alloc (.cells #[v0, v1, v2, v3] 26)).drewN nd := by
  have e : ∀ (W : World) a v, (W.drewN nd).setCell a v = (W.setCell a v).drewN nd := fun _ _ _ => rfl
  have f : ∀ (W : World) (c : Array Value) (i : Nat) (v : Value), W.heap.size = w.heap.size + 1 → (W.alloc (.cells c 26)).setCell ⟨w.heap.size + 1, i, none⟩ v = W.alloc (.cells (c.setIfInBounds i v) 26) := fun W c i v hW => World.setCell_alloc_at _ _ _ _ _ hW.symm
  unfold W2
  simp only [e]
  rw [f _ _ _ _ (by simp), f _ _ _ _ (by simp), f _ _ _ _ (by simp), f _ _ _ _ (by simp)]
  rfl
def wholeYes (z : Cx) : Prop := phasor_whole.f z.re most4 = some true ∧ phasor_whole.f z.im most4 = some true
def wholeNo (z : Cx) : Prop := phasor_whole.f z.re most4 = some false ∨ (phasor_whole.f z.re most4 = some true ∧ phasor_whole.f z.im most4 = some false)
set_option maxHeartbeats 4000000 in
set_option maxRecDepth 100000 in
theorem back_range (x : Nat → Cx) (w : World) (m : Nat) (hm : m < 4) (hb : ∀ j, j < m → wholeYes (x j)) (hs : wholeNo (x m)) :
    Calls Try.prog 8 #[.agg (arr x)] w fun e w' => e = .returned (.tuple #[.agg arr0, .int .i64 5]) ∧ Below w.heap.size w w' := by
  have H := Aside0.mk hb
  have HS := Aside0.mk hs
  clear hb hs
  have hi0 : ∀ W, (Instr.index 26 (.agg (arr x)) (.int .i64 0)).run Try.prog W = .ok (.complex .f64 (x 0).re (x 0).im) W := pick4 x 0 (by decide) (by decide)
  have hi1 : ∀ W, (Instr.index 26 (.agg (arr x)) (.int .i64 1)).run Try.prog W = .ok (.complex .f64 (x 1).re (x 1).im) W := pick4 x 1 (by decide) (by decide)
  have hi2 : ∀ W, (Instr.index 26 (.agg (arr x)) (.int .i64 2)).run Try.prog W = .ok (.complex .f64 (x 2).re (x 2).im) W := pick4 x 2 (by decide) (by decide)
  have hi3 : ∀ W, (Instr.index 26 (.agg (arr x)) (.int .i64 3)).run Try.prog W = .ok (.complex .f64 (x 3).re (x 3).im) W := pick4 x 3 (by decide) (by decide)
  go_enter Try.func8, Try.ntmps8
  go_wp2
  go_loopg [10] 4 (fun g s10 wx => ∃ n nd : Nat, n + g = 4 ∧ n ≤ m ∧ s10 = .int .i64 n ∧ wx = W2 w x nd)
  case atStart => exact ⟨0, 0, rfl, Nat.zero_le _, rfl, rfl⟩
  case round =>
    obtain ⟨n, nd, hn, hnm, rfl, rfl⟩ := hrel
    cases gk with
    | zero => omega
    | succ g =>
      have hlt : n < 4 := by omega
      by_cases hlm : n < m
      · have HF := Aside0.mk (fun W => phasor_whole.calls (x n).re most4 true W (H.out n hlm).1)
        have HF2 := Aside0.mk (fun W => phasor_whole.calls (x n).im most4 true W (H.out n hlm).2)
        have HM := Aside0.mk hlm
        clear hm hnm hlm
        rcases four_of hlt with rfl | rfl | rfl | rfl
        all_goals
          go_wp2_with (go_at_call 12; (first | ((with_reducible refine (HF.out _).mono ?_); rintro e w1 ⟨rfl, ⟨nq, rfl⟩⟩) | ((with_reducible refine (HF2.out _).mono ?_); rintro e w1 ⟨rfl, ⟨nq, rfl⟩⟩)))
          go_roundg g
          case measure => omega
          case rel =>
            have hlm := HM.out
            first
            | exact ⟨1, _, by omega, by omega, rfl, rfl⟩
            | exact ⟨2, _, by omega, by omega, rfl, rfl⟩
            | exact ⟨3, _, by omega, by omega, rfl, rfl⟩
            | exact ⟨4, _, by omega, by omega, rfl, rfl⟩
      · obtain rfl : n = m := by omega
        clear hm hnm hlm
        rcases HS.out with hs | ⟨hs1, hs2⟩
        · have HF := Aside0.mk (fun W => phasor_whole.calls (x n).re most4 false W hs)
          clear hs
          rcases four_of hlt with rfl | rfl | rfl | rfl
          all_goals
            go_wp2_with (go_at_call 12; (first | ((with_reducible refine (HF.out _).mono ?_); rintro e w1 ⟨rfl, ⟨nq, rfl⟩⟩)))
            rw [W2_res]
            refine bodyPost_ret (v := .tuple #[.agg arr0, .int .i64 5]) ?_ rfl ⟨rfl, ?_⟩
            · simp [results, Try.results8, go_sem]
            · exact pw_below_drewN (((Below.refl _ _).alloc (Nat.le_refl _) _).alloc (by simp) _) _
        · have HF := Aside0.mk (fun W => phasor_whole.calls (x n).re most4 true W hs1)
          have HF2 := Aside0.mk (fun W => phasor_whole.calls (x n).im most4 false W hs2)
          clear hs1 hs2
          rcases four_of hlt with rfl | rfl | rfl | rfl
          all_goals
            go_wp2_with (go_at_call 12; (first | ((with_reducible refine (HF.out _).mono ?_); rintro e w1 ⟨rfl, ⟨nq, rfl⟩⟩) | ((with_reducible refine (HF2.out _).mono ?_); rintro e w1 ⟨rfl, ⟨nq, rfl⟩⟩)))
            rw [W2_res]
            refine bodyPost_ret (v := .tuple #[.agg arr0, .int .i64 5]) ?_ rfl ⟨rfl, ?_⟩
            · simp [results, Try.results8, go_sem]
            · exact pw_below_drewN (((Below.refl _ _).alloc (Nat.le_refl _) _).alloc (by simp) _) _
end Go.Proofs.Ytofedlghaopciaa.FourW
