/- DemandSides holds: whole windows lie side by side, each as long as the length asks. -/
import Derived.Test.YtapimggcnneabaaDemandGD
import Derived.Test.YtapimggcnneabaaPDx8
set_option linter.unusedVariables false
set_option linter.unusedSimpArgs false
namespace Go.Proofs.Ytapimggcnneabaa.Pure
open Go.RowKit Go.Proofs.Ytapimggcnneabaa.PD Go.Proofs.Ytapimggcnneabaa.PureD Go.Proofs.Ytapimggcnneabaa.Num Go.Proofs.Ytapimggcnneabaa.Flt Go.Proofs.YtapimggcnneabaaW.PrintWords Go.Proofs.YtapimggcnneabaaW.PrintLast Go.Proofs.YtapimggcnneabaaW.PrintMore

theorem sides_l0 {t0 st mi f t n s : Int} {c : Nat} (h : OkW t0 st mi f t) (hn : nn st mi = n) (hs : fst (t0 / (60 * st)) f n = s) (hc : cnt s n t = c) (hc0 : 0 < c) :
    ∀ (d : Nat) (i : Int), 0 ≤ i → (c : Int) - i = d → Ev (fun k => pylonlaw16_DemandSides.l0 k (wins c s n) n (c : Int) i t0 st mi f t) true := by
  obtain ⟨h1, h2, h3, h4, h5, h6, h7, h8⟩ := h
  have hn4 := nn_is h1 h2
  rw [hn] at hn4
  have hq : 0 ≤ t0 / (60 * st) ∧ t0 / (60 * st) ≤ 253402300799 := by rcases h1 with rfl | rfl | rfl <;> omega
  have hlen := wins_len c s n
  intro d
  induction d with
  | zero =>
    intro i i0 hd
    have e1 : rd_T90 (wins c s n) 0 = ⟨s + 0 * n, s + 0 * n + n⟩ := rd_wins (by omega) (by omega)
    have e2 : rd_T90 (wins c s n) ((c : Int) - 1) = ⟨s + ((c : Int) - 1) * n, s + ((c : Int) - 1) * n + n⟩ := rd_wins (by omega) (by omega)
    have w1 : wrap64 (f + n) = f + n := i64in (by omega) (by omega)
    have w2 : wrap64 ((c : Int) - 1) = (c : Int) - 1 := by
      unfold cnt at hc
      exact i64in (by omega) (by rcases hn4 with rfl | rfl | rfl <;> unfold fst at hs <;> omega)
    have w3 : wrap64 (t - n) = t - n := i64in (by omega) (by omega)
    refine Ev.shift ?_
    simp only [pylonlaw16_DemandSides.l0, hlen, if_neg (show ¬ i < (c : Int) by omega), if_pos (show (0 : Int) < (c : Int) by omega), e1, w1, w2, w3, if_pos (show (0 : Int) ≤ (c : Int) - 1 by omega), if_pos (show (c : Int) - 1 < (c : Int) by omega), e2]
    rw [decide_eq_true (show s + ((c : Int) - 1) * n + n > t - n by unfold cnt at hc; rcases hn4 with rfl | rfl | rfl <;> omega)]
    simp only [if_pos (show s + 0 * n < f + n by unfold fst at hs; rcases hn4 with rfl | rfl | rfl <;> omega)]
    exact Ev.now _
  | succ d ih =>
    intro i i0 hd
    have hi : i < (c : Int) := by omega
    have hin : s ≤ s + i * n ∧ s + i * n + n ≤ t := by unfold cnt at hc; rcases hn4 with rfl | rfl | rfl <;> omega
    have hsf : f ≤ s := by unfold fst at hs; rcases hn4 with rfl | rfl | rfl <;> omega
    have ei : wrap64 (i + 1) = i + 1 := i64in (by omega) (by rcases hn4 with rfl | rfl | rfl <;> omega)
    have e1 : rd_T90 (wins c s n) i = ⟨s + i * n, s + i * n + n⟩ := rd_wins i0 hi
    have w1 : wrap64 (s + i * n + n - (s + i * n)) = n := by rw [i64in (by omega) (by omega)]; omega
    obtain ⟨a1, a2, a3⟩ := aligned h1 h2 h3 h4 h5 (show 0 ≤ s + i * n by omega) (show s + i * n ≤ 40010 by omega)
    rw [hn] at a3
    have a4 : (t0 / (60 * st) + (s + i * n)) % n = 0 := by
      unfold fst at hs
      generalize t0 / (60 * st) = q at *
      rcases hn4 with rfl | rfl | rfl <;> omega
    have nx := ih (i + 1) (by omega) (by omega)
    have hj : Ev (fun k => pylonlaw16_DemandSides.j1 k (wins c s n) n (c : Int) i false t0 st mi f t (s + i * n) (s + i * n + n)) true := by
      refine Ev.shift ?_
      simp only [pylonlaw16_DemandSides.j1, Bool.false_eq_true, if_false, if_neg a2, if_pos (a3.2 a4), ei]
      exact nx
    refine Ev.shift ?_
    simp only [pylonlaw16_DemandSides.l0, hlen, if_pos hi, if_pos i0, e1, w1, if_true, if_neg (show ¬ s + i * n < f by omega), if_neg (show ¬ s + i * n + n > t by omega)]
    by_cases g : i > 0
    · have w2 : wrap64 (i - 1) = i - 1 := i64in (by omega) (by rcases hn4 with rfl | rfl | rfl <;> omega)
      have e2 : rd_T90 (wins c s n) (i - 1) = ⟨s + (i - 1) * n, s + (i - 1) * n + n⟩ := rd_wins (by omega) (by omega)
      simp only [if_pos g, w2, if_pos (show 0 ≤ i - 1 by omega), if_pos (show i - 1 < (c : Int) by omega), e2]
      have e3 : s + (i - 1) * n + n = s + i * n := by rw [Int.sub_mul]; omega
      rw [e3, bne_self_eq_false]
      exact hj
    · simp only [if_neg g]
      exact hj
theorem DemandSides : pylonlaw16_DemandSides.Pure := by
  intro a0 a1 a2 a3 a4 _ _ _ _ _
  refine ev_ex (r := true) ?_
  obtain ⟨t0, st, mi, f, t, e, h, ht⟩ := good_f a0 a1 a2 a3 a4 (m := 500) (by omega) (by omega)
  have hn := nn_is h.1 h.2.1
  have h6 := h.2.2.2.2.2.1
  have h7 := h.2.2.2.2.2.2.1
  have h8 := h.2.2.2.2.2.2.2
  have hst : ¬ st = 0 := by rcases h.1 with rfl | rfl | rfl <;> omega
  have e6 : mx 1 (wrap64 (Int.tdiv mi st)) = nn st mi := rfl
  unfold pylonlaw16_DemandSides.f
  refine ev_bind awake_ev ?_
  simp only [if_true, e, Option.bind_some]
  refine ev_bind (whole_f _ _ _ _ _ h) ?_
  simp only [if_true, if_neg hst, e6]
  unfold theWins
  rw [wins_len]
  have w1 : wrap64 (t - f) = t - f := i64in (by omega) (by omega)
  have w2 : wrap64 (2 * nn st mi) = 2 * nn st mi := i64in (by omega) (by omega)
  by_cases g : cnt (fst (t0 / (60 * st)) f (nn st mi)) (nn st mi) t = 0
  · simp only [if_pos (show ((cnt (fst (t0 / (60 * st)) f (nn st mi)) (nn st mi) t : Nat) : Int) = 0 by omega), w1, w2]
    generalize nn st mi = n at *
    generalize t0 / (60 * st) = q at *
    rw [decide_eq_true (show t - f < 2 * n by unfold cnt fst at g; rcases hn with rfl | rfl | rfl <;> omega)]
    exact Ev.now _
  · simp only [if_neg (show ¬ ((cnt (fst (t0 / (60 * st)) f (nn st mi)) (nn st mi) t : Nat) : Int) = 0 by omega)]
    exact sides_l0 h rfl rfl rfl (by omega) (cnt (fst (t0 / (60 * st)) f (nn st mi)) (nn st mi) t) 0 (by omega) (by omega)
end Go.Proofs.Ytapimggcnneabaa.Pure
