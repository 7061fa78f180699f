/- The reference's whole windows. -/
import Derived.Test.YtapimggcnneabaaDemandLDK
import Derived.Test.YtapimggcnneabaaDemandWADK
import Derived.Test.YtapimggcnneabaaPDKx5
set_option linter.unusedVariables false
set_option linter.unusedSimpArgs false
namespace Go.Proofs.Ytapimggcnneabaa.PureDK
open Go.RowKit Go.Proofs.Ytapimggcnneabaa.PDK Go.Proofs.Ytapimggcnneabaa.Num Go.Proofs.Ytapimggcnneabaa.Flt Go.Proofs.YtapimggcnneabaaW.PrintWords Go.Proofs.YtapimggcnneabaaW.PrintLast Go.Proofs.YtapimggcnneabaaW.PrintMore

theorem rl0 {st mi t0 t : Int} (h : Len st) (k : Len mi) (a0 : 0 ≤ t0) (a1 : t0 ≤ 253402300799) (ha : t0 % (60 * st) = 0) (ht : t ≤ 40000) : ∀ (d : Nat) (s : Int) (acc : List S90), 0 ≤ s → s ≤ 40010 → t + 1 - s ≤ d →
    acc.length + cnt (fst (t0 / (60 * st)) s (nn st mi)) (nn st mi) t ≤ 100000 →
    Ev (fun k => pylonref16_Whole.l0 k t0 st t (mx st mi) acc s) (acc ++ wins (cnt (fst (t0 / (60 * st)) s (nn st mi)) (nn st mi) t) (fst (t0 / (60 * st)) s (nn st mi)) (nn st mi), 0) := by
  have hst : ¬ st = 0 := by rcases h with rfl | rfl | rfl <;> omega
  have hn := nn_is h k
  have hq : 0 ≤ t0 / (60 * st) := by rcases h with rfl | rfl | rfl <;> omega
  intro d
  induction d with
  | zero =>
    intro s acc s0 s1 hd hl
    obtain ⟨e1, e2, e3⟩ := aligned h k a0 a1 ha s0 s1
    generalize nn st mi = n at *
    generalize t0 / (60 * st) = q at *
    have hc : cnt (fst q s n) n t = 0 := by unfold cnt fst; rcases hn with rfl | rfl | rfl <;> omega
    refine Ev.shift ?_
    simp only [pylonref16_Whole.l0, if_neg hst, e1, if_neg (show ¬ s + n ≤ t by omega), hc, wins, List.append_nil]
    exact Ev.now _
  | succ d ih =>
    intro s acc s0 s1 hd hl
    obtain ⟨e1, e2, e3⟩ := aligned h k a0 a1 ha s0 s1
    have ei : wrap64 (s + 1) = s + 1 := i64in (by omega) (by omega)
    refine Ev.shift ?_
    simp only [pylonref16_Whole.l0, if_neg hst, e1, if_neg e2, ei]
    by_cases g : s + nn st mi ≤ t
    · simp only [if_pos g]
      have i1 := ih (s + 1)
      by_cases g2 : (t0 / (60 * st) + s) % nn st mi = 0
      · simp only [if_pos (e3.2 g2)]
        generalize nn st mi = n at *
        generalize t0 / (60 * st) = q at *
        have hf : fst q s n = s := by unfold fst; rcases hn with rfl | rfl | rfl <;> omega
        have hf2 : fst q (s + 1) n = s + n := by unfold fst; rcases hn with rfl | rfl | rfl <;> omega
        have hc : cnt s n t = cnt (s + n) n t + 1 := by unfold cnt; rcases hn with rfl | rfl | rfl <;> omega
        rw [hf, hc] at hl ⊢
        rw [hf2] at i1
        have := i1 (acc ++ [⟨s, s + n⟩]) (by omega) (by omega) (by omega) (by simp; omega)
        simp only [if_pos (show acc.length < 8796093022208 by omega), wins]
        rw [List.append_assoc] at this
        exact this
      · simp only [if_neg (fun h => g2 (e3.1 h))]
        generalize nn st mi = n at *
        generalize t0 / (60 * st) = q at *
        have hf2 : fst q (s + 1) n = fst q s n := by unfold fst; rcases hn with rfl | rfl | rfl <;> omega
        rw [hf2] at i1
        exact i1 acc (by omega) (by omega) (by omega) hl
    · simp only [if_neg g]
      generalize nn st mi = n at *
      generalize t0 / (60 * st) = q at *
      have hc : cnt (fst q s n) n t = 0 := by unfold cnt fst; rcases hn with rfl | rfl | rfl <;> omega
      simp only [hc, wins, List.append_nil]
      exact Ev.now _
theorem rj0 {t0 st mi f t : Int} (h : OkW t0 st mi f t) : Ev (fun k => pylonref16_Whole.j0 k t0 st mi f t false) (theWins t0 st mi f t, 0) := by
  obtain ⟨h1, h2, h3, h4, h5, h6, h7, h8⟩ := h
  have hl := cnt_le (q := t0 / (60 * st)) (nn_is h1 h2) h6 h8
  refine Ev.shift ?_
  simp only [pylonref16_Whole.j0, Bool.false_eq_true, if_false]
  have := rl0 h1 h2 h3 h4 h5 h8 (t + 1).toNat f [] h6 (by omega) (by omega) (by simp; omega)
  rw [List.nil_append] at this
  exact this

theorem refwhole_f (t0 st mi f t : Int) (h : OkW t0 st mi f t) : Ev (fun k => pylonref16_Whole.f k t0 st mi f t) (theWins t0 st mi f t, 0) := by
  obtain ⟨h1, h2, h3, h4, h5, h6, h7, h8⟩ := id h
  have e1 : wrap64 (60 * st) = 60 * st := by rcases h1 with rfl | rfl | rfl <;> decide +kernel
  have h60 : ¬ (60 * st = 0) := by rcases h1 with rfl | rfl | rfl <;> omega
  unfold pylonref16_Whole.f
  simp only [rlen_yes h1, rlen_yes h2, Option.bind_some, if_true, if_neg (show ¬ t0 < 0 by omega), if_neg (show ¬ t0 > 253402300799 by omega), e1, if_neg h60, Int.tmod_eq_emod_of_nonneg h3, if_pos h5, if_neg (show ¬ f < 0 by omega), if_neg (show ¬ f > t by omega),
    decide_eq_false (show ¬ t > 40000 by omega)]
  exact rj0 h
theorem refwhole_no (t0 st mi f t : Int) (h : ¬ OkW t0 st mi f t) : Ev (fun k => pylonref16_Whole.f k t0 st mi f t) ([], 8) := by
  have bad : Ev (fun k => pylonref16_Whole.j0 k t0 st mi f t true) ([], 8) := by
    refine Ev.shift ?_
    simp only [pylonref16_Whole.j0, if_true]
    exact Ev.now _
  unfold pylonref16_Whole.f
  by_cases h1 : Len st
  · by_cases h2 : Len mi
    · have e1 : wrap64 (60 * st) = 60 * st := by rcases h1 with rfl | rfl | rfl <;> decide +kernel
      have h60 : ¬ (60 * st = 0) := by rcases h1 with rfl | rfl | rfl <;> omega
      simp only [rlen_yes h1, rlen_yes h2, Option.bind_some, if_true, e1, if_neg h60]
      by_cases h3 : t0 < 0
      · simp only [if_pos h3]; exact bad
      · simp only [if_neg h3]
        by_cases h4 : t0 > 253402300799
        · simp only [if_pos h4]; exact bad
        · simp only [if_neg h4, Int.tmod_eq_emod_of_nonneg (show 0 ≤ t0 by omega)]
          by_cases h5 : t0 % (60 * st) = 0
          · simp only [if_pos h5]
            by_cases h6 : f < 0
            · simp only [if_pos h6]; exact bad
            · simp only [if_neg h6]
              by_cases h7 : f > t
              · simp only [if_pos h7]; exact bad
              · simp only [if_neg h7]
                rw [decide_eq_true (show t > 40000 from by
                  rcases Int.lt_or_le 40000 t with g | g
                  · exact g
                  · exact (h ⟨h1, h2, by omega, by omega, h5, by omega, by omega, g⟩).elim)]
                exact bad
          · simp only [if_neg h5]; exact bad
    · simp only [rlen_yes h1, rlen_no h2, Option.bind_some, if_true, Bool.false_eq_true, if_false]; exact bad
  · simp only [rlen_no h1, Option.bind_some, Bool.false_eq_true, if_false]; exact bad

theorem same_l0 {l : List S90} (hl : (l.length : Int) ≤ 140737488355328) : ∀ (d : Nat) (i : Int), 0 ≤ i → (l.length : Int) - i = d → Ev (fun k => pylonref11_SameSpans.l0 k l l (l.length : Int) i) true := by
  intro d
  induction d with
  | zero =>
    intro i i0 hd
    refine Ev.shift ?_
    simp only [pylonref11_SameSpans.l0, if_neg (show ¬ i < (l.length : Int) by omega)]
    exact Ev.now _
  | succ d ih =>
    intro i i0 hd
    have hi : i < (l.length : Int) := by omega
    have ei : wrap64 (i + 1) = i + 1 := i64in (by omega) (by omega)
    refine Ev.shift ?_
    simp only [pylonref11_SameSpans.l0, if_pos hi, if_pos i0, ei, beq_self_eq_true, Bool.not_true, Bool.or_self, Bool.false_eq_true, if_false]
    exact ih (i + 1) (by omega) (by omega)
theorem same_f {l : List S90} (hl : (l.length : Int) ≤ 140737488355328) : Ev (fun k => pylonref11_SameSpans.f k l l) true := by
  unfold pylonref11_SameSpans.f
  simp only [if_true]
  exact same_l0 hl l.length 0 (by omega) (by omega)
end Go.Proofs.Ytapimggcnneabaa.PureDK
