/- Package demand: the whole windows of a run of slots. -/
import Derived.Test.YtapimggcnneabaaDemandD
import Derived.Test.YtapimggcnneabaaPDx6
set_option linter.unusedVariables false
set_option linter.unusedSimpArgs false
namespace Go.Proofs.Ytapimggcnneabaa.PureD
open Go.RowKit Go.Proofs.Ytapimggcnneabaa.PD Go.Proofs.Ytapimggcnneabaa.Num Go.Proofs.Ytapimggcnneabaa.Flt Go.Proofs.YtapimggcnneabaaW.PrintWords Go.Proofs.YtapimggcnneabaaW.PrintLast Go.Proofs.YtapimggcnneabaaW.PrintMore

/-- How many slots a window has. -/
def nn (st mi : Int) : Int := mx 1 (wrap64 (Int.tdiv mi st))
theorem nn_is {st mi : Int} (h : Len st) (k : Len mi) : nn st mi = 1 ∨ nn st mi = 2 ∨ nn st mi = 4 := by
  rcases h with rfl | rfl | rfl <;> rcases k with rfl | rfl | rfl <;> decide +kernel
theorem mx_is {st mi : Int} (h : Len st) (k : Len mi) : mx st mi = st * nn st mi ∧ Len (mx st mi) := by
  rcases h with rfl | rfl | rfl <;> rcases k with rfl | rfl | rfl <;> decide +kernel
/-- c windows of n slots from s on. -/
def wins : Nat → Int → Int → List S90
  | 0, _, _ => []
  | c + 1, s, n => ⟨s, s + n⟩ :: wins c (s + n) n
/-- How many windows of n slots lie between s and t. -/
def cnt (s n t : Int) : Nat := ((t - s) / n).toNat
/-- The first slot at which a window begins; q: the number of slots before the run's begin. -/
def fst (q f n : Int) : Int := f + (n - (q + f) % n) % n
/-- A run that is good. -/
def OkW (t0 st mi f t : Int) : Prop := Len st ∧ Len mi ∧ 0 ≤ t0 ∧ t0 ≤ 253402300799 ∧ t0 % (60 * st) = 0 ∧ 0 ≤ f ∧ f ≤ t ∧ t ≤ 40000
def theWins (t0 st mi f t : Int) : List S90 := wins (cnt (fst (t0 / (60 * st)) f (nn st mi)) (nn st mi) t) (fst (t0 / (60 * st)) f (nn st mi)) (nn st mi)
theorem wins_len : ∀ (c : Nat) (s n : Int), (wins c s n).length = c
  | 0, _, _ => rfl
  | c + 1, s, n => by simp [wins, wins_len c]

theorem dl0 {t n : Int} (hn : n = 1 ∨ n = 2 ∨ n = 4) (ht : t ≤ 40000) : ∀ (c : Nat) (s : Int) (acc : List S90), 0 ≤ s → s ≤ 40010 → c = cnt s n t → acc.length + c ≤ 100000 →
    Ev (fun k => demand_Whole.l0 k s t n acc) (acc ++ wins c s n, 0) := by
  intro c
  induction c with
  | zero =>
    intro s acc s0 s1 hc hl
    have e : wrap64 (s + n) = s + n := i64in (by omega) (by omega)
    have h : ¬ s + n ≤ t := by unfold cnt at hc; rcases hn with rfl | rfl | rfl <;> omega
    refine Ev.shift ?_
    simp only [demand_Whole.l0, e, if_neg h, wins, List.append_nil]
    exact Ev.now _
  | succ c ih =>
    intro s acc s0 s1 hc hl
    have e : wrap64 (s + n) = s + n := i64in (by omega) (by omega)
    have h : s + n ≤ t := by unfold cnt at hc; rcases hn with rfl | rfl | rfl <;> omega
    have hc2 : c = cnt (s + n) n t := by unfold cnt at hc ⊢; rcases hn with rfl | rfl | rfl <;> omega
    have := ih (s + n) (acc ++ [⟨s, s + n⟩]) (by omega) (by omega) hc2 (by simp; omega)
    refine Ev.shift ?_
    simp only [demand_Whole.l0, e, if_pos h, if_pos (show acc.length < 8796093022208 by omega), wins]
    rw [List.append_assoc] at this
    exact this

theorem aligned {st mi t0 s : Int} (h : Len st) (k : Len mi) (a0 : 0 ≤ t0) (a1 : t0 ≤ 253402300799) (ha : t0 % (60 * st) = 0) (s0 : 0 ≤ s) (s1 : s ≤ 40010) :
    wrap64 (s + wrap64 (Int.tdiv (mx st mi) st)) = s + nn st mi ∧ ¬ wrap64 (60 * mx st mi) = 0 ∧ (Int.tmod (wrap64 (t0 + wrap64 (wrap64 (60 * st) * s))) (wrap64 (60 * mx st mi)) = 0 ↔ (t0 / (60 * st) + s) % nn st mi = 0) := by
  rcases h with rfl | rfl | rfl <;> rcases k with rfl | rfl | rfl
  · refine ⟨by rw [show wrap64 (Int.tdiv (mx 15 15) 15) = 1 by decide +kernel, show nn 15 15 = 1 by decide +kernel, i64in (by omega) (by omega)], by decide +kernel, ?_⟩
    rw [show wrap64 (60 * mx 15 15) = 900 by decide +kernel, show wrap64 (60 * 15) = 900 by decide +kernel, show nn 15 15 = 1 by decide +kernel, i64in (x := 900 * s) (by omega) (by omega), i64in (by omega) (by omega), Int.tmod_eq_emod_of_nonneg (by omega)]
    omega
  · refine ⟨by rw [show wrap64 (Int.tdiv (mx 15 30) 15) = 2 by decide +kernel, show nn 15 30 = 2 by decide +kernel, i64in (by omega) (by omega)], by decide +kernel, ?_⟩
    rw [show wrap64 (60 * mx 15 30) = 1800 by decide +kernel, show wrap64 (60 * 15) = 900 by decide +kernel, show nn 15 30 = 2 by decide +kernel, i64in (x := 900 * s) (by omega) (by omega), i64in (by omega) (by omega), Int.tmod_eq_emod_of_nonneg (by omega)]
    omega
  · refine ⟨by rw [show wrap64 (Int.tdiv (mx 15 60) 15) = 4 by decide +kernel, show nn 15 60 = 4 by decide +kernel, i64in (by omega) (by omega)], by decide +kernel, ?_⟩
    rw [show wrap64 (60 * mx 15 60) = 3600 by decide +kernel, show wrap64 (60 * 15) = 900 by decide +kernel, show nn 15 60 = 4 by decide +kernel, i64in (x := 900 * s) (by omega) (by omega), i64in (by omega) (by omega), Int.tmod_eq_emod_of_nonneg (by omega)]
    omega
  · refine ⟨by rw [show wrap64 (Int.tdiv (mx 30 15) 30) = 1 by decide +kernel, show nn 30 15 = 1 by decide +kernel, i64in (by omega) (by omega)], by decide +kernel, ?_⟩
    rw [show wrap64 (60 * mx 30 15) = 1800 by decide +kernel, show wrap64 (60 * 30) = 1800 by decide +kernel, show nn 30 15 = 1 by decide +kernel, i64in (x := 1800 * s) (by omega) (by omega), i64in (by omega) (by omega), Int.tmod_eq_emod_of_nonneg (by omega)]
    omega
  · refine ⟨by rw [show wrap64 (Int.tdiv (mx 30 30) 30) = 1 by decide +kernel, show nn 30 30 = 1 by decide +kernel, i64in (by omega) (by omega)], by decide +kernel, ?_⟩
    rw [show wrap64 (60 * mx 30 30) = 1800 by decide +kernel, show wrap64 (60 * 30) = 1800 by decide +kernel, show nn 30 30 = 1 by decide +kernel, i64in (x := 1800 * s) (by omega) (by omega), i64in (by omega) (by omega), Int.tmod_eq_emod_of_nonneg (by omega)]
    omega
  · refine ⟨by rw [show wrap64 (Int.tdiv (mx 30 60) 30) = 2 by decide +kernel, show nn 30 60 = 2 by decide +kernel, i64in (by omega) (by omega)], by decide +kernel, ?_⟩
    rw [show wrap64 (60 * mx 30 60) = 3600 by decide +kernel, show wrap64 (60 * 30) = 1800 by decide +kernel, show nn 30 60 = 2 by decide +kernel, i64in (x := 1800 * s) (by omega) (by omega), i64in (by omega) (by omega), Int.tmod_eq_emod_of_nonneg (by omega)]
    omega
  · refine ⟨by rw [show wrap64 (Int.tdiv (mx 60 15) 60) = 1 by decide +kernel, show nn 60 15 = 1 by decide +kernel, i64in (by omega) (by omega)], by decide +kernel, ?_⟩
    rw [show wrap64 (60 * mx 60 15) = 3600 by decide +kernel, show wrap64 (60 * 60) = 3600 by decide +kernel, show nn 60 15 = 1 by decide +kernel, i64in (x := 3600 * s) (by omega) (by omega), i64in (by omega) (by omega), Int.tmod_eq_emod_of_nonneg (by omega)]
    omega
  · refine ⟨by rw [show wrap64 (Int.tdiv (mx 60 30) 60) = 1 by decide +kernel, show nn 60 30 = 1 by decide +kernel, i64in (by omega) (by omega)], by decide +kernel, ?_⟩
    rw [show wrap64 (60 * mx 60 30) = 3600 by decide +kernel, show wrap64 (60 * 60) = 3600 by decide +kernel, show nn 60 30 = 1 by decide +kernel, i64in (x := 3600 * s) (by omega) (by omega), i64in (by omega) (by omega), Int.tmod_eq_emod_of_nonneg (by omega)]
    omega
  · refine ⟨by rw [show wrap64 (Int.tdiv (mx 60 60) 60) = 1 by decide +kernel, show nn 60 60 = 1 by decide +kernel, i64in (by omega) (by omega)], by decide +kernel, ?_⟩
    rw [show wrap64 (60 * mx 60 60) = 3600 by decide +kernel, show wrap64 (60 * 60) = 3600 by decide +kernel, show nn 60 60 = 1 by decide +kernel, i64in (x := 3600 * s) (by omega) (by omega), i64in (by omega) (by omega), Int.tmod_eq_emod_of_nonneg (by omega)]
    omega

theorem rl0 {st mi t0 t : Int} (h : Len st) (k : Len mi) (a0 : 0 ≤ t0) (a1 : t0 ≤ 253402300799) (ha : t0 % (60 * st) = 0) (ht : t ≤ 40000) : ∀ (d : Nat) (s : Int) (acc : List S90), 0 ≤ s → s ≤ 40010 → t + 1 - s ≤ d →
    acc.length + cnt (fst (t0 / (60 * st)) s (nn st mi)) (nn st mi) t ≤ 100000 →
    Ev (fun k => pylonref16_Whole.l0 k t0 st t (mx st mi) acc s) (acc ++ wins (cnt (fst (t0 / (60 * st)) s (nn st mi)) (nn st mi) t) (fst (t0 / (60 * st)) s (nn st mi)) (nn st mi), 0) := by
  have hst : ¬ st = 0 := by rcases h with rfl | rfl | rfl <;> omega
  have hn := nn_is h k
  have hq : 0 ≤ t0 / (60 * st) := by rcases h with rfl | rfl | rfl <;> omega
  intro d
  induction d with
  | zero =>
    intro s acc s0 s1 hd hl
    obtain ⟨e1, e2, e3⟩ := aligned h k a0 a1 ha s0 s1
    generalize nn st mi = n at *
    generalize t0 / (60 * st) = q at *
    have hc : cnt (fst q s n) n t = 0 := by unfold cnt fst; rcases hn with rfl | rfl | rfl <;> omega
    refine Ev.shift ?_
    simp only [pylonref16_Whole.l0, if_neg hst, e1, if_neg (show ¬ s + n ≤ t by omega), hc, wins, List.append_nil]
    exact Ev.now _
  | succ d ih =>
    intro s acc s0 s1 hd hl
    obtain ⟨e1, e2, e3⟩ := aligned h k a0 a1 ha s0 s1
    have ei : wrap64 (s + 1) = s + 1 := i64in (by omega) (by omega)
    refine Ev.shift ?_
    simp only [pylonref16_Whole.l0, if_neg hst, e1, if_neg e2, ei]
    by_cases g : s + nn st mi ≤ t
    · simp only [if_pos g]
      have i1 := ih (s + 1)
      by_cases g2 : (t0 / (60 * st) + s) % nn st mi = 0
      · simp only [if_pos (e3.2 g2)]
        generalize nn st mi = n at *
        generalize t0 / (60 * st) = q at *
        have hf : fst q s n = s := by unfold fst; rcases hn with rfl | rfl | rfl <;> omega
        have hf2 : fst q (s + 1) n = s + n := by unfold fst; rcases hn with rfl | rfl | rfl <;> omega
        have hc : cnt s n t = cnt (s + n) n t + 1 := by unfold cnt; rcases hn with rfl | rfl | rfl <;> omega
        rw [hf, hc] at hl ⊢
        rw [hf2] at i1
        have := i1 (acc ++ [⟨s, s + n⟩]) (by omega) (by omega) (by omega) (by simp; omega)
        simp only [if_pos (show acc.length < 8796093022208 by omega), wins]
        rw [List.append_assoc] at this
        exact this
      · simp only [if_neg (fun h => g2 (e3.1 h))]
        generalize nn st mi = n at *
        generalize t0 / (60 * st) = q at *
        have hf2 : fst q (s + 1) n = fst q s n := by unfold fst; rcases hn with rfl | rfl | rfl <;> omega
        rw [hf2] at i1
        exact i1 acc (by omega) (by omega) (by omega) hl
    · simp only [if_neg g]
      generalize nn st mi = n at *
      generalize t0 / (60 * st) = q at *
      have hc : cnt (fst q s n) n t = 0 := by unfold cnt fst; rcases hn with rfl | rfl | rfl <;> omega
      simp only [hc, wins, List.append_nil]
      exact Ev.now _
theorem cnt_le {q f n t : Int} (hn : n = 1 ∨ n = 2 ∨ n = 4) (f0 : 0 ≤ f) (ht : t ≤ 40000) : cnt (fst q f n) n t ≤ 40000 ∧ f ≤ fst q f n ∧ fst q f n < f + n := by
  unfold cnt fst
  rcases hn with rfl | rfl | rfl <;> omega

theorem dj0 {t0 st mi f t : Int} (h : OkW t0 st mi f t) : Ev (fun k => demand_Whole.j0 k t0 st mi f t false) (theWins t0 st mi f t, 0) := by
  obtain ⟨h1, h2, h3, h4, h5, h6, h7, h8⟩ := h
  have hn := nn_is h1 h2
  have e1 : wrap64 (60 * st) = 60 * st := by rcases h1 with rfl | rfl | rfl <;> decide +kernel
  have hst : ¬ st = 0 := by rcases h1 with rfl | rfl | rfl <;> omega
  have h60 : ¬ (60 * st = 0) := by omega
  have e2 : wrap64 (Int.tdiv t0 (60 * st)) = t0 / (60 * st) := by
    rw [Int.tdiv_eq_ediv_of_nonneg h3]
    rcases h1 with rfl | rfl | rfl <;> exact i64in (by omega) (by omega)
  have hq : 0 ≤ t0 / (60 * st) ∧ t0 / (60 * st) ≤ 253402300799 := by rcases h1 with rfl | rfl | rfl <;> omega
  have e5 : wrap64 (f + Int.tmod (wrap64 (nn st mi - Int.tmod (wrap64 (t0 / (60 * st) + f)) (nn st mi))) (nn st mi)) = fst (t0 / (60 * st)) f (nn st mi) := by
    generalize t0 / (60 * st) = q at *
    generalize nn st mi = n at *
    rw [i64in (x := q + f) (by omega) (by omega), Int.tmod_eq_emod_of_nonneg (show 0 ≤ q + f by omega)]
    unfold fst
    rcases hn with rfl | rfl | rfl
    · rw [i64in (x := 1 - (q + f) % 1) (by omega) (by omega), Int.tmod_eq_emod_of_nonneg (by omega), i64in (by omega) (by omega)]
    · rw [i64in (x := 2 - (q + f) % 2) (by omega) (by omega), Int.tmod_eq_emod_of_nonneg (by omega), i64in (by omega) (by omega)]
    · rw [i64in (x := 4 - (q + f) % 4) (by omega) (by omega), Int.tmod_eq_emod_of_nonneg (by omega), i64in (by omega) (by omega)]
  have hl := cnt_le (q := t0 / (60 * st)) hn h6 h8
  refine Ev.shift ?_
  simp only [demand_Whole.j0, Bool.false_eq_true, if_false, if_neg hst, e1, if_neg h60, e2]
  have e6 : mx 1 (wrap64 (Int.tdiv mi st)) = nn st mi := rfl
  simp only [e6, if_neg (show ¬ nn st mi = 0 by omega), e5]
  have := dl0 (t := t) hn h8 _ (fst (t0 / (60 * st)) f (nn st mi)) [] (by omega) (by omega) rfl (by simp; omega)
  rw [List.nil_append] at this
  exact this
theorem rj0 {t0 st mi f t : Int} (h : OkW t0 st mi f t) : Ev (fun k => pylonref16_Whole.j0 k t0 st mi f t false) (theWins t0 st mi f t, 0) := by
  obtain ⟨h1, h2, h3, h4, h5, h6, h7, h8⟩ := h
  have hl := cnt_le (q := t0 / (60 * st)) (nn_is h1 h2) h6 h8
  refine Ev.shift ?_
  simp only [pylonref16_Whole.j0, Bool.false_eq_true, if_false]
  have := rl0 h1 h2 h3 h4 h5 h8 (t + 1).toNat f [] h6 (by omega) (by omega) (by simp; omega)
  rw [List.nil_append] at this
  exact this

theorem whole_f (t0 st mi f t : Int) (h : OkW t0 st mi f t) : Ev (fun k => demand_Whole.f k t0 st mi f t) (theWins t0 st mi f t, 0) := by
  obtain ⟨h1, h2, h3, h4, h5, h6, h7, h8⟩ := id h
  have e1 : wrap64 (60 * st) = 60 * st := by rcases h1 with rfl | rfl | rfl <;> decide +kernel
  have h60 : ¬ (60 * st = 0) := by rcases h1 with rfl | rfl | rfl <;> omega
  unfold demand_Whole.f
  simp only [dlen_yes h1, dlen_yes h2, Option.bind_some, if_true, if_neg (show ¬ t0 < 0 by omega), if_neg (show ¬ t0 > 253402300799 by omega), e1, if_neg h60, Int.tmod_eq_emod_of_nonneg h3, if_pos h5, if_neg (show ¬ f < 0 by omega), if_neg (show ¬ f > t by omega),
    decide_eq_false (show ¬ t > 40000 by omega)]
  exact dj0 h
theorem whole_no (t0 st mi f t : Int) (h : ¬ OkW t0 st mi f t) : Ev (fun k => demand_Whole.f k t0 st mi f t) ([], 8) := by
  have bad : Ev (fun k => demand_Whole.j0 k t0 st mi f t true) ([], 8) := by
    refine Ev.shift ?_
    simp only [demand_Whole.j0, if_true]
    exact Ev.now _
  unfold demand_Whole.f
  by_cases h1 : Len st
  · by_cases h2 : Len mi
    · have e1 : wrap64 (60 * st) = 60 * st := by rcases h1 with rfl | rfl | rfl <;> decide +kernel
      have h60 : ¬ (60 * st = 0) := by rcases h1 with rfl | rfl | rfl <;> omega
      simp only [dlen_yes h1, dlen_yes h2, Option.bind_some, if_true, e1, if_neg h60]
      by_cases h3 : t0 < 0
      · simp only [if_pos h3]; exact bad
      · simp only [if_neg h3]
        by_cases h4 : t0 > 253402300799
        · simp only [if_pos h4]; exact bad
        · simp only [if_neg h4, Int.tmod_eq_emod_of_nonneg (show 0 ≤ t0 by omega)]
          by_cases h5 : t0 % (60 * st) = 0
          · simp only [if_pos h5]
            by_cases h6 : f < 0
            · simp only [if_pos h6]; exact bad
            · simp only [if_neg h6]
              by_cases h7 : f > t
              · simp only [if_pos h7]; exact bad
              · simp only [if_neg h7]
                rw [decide_eq_true (show t > 40000 from by
                  rcases Int.lt_or_le 40000 t with g | g
                  · exact g
                  · exact (h ⟨h1, h2, by omega, by omega, h5, by omega, by omega, g⟩).elim)]
                exact bad
          · simp only [if_neg h5]; exact bad
    · simp only [dlen_yes h1, dlen_no h2, Option.bind_some, if_true, Bool.false_eq_true, if_false]; exact bad
  · simp only [dlen_no h1, Option.bind_some, Bool.false_eq_true, if_false]; exact bad

theorem refwhole_f (t0 st mi f t : Int) (h : OkW t0 st mi f t) : Ev (fun k => pylonref16_Whole.f k t0 st mi f t) (theWins t0 st mi f t, 0) := by
  obtain ⟨h1, h2, h3, h4, h5, h6, h7, h8⟩ := id h
  have e1 : wrap64 (60 * st) = 60 * st := by rcases h1 with rfl | rfl | rfl <;> decide +kernel
  have h60 : ¬ (60 * st = 0) := by rcases h1 with rfl | rfl | rfl <;> omega
  unfold pylonref16_Whole.f
  simp only [rlen_yes h1, rlen_yes h2, Option.bind_some, if_true, if_neg (show ¬ t0 < 0 by omega), if_neg (show ¬ t0 > 253402300799 by omega), e1, if_neg h60, Int.tmod_eq_emod_of_nonneg h3, if_pos h5, if_neg (show ¬ f < 0 by omega), if_neg (show ¬ f > t by omega),
    decide_eq_false (show ¬ t > 40000 by omega)]
  exact rj0 h
theorem refwhole_no (t0 st mi f t : Int) (h : ¬ OkW t0 st mi f t) : Ev (fun k => pylonref16_Whole.f k t0 st mi f t) ([], 8) := by
  have bad : Ev (fun k => pylonref16_Whole.j0 k t0 st mi f t true) ([], 8) := by
    refine Ev.shift ?_
    simp only [pylonref16_Whole.j0, if_true]
    exact Ev.now _
  unfold pylonref16_Whole.f
  by_cases h1 : Len st
  · by_cases h2 : Len mi
    · have e1 : wrap64 (60 * st) = 60 * st := by rcases h1 with rfl | rfl | rfl <;> decide +kernel
      have h60 : ¬ (60 * st = 0) := by rcases h1 with rfl | rfl | rfl <;> omega
      simp only [rlen_yes h1, rlen_yes h2, Option.bind_some, if_true, e1, if_neg h60]
      by_cases h3 : t0 < 0
      · simp only [if_pos h3]; exact bad
      · simp only [if_neg h3]
        by_cases h4 : t0 > 253402300799
        · simp only [if_pos h4]; exact bad
        · simp only [if_neg h4, Int.tmod_eq_emod_of_nonneg (show 0 ≤ t0 by omega)]
          by_cases h5 : t0 % (60 * st) = 0
          · simp only [if_pos h5]
            by_cases h6 : f < 0
            · simp only [if_pos h6]; exact bad
            · simp only [if_neg h6]
              by_cases h7 : f > t
              · simp only [if_pos h7]; exact bad
              · simp only [if_neg h7]
                rw [decide_eq_true (show t > 40000 from by
                  rcases Int.lt_or_le 40000 t with g | g
                  · exact g
                  · exact (h ⟨h1, h2, by omega, by omega, h5, by omega, by omega, g⟩).elim)]
                exact bad
          · simp only [if_neg h5]; exact bad
    · simp only [rlen_yes h1, rlen_no h2, Option.bind_some, if_true, Bool.false_eq_true, if_false]; exact bad
  · simp only [rlen_no h1, Option.bind_some, Bool.false_eq_true, if_false]; exact bad

theorem same_l0 {l : List S90} (hl : (l.length : Int) ≤ 140737488355328) : ∀ (d : Nat) (i : Int), 0 ≤ i → (l.length : Int) - i = d → Ev (fun k => pylonref11_SameSpans.l0 k l l (l.length : Int) i) true := by
  intro d
  induction d with
  | zero =>
    intro i i0 hd
    refine Ev.shift ?_
    simp only [pylonref11_SameSpans.l0, if_neg (show ¬ i < (l.length : Int) by omega)]
    exact Ev.now _
  | succ d ih =>
    intro i i0 hd
    have hi : i < (l.length : Int) := by omega
    have ei : wrap64 (i + 1) = i + 1 := i64in (by omega) (by omega)
    refine Ev.shift ?_
    simp only [pylonref11_SameSpans.l0, if_pos hi, if_pos i0, ei, beq_self_eq_true, Bool.not_true, Bool.or_self, Bool.false_eq_true, if_false]
    exact ih (i + 1) (by omega) (by omega)
theorem same_f {l : List S90} (hl : (l.length : Int) ≤ 140737488355328) : Ev (fun k => pylonref11_SameSpans.f k l l) true := by
  unfold pylonref11_SameSpans.f
  simp only [if_true]
  exact same_l0 hl l.length 0 (by omega) (by omega)
theorem theWins_len {t0 st mi f t : Int} (h : OkW t0 st mi f t) : (theWins t0 st mi f t).length ≤ 40000 := by
  unfold theWins
  rw [wins_len]
  exact (cnt_le (nn_is h.1 h.2.1) h.2.2.2.2.2.1 h.2.2.2.2.2.2.2).1
end Go.Proofs.Ytapimggcnneabaa.PureD
