/- Package demand: the whole windows of a run of slots. -/
import Derived.Test.YtapimggcnneabaaDemandDK
import Derived.Test.YtapimggcnneabaaPDKx5
set_option linter.unusedVariables false
set_option linter.unusedSimpArgs false
namespace Go.Proofs.Ytapimggcnneabaa.PureDK
open Go.RowKit Go.Proofs.Ytapimggcnneabaa.PDK Go.Proofs.Ytapimggcnneabaa.Num Go.Proofs.Ytapimggcnneabaa.Flt Go.Proofs.YtapimggcnneabaaW.PrintWords Go.Proofs.YtapimggcnneabaaW.PrintLast Go.Proofs.YtapimggcnneabaaW.PrintMore

/-- How many slots a window has. -/
def nn (st mi : Int) : Int := mx 1 (wrap64 (Int.tdiv mi st))
theorem nn_is {st mi : Int} (h : Len st) (k : Len mi) : nn st mi = 1 ∨ nn st mi = 2 ∨ nn st mi = 4 := by
  rcases h with rfl | rfl | rfl <;> rcases k with rfl | rfl | rfl <;> decide +kernel
theorem mx_is {st mi : Int} (h : Len st) (k : Len mi) : mx st mi = st * nn st mi ∧ Len (mx st mi) := by
  rcases h with rfl | rfl | rfl <;> rcases k with rfl | rfl | rfl <;> decide +kernel
/-- c windows of n slots from s on. -/
def wins : Nat → Int → Int → List S90
  | 0, _, _ => []
  | c + 1, s, n => ⟨s, s + n⟩ :: wins c (s + n) n
/-- How many windows of n slots lie between s and t. -/
def cnt (s n t : Int) : Nat := ((t - s) / n).toNat
/-- The first slot at which a window begins; q: the number of slots before the run's begin. -/
def fst (q f n : Int) : Int := f + (n - (q + f) % n) % n
/-- A run that is good. -/
def OkW (t0 st mi f t : Int) : Prop := Len st ∧ Len mi ∧ 0 ≤ t0 ∧ t0 ≤ 253402300799 ∧ t0 % (60 * st) = 0 ∧ 0 ≤ f ∧ f ≤ t ∧ t ≤ 40000
def theWins (t0 st mi f t : Int) : List S90 := wins (cnt (fst (t0 / (60 * st)) f (nn st mi)) (nn st mi) t) (fst (t0 / (60 * st)) f (nn st mi)) (nn st mi)
theorem wins_len : ∀ (c : Nat) (s n : Int), (wins c s n).length = c
  | 0, _, _ => rfl
  | c + 1, s, n => by simp [wins, wins_len c]

theorem dl0 {t n : Int} (hn : n = 1 ∨ n = 2 ∨ n = 4) (ht : t ≤ 40000) : ∀ (c : Nat) (s : Int) (acc : List S90), 0 ≤ s → s ≤ 40010 → c = cnt s n t → acc.length + c ≤ 100000 →
    Ev (fun k => demand_Whole.l0 k s t n acc) (acc ++ wins c s n, 0) := by
  intro c
  induction c with
  | zero =>
    intro s acc s0 s1 hc hl
    have e : wrap64 (s + n) = s + n := i64in (by omega) (by omega)
    have h : ¬ s + n ≤ t := by unfold cnt at hc; rcases hn with rfl | rfl | rfl <;> omega
    refine Ev.shift ?_
    simp only [demand_Whole.l0, e, if_neg h, wins, List.append_nil]
    exact Ev.now _
  | succ c ih =>
    intro s acc s0 s1 hc hl
    have e : wrap64 (s + n) = s + n := i64in (by omega) (by omega)
    have h : s + n ≤ t := by unfold cnt at hc; rcases hn with rfl | rfl | rfl <;> omega
    have hc2 : c = cnt (s + n) n t := by unfold cnt at hc ⊢; rcases hn with rfl | rfl | rfl <;> omega
    have := ih (s + n) (acc ++ [⟨s, s + n⟩]) (by omega) (by omega) hc2 (by simp; omega)
    refine Ev.shift ?_
    simp only [demand_Whole.l0, e, if_pos h, if_pos (show acc.length < 8796093022208 by omega), wins]
    rw [List.append_assoc] at this
    exact this

theorem cnt_le {q f n t : Int} (hn : n = 1 ∨ n = 2 ∨ n = 4) (f0 : 0 ≤ f) (ht : t ≤ 40000) : cnt (fst q f n) n t ≤ 40000 ∧ f ≤ fst q f n ∧ fst q f n < f + n := by
  unfold cnt fst
  rcases hn with rfl | rfl | rfl <;> omega

theorem dj0 {t0 st mi f t : Int} (h : OkW t0 st mi f t) : Ev (fun k => demand_Whole.j0 k t0 st mi f t false) (theWins t0 st mi f t, 0) := by
  obtain ⟨h1, h2, h3, h4, h5, h6, h7, h8⟩ := h
  have hn := nn_is h1 h2
  have e1 : wrap64 (60 * st) = 60 * st := by rcases h1 with rfl | rfl | rfl <;> decide +kernel
  have hst : ¬ st = 0 := by rcases h1 with rfl | rfl | rfl <;> omega
  have h60 : ¬ (60 * st = 0) := by omega
  have e2 : wrap64 (Int.tdiv t0 (60 * st)) = t0 / (60 * st) := by
    rw [Int.tdiv_eq_ediv_of_nonneg h3]
    rcases h1 with rfl | rfl | rfl <;> exact i64in (by omega) (by omega)
  have hq : 0 ≤ t0 / (60 * st) ∧ t0 / (60 * st) ≤ 253402300799 := by rcases h1 with rfl | rfl | rfl <;> omega
  have e5 : wrap64 (f + Int.tmod (wrap64 (nn st mi - Int.tmod (wrap64 (t0 / (60 * st) + f)) (nn st mi))) (nn st mi)) = fst (t0 / (60 * st)) f (nn st mi) := by
    generalize t0 / (60 * st) = q at *
    generalize nn st mi = n at *
    rw [i64in (x := q + f) (by omega) (by omega), Int.tmod_eq_emod_of_nonneg (show 0 ≤ q + f by omega)]
    unfold fst
    rcases hn with rfl | rfl | rfl
    · rw [i64in (x := 1 - (q + f) % 1) (by omega) (by omega), Int.tmod_eq_emod_of_nonneg (by omega), i64in (by omega) (by omega)]
    · rw [i64in (x := 2 - (q + f) % 2) (by omega) (by omega), Int.tmod_eq_emod_of_nonneg (by omega), i64in (by omega) (by omega)]
    · rw [i64in (x := 4 - (q + f) % 4) (by omega) (by omega), Int.tmod_eq_emod_of_nonneg (by omega), i64in (by omega) (by omega)]
  have hl := cnt_le (q := t0 / (60 * st)) hn h6 h8
  refine Ev.shift ?_
  simp only [demand_Whole.j0, Bool.false_eq_true, if_false, if_neg hst, e1, if_neg h60, e2]
  have e6 : mx 1 (wrap64 (Int.tdiv mi st)) = nn st mi := rfl
  simp only [e6, if_neg (show ¬ nn st mi = 0 by omega), e5]
  have := dl0 (t := t) hn h8 _ (fst (t0 / (60 * st)) f (nn st mi)) [] (by omega) (by omega) rfl (by simp; omega)
  rw [List.nil_append] at this
  exact this

theorem whole_f (t0 st mi f t : Int) (h : OkW t0 st mi f t) : Ev (fun k => demand_Whole.f k t0 st mi f t) (theWins t0 st mi f t, 0) := by
  obtain ⟨h1, h2, h3, h4, h5, h6, h7, h8⟩ := id h
  have e1 : wrap64 (60 * st) = 60 * st := by rcases h1 with rfl | rfl | rfl <;> decide +kernel
  have h60 : ¬ (60 * st = 0) := by rcases h1 with rfl | rfl | rfl <;> omega
  unfold demand_Whole.f
  simp only [dlen_yes h1, dlen_yes h2, Option.bind_some, if_true, if_neg (show ¬ t0 < 0 by omega), if_neg (show ¬ t0 > 253402300799 by omega), e1, if_neg h60, Int.tmod_eq_emod_of_nonneg h3, if_pos h5, if_neg (show ¬ f < 0 by omega), if_neg (show ¬ f > t by omega),
    decide_eq_false (show ¬ t > 40000 by omega)]
  exact dj0 h
theorem whole_no (t0 st mi f t : Int) (h : ¬ OkW t0 st mi f t) : Ev (fun k => demand_Whole.f k t0 st mi f t) ([], 8) := by
  have bad : Ev (fun k => demand_Whole.j0 k t0 st mi f t true) ([], 8) := by
    refine Ev.shift ?_
    simp only [demand_Whole.j0, if_true]
    exact Ev.now _
  unfold demand_Whole.f
  by_cases h1 : Len st
  · by_cases h2 : Len mi
    · have e1 : wrap64 (60 * st) = 60 * st := by rcases h1 with rfl | rfl | rfl <;> decide +kernel
      have h60 : ¬ (60 * st = 0) := by rcases h1 with rfl | rfl | rfl <;> omega
      simp only [dlen_yes h1, dlen_yes h2, Option.bind_some, if_true, e1, if_neg h60]
      by_cases h3 : t0 < 0
      · simp only [if_pos h3]; exact bad
      · simp only [if_neg h3]
        by_cases h4 : t0 > 253402300799
        · simp only [if_pos h4]; exact bad
        · simp only [if_neg h4, Int.tmod_eq_emod_of_nonneg (show 0 ≤ t0 by omega)]
          by_cases h5 : t0 % (60 * st) = 0
          · simp only [if_pos h5]
            by_cases h6 : f < 0
            · simp only [if_pos h6]; exact bad
            · simp only [if_neg h6]
              by_cases h7 : f > t
              · simp only [if_pos h7]; exact bad
              · simp only [if_neg h7]
                rw [decide_eq_true (show t > 40000 from by
                  rcases Int.lt_or_le 40000 t with g | g
                  · exact g
                  · exact (h ⟨h1, h2, by omega, by omega, h5, by omega, by omega, g⟩).elim)]
                exact bad
          · simp only [if_neg h5]; exact bad
    · simp only [dlen_yes h1, dlen_no h2, Option.bind_some, if_true, Bool.false_eq_true, if_false]; exact bad
  · simp only [dlen_no h1, Option.bind_some, Bool.false_eq_true, if_false]; exact bad
theorem theWins_len {t0 st mi f t : Int} (h : OkW t0 st mi f t) : (theWins t0 st mi f t).length ≤ 40000 := by
  unfold theWins
  rw [wins_len]
  exact (cnt_le (nn_is h.1 h.2.1) h.2.2.2.2.2.1 h.2.2.2.2.2.2.2).1
end Go.Proofs.Ytapimggcnneabaa.PureDK
