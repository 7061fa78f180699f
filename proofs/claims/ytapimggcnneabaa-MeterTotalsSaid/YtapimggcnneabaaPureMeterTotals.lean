/- MeterTotals holds: two series together have the sum of their totals, energies likewise; the real part of the total is what flowed in less what flowed out. -/
import Derived.Test.YtapimggcnneabaaMeterLM
import Derived.Test.YtapimggcnneabaaPMx3
set_option linter.unusedVariables false
set_option linter.unusedSimpArgs false
namespace Go.Proofs.Ytapimggcnneabaa.Pure
open Go.RowKit Go.Proofs.Ytapimggcnneabaa.PM Go.Proofs.Ytapimggcnneabaa.PureM Go.Proofs.Ytapimggcnneabaa.Num Go.Proofs.Ytapimggcnneabaa.Flt Go.Proofs.YtapimggcnneabaaW.PrintWords Go.Proofs.YtapimggcnneabaaW.PrintLast Go.Proofs.YtapimggcnneabaaW.PrintMore
theorem bits_conv {l : List S47} (h : ∀ y ∈ l, okS47 y) : ∀ z ∈ l.map conv, Bits z := by
  intro z hz
  obtain ⟨y, hy, rfl⟩ := List.mem_map.mp hz
  exact ⟨wf_lt (h y hy).1, wf_lt (h y hy).2⟩
theorem ev_ex {α : Type} {g : Nat → Option α} {r : α} (h : Ev g r) : ∃ k, g k = some r := by
  obtain ⟨K, h⟩ := h
  exact ⟨K, h K (Nat.le_refl _)⟩
theorem total_any {xs : List Cx} (hb : ∀ z ∈ xs, Bits z) : ∃ z, Ev (fun k => meter_Total.f k xs) (z, codeOf xs) := by
  by_cases h : codeOf xs = 0
  · obtain ⟨z, e, _⟩ := total_ok hb h
    exact ⟨z, by rw [h]; exact e⟩
  · exact ⟨_, total_no hb h⟩
theorem j1_no {k : Nat} {s t : List Cx} {x y : Cx} : pylonlaw12_MeterTotals.j1 (k + 1) s t x y (cx 0 0) 5 0 0 5 true = some true := by
  simp only [pylonlaw12_MeterTotals.j1, if_true]
  rw [show ceq (cx 0 0).re (cx 0 0).im 0 0 = true from by rw [show (cx 0 0).re = 0 from rfl, show (cx 0 0).im = 0 from rfl, ceq_is is_zero is_zero is_zero is_zero]; rfl]
  rfl
theorem MeterTotals : pylonlaw12_MeterTotals.Pure := by
  intro l0 l1 h0 h1
  refine ev_ex ?_
  unfold pylonlaw12_MeterTotals.f
  refine ev_bind (a := true) ⟨1, fun k hk => by obtain ⟨j, rfl⟩ : ∃ j, k = j + 1 := ⟨k - 1, by omega⟩; exact awake_ok j⟩ ?_
  simp only [if_true]
  by_cases n0 : (l0.length : Int) > 15000
  · simp only [if_pos n0]
    refine Ev.shift ?_
    simp only [pylonlaw12_MeterTotals.j0, if_true]
    exact Ev.now _
  simp only [if_neg n0]
  refine Ev.shift ?_
  simp only [pylonlaw12_MeterTotals.j0]
  by_cases n1 : (l1.length : Int) > 15000
  · simp only [decide_eq_true n1, if_true]
    exact Ev.now _
  simp only [decide_eq_false n1, Bool.false_eq_true, if_false]
  refine ev_bind (numbers_f (l := l0) (by omega) (by omega)) ?_
  refine ev_bind (numbers_f (l := l1) (by omega) (by omega)) ?_
  have b0 := bits_conv h0.2
  have b1 := bits_conv h1.2
  have g0 : (l0.map conv).length ≤ 15000 := by rw [List.length_map]; omega
  have g1 : (l1.map conv).length ≤ 15000 := by rw [List.length_map]; omega
  generalize l0.map conv = s at *
  generalize l1.map conv = t at *
  have bb : ∀ z ∈ s ++ t, Bits z := by
    intro z hz
    rcases List.mem_append.mp hz with h | h
    · exact b0 z h
    · exact b1 z h
  by_cases c0 : codeOf s = 0 ∧ codeOf t = 0
  · obtain ⟨c0, c1⟩ := c0
    obtain ⟨p0, q0⟩ := code_ok c0
    obtain ⟨p1, q1⟩ := code_ok c1
    have qq : ∀ z ∈ s ++ t, PureM.Good z := by
      intro z hz
      rcases List.mem_append.mp hz with h | h
      · exact q0 z h
      · exact q1 z h
    have cc : codeOf (s ++ t) = 0 := by
      unfold codeOf
      rw [if_neg (by rw [List.length_append]; omega), if_pos qq]
    obtain ⟨x, ex, x1, x2⟩ := total_ok b0 c0
    obtain ⟨y, ey, y1, y2⟩ := total_ok b1 c1
    obtain ⟨z, ez, z1, z2⟩ := total_ok bb cc
    have ee := energy_ok bb cc
    refine ev_bind ex ?_
    refine ev_bind ey ?_
    simp only [Option.bind_some, List.length_nil, List.nil_append, Nat.zero_add, if_pos (show s.length < 8796093022208 by omega)]
    simp only [if_pos (show s.length + t.length < 8796093022208 by omega), Option.bind_some]
    refine ev_bind ez ?_
    refine ev_bind ee ?_
    simp only [if_true, bne_self_eq_false]
    refine Ev.shift ?_
    simp only [pylonlaw12_MeterTotals.j1, Bool.false_eq_true, if_false]
    refine ev_bind (energy_ok b0 c0) ?_
    refine ev_bind (energy_ok b1 c1) ?_
    obtain ⟨u1, u2, u3, u4, u5, u6, u7⟩ := sums_bound q0
    obtain ⟨v1, v2, v3, v4, v5, v6, v7⟩ := sums_bound q1
    obtain ⟨ok, r1, r2⟩ := cadd_is x1 x2 y1 y2 (by omega) (by omega)
    rw [sA_app] at z1
    rw [sB_app] at z2
    have w1 : ceq z.re z.im (caddre x.re x.im y.re y.im) (caddim x.re x.im y.re y.im) = true := by rw [ceq_is z1 z2 r1 r2]; simp
    have w2 : feq z.re (floatOfInt .f64 (sI s + sI t - (sO s + sO t))) = true := by
      rw [z1.feq (of_int (by omega))]
      exact decide_eq_true (by omega)
    simp only [if_true, ok, w1, sI_app, sO_app, i64in (x := sI s + sI t) (by omega) (by omega), i64in (x := sO s + sO t) (by omega) (by omega), i64in (x := sI s + sI t - (sO s + sO t)) (by omega) (by omega), w2]
    exact Ev.now _
  · have c5 : ∀ xs : List Cx, xs.length ≤ 40000 → codeOf xs = 0 ∨ codeOf xs = 5 := by
      intro xs h
      unfold codeOf
      rw [if_neg (by omega)]
      split
      · exact .inl rfl
      · exact .inr rfl
    have cc : codeOf (s ++ t) = 5 := by
      rcases c5 (s ++ t) (by rw [List.length_append]; omega) with h | h
      · refine (c0 ⟨?_, ?_⟩).elim
        · unfold codeOf
          rw [if_neg (by omega), if_pos (fun z hz => (code_ok h).2 z (List.mem_append_left _ hz))]
        · unfold codeOf
          rw [if_neg (by omega), if_pos (fun z hz => (code_ok h).2 z (List.mem_append_right _ hz))]
      · exact h
    obtain ⟨x, ex⟩ := total_any b0
    obtain ⟨y, ey⟩ := total_any b1
    have ez := total_no bb (by rw [cc]; decide)
    have ee := energy_no bb (by rw [cc]; decide)
    rw [cc] at ez ee
    refine ev_bind ex ?_
    refine ev_bind ey ?_
    simp only [Option.bind_some, List.length_nil, List.nil_append, Nat.zero_add, if_pos (show s.length < 8796093022208 by omega)]
    simp only [if_pos (show s.length + t.length < 8796093022208 by omega), Option.bind_some]
    refine ev_bind ez ?_
    refine ev_bind ee ?_
    by_cases h : codeOf s = 0
    · have h2 : codeOf t ≠ 0 := fun h2 => c0 ⟨h, h2⟩
      have h3 : (codeOf t != 0) = true := by simp [h2]
      simp only [if_pos h, h3]
      exact ⟨1, fun k hk => by obtain ⟨j, rfl⟩ : ∃ j, k = j + 1 := ⟨k - 1, by omega⟩; exact j1_no⟩
    · simp only [if_neg h]
      exact ⟨1, fun k hk => by obtain ⟨j, rfl⟩ : ∃ j, k = j + 1 := ⟨k - 1, by omega⟩; exact j1_no⟩
end Go.Proofs.Ytapimggcnneabaa.Pure
