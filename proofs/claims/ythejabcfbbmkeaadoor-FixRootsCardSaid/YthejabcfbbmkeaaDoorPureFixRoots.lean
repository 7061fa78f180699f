/- FixRoots holds: the square of the root is at most the number, the square of the next one isn't; and of the sum of two squares likewise; whatever the input, the law answers true and its arguments read as before. -/
import Derived.Test.YthejabcfbbmkeaaDoorFixAF
import Derived.Test.YthejabcfbbmkeaaDoorRootF
import Derived.Test.YthejabcfbbmkeaaDoorPFx5
set_option linter.unusedVariables false
namespace Go.Proofs.YthejabcfbbmkeaaDoor.Pure
open Go.RowKit Go.Proofs.YthejabcfbbmkeaaDoor.PF Go.Proofs.YthejabcfbbmkeaaDoor.Num Go.Proofs.YthejabcfbbmkeaaDoor.PureF Go.Proofs.YthejabcfbbmkeaaDoorW.PrintWords Go.Proofs.YthejabcfbbmkeaaDoorW.PrintLast Go.Proofs.YthejabcfbbmkeaaDoorW.PrintMore
theorem rt_f {n r : Int} (h0 : 0 ≤ n) (h1 : n ≤ 9223372036854775807) (hr : IsRoot n r) : Ev (fun k => fix_Root.f k n) (r, 0) := by
  unfold fix_Root.f
  simp only [if_neg (show ¬ n < 0 by omega)]
  rw [w64 h0 (by omega)]
  refine Ev.bind (root_f (N := n) (r := r) (by omega) (by omega) h0 (by omega) (by omega) hr) ?_
  have a := hr.1
  have b := hr.le_of (x := 3037000500) (by omega) (by omega)
  rw [i64in (by omega) (by omega)]
  exact Ev.now _
theorem FixRoots : pylonlaw01_FixRoots.Pure := by
  intro n a b hn ha hb
  have wn := wf64 hn
  have wa := wf32 ha
  have wb := wf32 hb
  refine Ev.rounds (g := fun k => pylonlaw01_FixRoots.f k n a b) ?_
  unfold pylonlaw01_FixRoots.f
  refine Ev.bind awake_ev ?_
  simp only [if_true]
  by_cases h0 : n < 0
  · refine Ev.bind (a := (0, 5)) (by unfold fix_Root.f; simp only [if_pos h0]; exact Ev.now _) ?_
    simp only [if_pos h0, if_true]
    exact Ev.now _
  · obtain ⟨r, hr⟩ := root_of (show 0 ≤ n by omega)
    refine Ev.bind (rt_f (by omega) wn.2 hr) ?_
    have r0 := hr.1
    have r1 : r ≤ 3037000499 := by
      have := hr.2.1
      by_cases c : r ≤ 3037000499
      · exact c
      · have := sq_le (a := 3037000500) (b := r) (by omega) (by omega)
        omega
    have rs : r * r ≤ 3037000499 * 3037000499 := sq_le r0 r1
    have hrn := hr.2.1
    have hrx := hr.2.2
    have e1 : wrap64 (r * r) = r * r := i64in (by have := sq_nonneg r; omega) (by omega)
    have J : Ev (fun k => pylonlaw01_FixRoots.j0 k a b false) true := by
      have ta : -1073741824 ≤ Int.tdiv a 2 ∧ Int.tdiv a 2 ≤ 1073741824 := by
        have h2 : (Int.tdiv a 2).natAbs ≤ 1073741824 := by rw [Int.natAbs_tdiv]; show a.natAbs / 2 ≤ 1073741824; omega
        omega
      have tb : -1073741824 ≤ Int.tdiv b 2 ∧ Int.tdiv b 2 ≤ 1073741824 := by
        have h2 : (Int.tdiv b 2).natAbs ≤ 1073741824 := by rw [Int.natAbs_tdiv]; show b.natAbs / 2 ≤ 1073741824; omega
        omega
      have w3 : ∀ x : Int, -1073741824 ≤ x → x ≤ 1073741824 → wrap64 (wrap32 x) = x := by
        intro x h1 h2
        have : wrap32 x = x := by unfold wrap32; omega
        rw [this]; exact i64in (by omega) (by omega)
      refine Ev.shift ?_
      simp only [pylonlaw01_FixRoots.j0, Bool.false_eq_true, if_false, w3 _ ta.1 ta.2, w3 _ tb.1 tb.2]
      generalize Int.tdiv a 2 = x at *
      generalize Int.tdiv b 2 = y at *
      rw [i64in (x := -y) (by omega) (by omega)]
      have sx0 := sq_nonneg x
      have sy0 := sq_nonneg y
      have sx1 : x * x ≤ 1073741824 * 1073741824 := by
        have h1 : (x * x).natAbs = x.natAbs * x.natAbs := Int.natAbs_mul x x
        have h2 : x.natAbs * x.natAbs ≤ 1073741824 * 1073741824 := Nat.mul_le_mul (by omega) (by omega)
        omega
      have sy1 : y * y ≤ 1073741824 * 1073741824 := by
        have h1 : (y * y).natAbs = y.natAbs * y.natAbs := Int.natAbs_mul y y
        have h2 : y.natAbs * y.natAbs ≤ 1073741824 * 1073741824 := Nat.mul_le_mul (by omega) (by omega)
        omega
      obtain ⟨h, hh⟩ := root_of (show 0 ≤ x * x + y * y by omega)
      have hh2 : IsRoot (-y * -y + x * x) h := by
        rw [show -y * -y + x * x = x * x + y * y by rw [Int.neg_mul_neg]; omega]; exact hh
      have q0 := hh.1
      have q1 : h ≤ 1518500250 := by
        have := hh.2.1
        by_cases c : h ≤ 1518500250
        · exact c
        · have := sq_le (a := 1518500251) (b := h) (by omega) (by omega)
          omega
      have qs : h * h ≤ 1518500250 * 1518500250 := sq_le q0 q1
      have qt : (h + 1) * (h + 1) ≤ 1518500251 * 1518500251 := sq_le (by omega) (by omega)
      have qt0 := sq_nonneg (h + 1)
      have qs0 := sq_nonneg h
      have ef : fits h = (h, 0) := by unfold fits; rw [if_pos (by omega)]
      refine Ev.bind (hyp_f (a := x) (b := y) (r := h) (by omega) (by omega) (by omega) (by omega) hh) ?_
      refine Ev.bind (hyp_f (a := -y) (b := x) (r := h) (by omega) (by omega) (by omega) (by omega) hh2) ?_
      rw [ef]
      have hle := hh.2.1
      have hgt := hh.2.2
      rw [i64in (x := h * h) (by omega) (by omega), i64in (x := h + 1) (by omega) (by omega), i64in (x := x * x) (by omega) (by omega), i64in (x := y * y) (by omega) (by omega), i64in (x := (h + 1) * (h + 1)) (by omega) (by omega), i64in (x := x * x + y * y) (by omega) (by omega)]
      simp only [if_true, if_pos (show h ≥ 0 by omega), if_pos (show h < 2147483648 by omega), if_pos hle, decide_eq_true (show (h + 1) * (h + 1) > x * x + y * y from hgt)]
      exact Ev.now _
    simp only [if_neg h0, if_true, if_neg (show ¬ r < 0 by omega), if_neg (show ¬ r > 3037000499 by omega), e1, if_neg (show ¬ r * r > n by omega)]
    by_cases c : r < 3037000499
    · have e2 : wrap64 (r + 1) = r + 1 := i64in (by omega) (by omega)
      have s2 : (r + 1) * (r + 1) ≤ 3037000499 * 3037000499 := sq_le (by omega) (by omega)
      have s3 := sq_nonneg (r + 1)
      simp only [if_pos c, e2]
      rw [i64in (x := (r + 1) * (r + 1)) (by omega) (by omega), decide_eq_false (show ¬ (r + 1) * (r + 1) ≤ n by omega)]
      exact J
    · simp only [if_neg c]
      exact J
end Go.Proofs.YthejabcfbbmkeaaDoor.Pure
