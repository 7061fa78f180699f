/- Package meter: a read's point. -/
import Derived.Test.YtapimggcnneabaaPMAx1
import Derived.Test.YtapimggcnneabaaNum
import Derived.Test.YtapimggcnneabaaFlt
set_option linter.unusedVariables false
set_option linter.unusedSimpArgs false
namespace Go.Proofs.Ytapimggcnneabaa.PureMA
open Go.RowKit Go.Proofs.Ytapimggcnneabaa.PMA Go.Proofs.Ytapimggcnneabaa.Num Go.Proofs.Ytapimggcnneabaa.Flt Go.Proofs.YtapimggcnneabaaW.PrintWords Go.Proofs.YtapimggcnneabaaW.PrintLast Go.Proofs.YtapimggcnneabaaW.PrintMore

theorem is_const {b : Nat} {n : Int} (h : n.natAbs < 2 ^ 53) (e : floatOfInt .f64 n = b) : Is b n := e ▸ of_int h
theorem is_one : Is 4607182418800017408 1 := is_const (by decide) (by decide +kernel)
theorem is_mone : Is 13830554455654793216 (-1) := is_const (by decide) (by decide +kernel)
theorem is_ten : Is 4621819117588971520 10 := is_const (by decide) (by decide +kernel)
theorem is_140 : Is 4639129828656676864 140 := is_const (by decide) (by decide +kernel)
theorem is_most : Is 4756540486875873280 ((10000000000 : Nat) : Int) := is_const (by decide) (by decide +kernel)

/-- A turn of a pair. -/
def rot (t : Int) (a b : Int) : Int × Int := if t = 0 then (a, b) else if t = 1 then (-b, a) else if t = 2 then (-a, -b) else (b, -a)

theorem point_ok {k : Nat} {s i e v g m t : Int} (i0 : 0 ≤ i) (i1 : i ≤ 10000000) (e0 : 0 ≤ e) (e1 : e ≤ 10000000) (v0 : -10000000 ≤ v) (v1 : v ≤ 10000000) (m0 : 1 ≤ m) (m1 : m ≤ 1000) (t0 : 0 ≤ t) (t1 : t ≤ 3) :
    ∃ z, meter_Point.f (k + 1) s i e v g m t = some (z, 0) ∧ Is z.re (rot t ((i - e) * m) (v * m)).1 ∧ Is z.im (rot t ((i - e) * m) (v * m)).2 ∧ z.re < 18446744073709551616 ∧ z.im < 18446744073709551616 := by
  have hs : wrap64 (i - e) = i - e := i64in (by omega) (by omega)
  have bAC : ((i - e) * m).natAbs ≤ 10000000 * 1000 := by
    rw [Int.natAbs_mul]
    exact Nat.mul_le_mul (by omega) (by omega)
  have bBC : (v * m).natAbs ≤ 10000000 * 1000 := by
    rw [Int.natAbs_mul]
    exact Nat.mul_le_mul (by omega) (by omega)
  obtain ⟨ok1, re1, im1⟩ := cmul_is (of_int (n := i - e) (by omega)) (of_int (n := v) (by omega)) (of_int (n := m) (by omega)) is_zero (by omega) (by rw [Int.mul_zero]; decide) (by rw [Int.mul_zero]; decide) (by omega) (by rw [Int.mul_zero]; omega) (by rw [Int.mul_zero]; omega)
  rw [Int.mul_zero, Int.sub_zero] at re1
  rw [Int.mul_zero, Int.zero_add] at im1
  generalize (i - e) * m = X at *
  generalize v * m = Y at *
  have hpk : ∃ C D, Is (pk4 t 4607182418800017408 0 13830554455654793216 0) C ∧ Is (pk4 t 0 4607182418800017408 0 13830554455654793216) D ∧ C.natAbs ≤ 1 ∧ D.natAbs ≤ 1 ∧ X * C - Y * D = (rot t X Y).1 ∧ X * D + Y * C = (rot t X Y).2 := by
    have ht : t = 0 ∨ t = 1 ∨ t = 2 ∨ t = 3 := by omega
    rcases ht with rfl | rfl | rfl | rfl
    · exact ⟨1, 0, is_one, is_zero, by decide, by decide, by show X * 1 - Y * 0 = X; omega, by show X * 0 + Y * 1 = Y; omega⟩
    · exact ⟨0, 1, is_zero, is_one, by decide, by decide, by show X * 0 - Y * 1 = -Y; omega, by show X * 1 + Y * 0 = X; omega⟩
    · exact ⟨-1, 0, is_mone, is_zero, by decide, by decide, by show X * (-1) - Y * 0 = -X; omega, by show X * 0 + Y * (-1) = -Y; omega⟩
    · exact ⟨0, -1, is_zero, is_mone, by decide, by decide, by show X * 0 - Y * (-1) = Y; omega, by show X * (-1) + Y * 0 = -X; omega⟩
  obtain ⟨C, D, hC, hD, bC, bD, eR, eI⟩ := hpk
  have prod : ∀ {P Q : Int}, P.natAbs ≤ 10000000 * 1000 → Q.natAbs ≤ 1 → (P * Q).natAbs ≤ 10000000 * 1000 := by
    intro P Q hP hQ
    rw [Int.natAbs_mul]
    have := Nat.mul_le_mul hP hQ
    omega
  have p1 := prod bAC bC
  have p2 := prod bBC bD
  have p3 := prod bAC bD
  have p4 := prod bBC bC
  obtain ⟨ok2, re2, im2⟩ := cmul_is re1 im1 hC hD (by omega) (by omega) (by omega) (by omega) (by omega) (by omega)
  rw [eR] at re2
  rw [eI] at im2
  refine ⟨cx _ _, ?_, re2, im2, (cmul_lt _ _ _ _).1, (cmul_lt _ _ _ _).2⟩
  unfold meter_Point.f meter_within.f
  rw [if_pos (show m ≥ 1 from m0), decide_eq_true (show m ≤ 1000 from m1), Option.bind_some, if_pos rfl, if_neg (show ¬ t < 0 by omega)]
  simp only [meter_Point.j0, decide_eq_false (show ¬ t > 3 by omega), Bool.false_eq_true, if_false, meter_within.f, if_pos (show i ≥ 0 from i0), decide_eq_true i1, if_pos (show e ≥ 0 from e0), decide_eq_true e1, if_pos (show v ≥ -10000000 from v0), decide_eq_true v1, Option.bind_some, if_true, hs, ok1, if_pos t0, if_pos (show t < 4 by omega), ok2]
  rfl

theorem awake_ok (k : Nat) : pylonlaw12_awake.f (k + 1) = some true := by
  obtain ⟨z, e, h1, h2, _⟩ := point_ok (k := k) (s := 0) (i := 100) (e := 30) (v := -5) (g := 0) (m := 2) (t := 1) (by decide) (by decide) (by decide) (by decide) (by decide) (by decide) (by decide) (by decide) (by decide) (by decide)
  unfold pylonlaw12_awake.f
  rw [e]
  simp only [Option.bind_some, if_true]
  rw [ceq_is h1 h2 is_ten is_140]
  rfl

/-- What Point asks of a read's numbers. -/
def OkP (i e v m t : Int) : Prop := (1 ≤ m ∧ m ≤ 1000 ∧ 0 ≤ t ∧ t ≤ 3) ∧ 0 ≤ i ∧ i ≤ 10000000 ∧ 0 ≤ e ∧ e ≤ 10000000 ∧ -10000000 ≤ v ∧ v ≤ 10000000
/-- What Point answers: it hangs on the numbers alone. -/
theorem point_f (i e v m t : Int) : ∃ R : Cx × Int, (∀ (k : Nat) (s g : Int), meter_Point.f (k + 1) s i e v g m t = some R) ∧
    (OkP i e v m t → R.2 = 0 ∧ Is R.1.re (rot t ((i - e) * m) (v * m)).1 ∧ Is R.1.im (rot t ((i - e) * m) (v * m)).2 ∧ R.1.re < 18446744073709551616 ∧ R.1.im < 18446744073709551616) ∧
    (¬ OkP i e v m t → R = (cx 0 0, if 1 ≤ m ∧ m ≤ 1000 ∧ 0 ≤ t ∧ t ≤ 3 then 5 else 8)) := by
  by_cases h : OkP i e v m t
  · obtain ⟨⟨m0, m1, t0, t1⟩, i0, i1, e0, e1, v0, v1⟩ := id h
    obtain ⟨z, ez, r⟩ := point_ok (k := 0) (s := 0) (g := 0) i0 i1 e0 e1 v0 v1 m0 m1 t0 t1
    refine ⟨(z, 0), fun k s g => ?_, fun _ => ⟨rfl, r⟩, fun n => (n h).elim⟩
    obtain ⟨z2, ez2, _⟩ := point_ok (k := k) (s := s) (g := g) i0 i1 e0 e1 v0 v1 m0 m1 t0 t1
    have a : meter_Point.f (0 + 1) 0 i e v 0 m t = meter_Point.f (k + 1) s i e v g m t := by
      unfold meter_Point.f
      simp only [meter_Point.j0]
    rw [← a, ez]
  · refine ⟨(cx 0 0, if 1 ≤ m ∧ m ≤ 1000 ∧ 0 ≤ t ∧ t ≤ 3 then 5 else 8), fun k s g => ?_, fun y => (h y).elim, fun _ => rfl⟩
    unfold meter_Point.f meter_within.f
    by_cases m0 : m ≥ 1
    · by_cases m1 : m ≤ 1000
      · simp only [if_pos m0, decide_eq_true m1, Option.bind_some, if_true]
        by_cases t0 : t < 0
        · simp only [if_pos t0, decide_eq_true t0, meter_Point.j0, if_true]
          rw [if_neg (by omega)]
        · simp only [if_neg t0]
          by_cases t1 : t > 3
          · simp only [decide_eq_true t1, meter_Point.j0, if_true]
            rw [if_neg (by omega)]
          · simp only [decide_eq_false t1, meter_Point.j0, Bool.false_eq_true, if_false, meter_within.f]
            rw [if_pos (show 1 ≤ m ∧ m ≤ 1000 ∧ 0 ≤ t ∧ t ≤ 3 by omega)]
            have h2 : ¬ (0 ≤ i ∧ i ≤ 10000000 ∧ 0 ≤ e ∧ e ≤ 10000000 ∧ -10000000 ≤ v ∧ v ≤ 10000000) := fun n => h ⟨by omega, n⟩
            by_cases i0 : i ≥ 0
            · by_cases i1 : i ≤ 10000000
              · simp only [if_pos i0, decide_eq_true i1, Option.bind_some, if_true]
                by_cases e0 : e ≥ 0
                · by_cases e1 : e ≤ 10000000
                  · simp only [if_pos e0, decide_eq_true e1, Option.bind_some, if_true]
                    by_cases v0 : v ≥ -10000000
                    · have v1 : ¬ v ≤ 10000000 := by omega
                      simp only [if_pos v0, decide_eq_false v1, Option.bind_some, Bool.false_eq_true, if_false]
                    · simp only [if_neg v0, Option.bind_some, Bool.false_eq_true, if_false]
                  · simp only [if_pos e0, decide_eq_false e1, Option.bind_some, Bool.false_eq_true, if_false]
                · simp only [if_neg e0, Option.bind_some, Bool.false_eq_true, if_false]
              · simp only [if_pos i0, decide_eq_false i1, Option.bind_some, Bool.false_eq_true, if_false]
            · simp only [if_neg i0, Option.bind_some, Bool.false_eq_true, if_false]
      · simp only [if_pos m0, decide_eq_false m1, Option.bind_some, Bool.false_eq_true, if_false, Bool.not_false, meter_Point.j0, if_true]
        rw [if_neg (by omega)]
    · simp only [if_neg m0, Option.bind_some, Bool.false_eq_true, if_false, Bool.not_false, meter_Point.j0, if_true]
      rw [if_neg (by omega)]
end Go.Proofs.Ytapimggcnneabaa.PureMA
