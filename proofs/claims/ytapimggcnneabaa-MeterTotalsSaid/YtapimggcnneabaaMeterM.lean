/- Package meter: what the printed functions compute, as plain arithmetic. -/
import Derived.Test.YtapimggcnneabaaPMx1
import Derived.Test.YtapimggcnneabaaNum
import Derived.Test.YtapimggcnneabaaFlt
set_option linter.unusedVariables false
set_option linter.unusedSimpArgs false
namespace Go.Proofs.Ytapimggcnneabaa.PureM
open Go.RowKit Go.Proofs.Ytapimggcnneabaa.PM Go.Proofs.Ytapimggcnneabaa.Num Go.Proofs.Ytapimggcnneabaa.Flt Go.Proofs.YtapimggcnneabaaW.PrintWords Go.Proofs.YtapimggcnneabaaW.PrintLast Go.Proofs.YtapimggcnneabaaW.PrintMore

theorem is_const {b : Nat} {n : Int} (h : n.natAbs < 2 ^ 53) (e : floatOfInt .f64 n = b) : Is b n := e ▸ of_int h
theorem is_one : Is 4607182418800017408 1 := is_const (by decide) (by decide +kernel)
theorem is_mone : Is 13830554455654793216 (-1) := is_const (by decide) (by decide +kernel)
theorem is_ten : Is 4621819117588971520 10 := is_const (by decide) (by decide +kernel)
theorem is_140 : Is 4639129828656676864 140 := is_const (by decide) (by decide +kernel)
theorem is_most : Is 4756540486875873280 ((10000000000 : Nat) : Int) := is_const (by decide) (by decide +kernel)

theorem whole_yes {x : Nat} {n : Int} (hx : x < 18446744073709551616) (h : Is x n) (hn : n.natAbs ≤ 10000000000) : meter_whole.f x = some true := by
  obtain ⟨h1, h2⟩ := whole_iff (x := x) (M := 10000000000) (by decide) is_most
  obtain ⟨a, b⟩ := h2.2 ⟨n, h, hn⟩
  unfold meter_whole.f math_Abs.f math_Trunc.f
  rw [abs_bits x hx]
  simp only [Option.bind_some, a, if_true, h1 a, b]
theorem whole_no {x : Nat} (hx : x < 18446744073709551616) (h : ¬ ∃ n, Is x n ∧ n.natAbs ≤ 10000000000) : meter_whole.f x = some false := by
  obtain ⟨h1, h2⟩ := whole_iff (x := x) (M := 10000000000) (by decide) is_most
  unfold meter_whole.f math_Abs.f math_Trunc.f
  rw [abs_bits x hx]
  simp only [Option.bind_some]
  by_cases a : fle (x % 9223372036854775808) 4756540486875873280 = true
  · rw [if_pos a, if_pos (h1 a), Option.bind_some]
    have : feq (ftrunc x) x = false := by
      cases c : feq (ftrunc x) x
      · rfl
      · exact (h (h2.1 ⟨a, c⟩)).elim
    rw [this]
  · rw [if_neg a]
/-- Both parts are whole and small. -/
def Small (z : Cx) (A B : Int) : Prop := (Is z.re A ∧ A.natAbs ≤ 10000000000) ∧ Is z.im B ∧ B.natAbs ≤ 10000000000
theorem fits_yes {z : Cx} {A B : Int} (h0 : z.re < 18446744073709551616) (h1 : z.im < 18446744073709551616) (h : Small z A B) : meter_Fits.f z = some true := by
  unfold meter_Fits.f
  rw [whole_yes h0 h.1.1 h.1.2, whole_yes h1 h.2.1 h.2.2]
  rfl
theorem fits_no {z : Cx} (h0 : z.re < 18446744073709551616) (h1 : z.im < 18446744073709551616) (h : ¬ ∃ A B, Small z A B) : meter_Fits.f z = some false := by
  unfold meter_Fits.f
  by_cases a : ∃ n, Is z.re n ∧ n.natAbs ≤ 10000000000
  · obtain ⟨n, a, b⟩ := a
    rw [whole_yes h0 a b, whole_no h1 (fun ⟨m, c, d⟩ => h ⟨n, m, ⟨a, b⟩, c, d⟩)]
    rfl
  · rw [whole_no h0 a]
    rfl

/-- A turn of a pair. -/
def rot (t : Int) (a b : Int) : Int × Int := if t = 0 then (a, b) else if t = 1 then (-b, a) else if t = 2 then (-a, -b) else (b, -a)

theorem point_ok {k : Nat} {s i e v g m t : Int} (i0 : 0 ≤ i) (i1 : i ≤ 10000000) (e0 : 0 ≤ e) (e1 : e ≤ 10000000) (v0 : -10000000 ≤ v) (v1 : v ≤ 10000000) (m0 : 1 ≤ m) (m1 : m ≤ 1000) (t0 : 0 ≤ t) (t1 : t ≤ 3) :
    ∃ z, meter_Point.f (k + 1) s i e v g m t = some (z, 0) ∧ Is z.re (rot t ((i - e) * m) (v * m)).1 ∧ Is z.im (rot t ((i - e) * m) (v * m)).2 ∧ z.re < 18446744073709551616 ∧ z.im < 18446744073709551616 := by
  have hs : wrap64 (i - e) = i - e := i64in (by omega) (by omega)
  have bAC : ((i - e) * m).natAbs ≤ 10000000 * 1000 := by
    rw [Int.natAbs_mul]
    exact Nat.mul_le_mul (by omega) (by omega)
  have bBC : (v * m).natAbs ≤ 10000000 * 1000 := by
    rw [Int.natAbs_mul]
    exact Nat.mul_le_mul (by omega) (by omega)
  obtain ⟨ok1, re1, im1⟩ := cmul_is (of_int (n := i - e) (by omega)) (of_int (n := v) (by omega)) (of_int (n := m) (by omega)) is_zero (by omega) (by rw [Int.mul_zero]; decide) (by rw [Int.mul_zero]; decide) (by omega) (by rw [Int.mul_zero]; omega) (by rw [Int.mul_zero]; omega)
  rw [Int.mul_zero, Int.sub_zero] at re1
  rw [Int.mul_zero, Int.zero_add] at im1
  generalize (i - e) * m = X at *
  generalize v * m = Y at *
  have hpk : ∃ C D, Is (pk4 t 4607182418800017408 0 13830554455654793216 0) C ∧ Is (pk4 t 0 4607182418800017408 0 13830554455654793216) D ∧ C.natAbs ≤ 1 ∧ D.natAbs ≤ 1 ∧ X * C - Y * D = (rot t X Y).1 ∧ X * D + Y * C = (rot t X Y).2 := by
    have ht : t = 0 ∨ t = 1 ∨ t = 2 ∨ t = 3 := by omega
    rcases ht with rfl | rfl | rfl | rfl
    · exact ⟨1, 0, is_one, is_zero, by decide, by decide, by show X * 1 - Y * 0 = X; omega, by show X * 0 + Y * 1 = Y; omega⟩
    · exact ⟨0, 1, is_zero, is_one, by decide, by decide, by show X * 0 - Y * 1 = -Y; omega, by show X * 1 + Y * 0 = X; omega⟩
    · exact ⟨-1, 0, is_mone, is_zero, by decide, by decide, by show X * (-1) - Y * 0 = -X; omega, by show X * 0 + Y * (-1) = -Y; omega⟩
    · exact ⟨0, -1, is_zero, is_mone, by decide, by decide, by show X * 0 - Y * (-1) = Y; omega, by show X * (-1) + Y * 0 = -X; omega⟩
  obtain ⟨C, D, hC, hD, bC, bD, eR, eI⟩ := hpk
  have prod : ∀ {P Q : Int}, P.natAbs ≤ 10000000 * 1000 → Q.natAbs ≤ 1 → (P * Q).natAbs ≤ 10000000 * 1000 := by
    intro P Q hP hQ
    rw [Int.natAbs_mul]
    have := Nat.mul_le_mul hP hQ
    omega
  have p1 := prod bAC bC
  have p2 := prod bBC bD
  have p3 := prod bAC bD
  have p4 := prod bBC bC
  obtain ⟨ok2, re2, im2⟩ := cmul_is re1 im1 hC hD (by omega) (by omega) (by omega) (by omega) (by omega) (by omega)
  rw [eR] at re2
  rw [eI] at im2
  refine ⟨cx _ _, ?_, re2, im2, (cmul_lt _ _ _ _).1, (cmul_lt _ _ _ _).2⟩
  unfold meter_Point.f meter_within.f
  rw [if_pos (show m ≥ 1 from m0), decide_eq_true (show m ≤ 1000 from m1), Option.bind_some, if_pos rfl, if_neg (show ¬ t < 0 by omega)]
  simp only [meter_Point.j0, decide_eq_false (show ¬ t > 3 by omega), Bool.false_eq_true, if_false, meter_within.f, if_pos (show i ≥ 0 from i0), decide_eq_true i1, if_pos (show e ≥ 0 from e0), decide_eq_true e1, if_pos (show v ≥ -10000000 from v0), decide_eq_true v1, Option.bind_some, if_true, hs, ok1, if_pos t0, if_pos (show t < 4 by omega), ok2]
  rfl

theorem awake_ok (k : Nat) : pylonlaw12_awake.f (k + 1) = some true := by
  obtain ⟨z, e, h1, h2, _⟩ := point_ok (k := k) (s := 0) (i := 100) (e := 30) (v := -5) (g := 0) (m := 2) (t := 1) (by decide) (by decide) (by decide) (by decide) (by decide) (by decide) (by decide) (by decide) (by decide) (by decide)
  unfold pylonlaw12_awake.f
  rw [e]
  simp only [Option.bind_some, if_true]
  rw [ceq_is h1 h2 is_ten is_140]
  rfl
end Go.Proofs.Ytapimggcnneabaa.PureM
