/- Package demand: the power of a window's sum. -/
import Derived.Test.YtapimggcnneabaaRootDK
import Derived.Test.YtapimggcnneabaaFltV
import Derived.Test.YtapimggcnneabaaPDKx2
import Derived.Test.YtapimggcnneabaaPDKx4
set_option linter.unusedVariables false
set_option linter.unusedSimpArgs false
namespace Go.Proofs.Ytapimggcnneabaa.PureDK
open Go.RowKit Go.Proofs.Ytapimggcnneabaa.PDK Go.Proofs.Ytapimggcnneabaa.Num Go.Proofs.Ytapimggcnneabaa.Flt Go.Proofs.YtapimggcnneabaaW.PrintWords Go.Proofs.YtapimggcnneabaaW.PrintLast Go.Proofs.YtapimggcnneabaaW.PrintMore

theorem is_const {b : Nat} {n : Int} (h : n.natAbs < 2 ^ 53) (e : floatOfInt .f64 n = b) : Is b n := e ▸ of_int h
theorem fint_lt (n : Int) : floatOfInt .f64 n < 18446744073709551616 := wf_lt (floatOfInt_wf .f64 n)
theorem is_4e10 : Is 4765547686130614272 ((40000000000 : Nat) : Int) := is_const (by decide) (by decide +kernel)

/-- Both parts are whole and small. -/
def Small (M : Nat) (z : Cx) (A B : Int) : Prop := (Is z.re A ∧ A.natAbs ≤ M) ∧ Is z.im B ∧ B.natAbs ≤ M
def GoodC (M : Nat) (z : Cx) : Prop := ∃ A B, Small M z A B
def Bits (z : Cx) : Prop := z.re < 18446744073709551616 ∧ z.im < 18446744073709551616
theorem GoodC.small {M : Nat} {z : Cx} (h : GoodC M z) : Small M z (val z.re) (val z.im) := by
  obtain ⟨A, B, h⟩ := h
  rw [val_of h.1.1, val_of h.2.1]
  exact h
theorem Small.vals {M : Nat} {z : Cx} {A B : Int} (h : Small M z A B) : A = val z.re ∧ B = val z.im := ⟨(val_of h.1.1).symm, (val_of h.2.1).symm⟩

theorem dwhole_yes {x : Nat} {n : Int} (hx : x < 18446744073709551616) (h : Is x n) (hn : n.natAbs ≤ 40000000000) : demand_whole.f x = some true := by
  obtain ⟨h1, h2⟩ := whole_iff (x := x) (M := 40000000000) (by decide) is_4e10
  obtain ⟨a, b⟩ := h2.2 ⟨n, h, hn⟩
  unfold demand_whole.f math_Abs.f math_Trunc.f
  rw [abs_bits x hx]
  simp only [Option.bind_some, a, if_true, h1 a, b]
theorem dwhole_no {x : Nat} (hx : x < 18446744073709551616) (h : ¬ ∃ n, Is x n ∧ n.natAbs ≤ 40000000000) : demand_whole.f x = some false := by
  obtain ⟨h1, h2⟩ := whole_iff (x := x) (M := 40000000000) (by decide) is_4e10
  unfold demand_whole.f math_Abs.f math_Trunc.f
  rw [abs_bits x hx]
  simp only [Option.bind_some]
  by_cases a : fle (x % 9223372036854775808) 4765547686130614272 = true
  · rw [if_pos a, if_pos (h1 a), Option.bind_some]
    have : feq (ftrunc x) x = false := by
      cases c : feq (ftrunc x) x
      · rfl
      · exact (h (h2.1 ⟨a, c⟩)).elim
    rw [this]
  · rw [if_neg a]

/-- The whole square root. -/
noncomputable def isq (N : Int) : Int := by
  classical
  exact if h : ∃ r, IsRoot N r then Classical.choose h else 0
theorem isq_is {N : Int} (h : 0 ≤ N) : IsRoot N (isq N) := by
  unfold isq
  rw [dif_pos (root_of h)]
  exact Classical.choose_spec (root_of h)
/-- A window's length. -/
def Len (m : Int) : Prop := m = 15 ∨ m = 30 ∨ m = 60
instance (m : Int) : Decidable (Len m) := inferInstanceAs (Decidable (_ ∨ _))
/-- The power of a window's sum. -/
noncomputable def pw (A B m : Int) : Int := if A < 0 then 0 else isq (A * A + B * B) * (60 / m)
theorem dlen_yes {m : Int} (h : Len m) : demand_length.f m = some true := by
  rcases h with rfl | rfl | rfl <;> rfl
theorem dlen_no {m : Int} (h : ¬ Len m) : demand_length.f m = some false := by
  unfold demand_length.f
  rw [if_neg (fun e => h (.inl e)), if_neg (fun e => h (.inr (.inl e))), show (m == 60) = false from beq_eq_false_iff_ne.mpr (fun e => h (.inr (.inr e)))]
theorem abs_sq {A : Int} {n : Nat} (h : A.natAbs ≤ n) : 0 ≤ A * A ∧ A * A ≤ (n * n : Nat) := by
  have e : (A.natAbs : Int) * A.natAbs = A * A := Int.natAbs_mul_self
  have h2 : A.natAbs * A.natAbs ≤ n * n := Nat.mul_le_mul h h
  have h3 : ((A.natAbs * A.natAbs : Nat) : Int) ≤ (n * n : Nat) := by exact_mod_cast h2
  rw [Int.natCast_mul A.natAbs, e] at h3
  exact ⟨by rw [← e]; exact Int.mul_nonneg (by omega) (by omega), h3⟩
theorem root_small {A B : Int} (a : A.natAbs ≤ 40000000000) (b : B.natAbs ≤ 40000000000) : 0 ≤ A * A + B * B ∧ 0 ≤ isq (A * A + B * B) ∧ isq (A * A + B * B) ≤ 80000000000 := by
  obtain ⟨a0, a1⟩ := abs_sq a
  obtain ⟨b0, b1⟩ := abs_sq b
  have h0 : 0 ≤ A * A + B * B := by omega
  have hr := isq_is h0
  exact ⟨h0, hr.1, hr.le_of (by omega) (by omega)⟩
theorem mul60 {r m : Int} (hm : Len m) (h0 : 0 ≤ r) (h1 : r ≤ 80000000000) : (if m = 0 then (none : Option (Int × Int)) else some (wrap64 (r * wrap64 (Int.tdiv (60 : Int) m)), 0)) = some (r * (60 / m), 0) ∧
    (if m = 0 then (none : Option (Int × Int)) else some (wrap64 (Int.tdiv (wrap64 (r * 60)) m), 0)) = some (r * (60 / m), 0) := by
  have e : wrap64 (r * 60) = r * 60 := i64in (by omega) (by omega)
  rw [e, Int.tdiv_eq_ediv_of_nonneg (show 0 ≤ r * 60 by omega)]
  rcases hm with rfl | rfl | rfl
  · have h : Int.tdiv 60 15 = 4 := by decide
    rw [h, i64in (x := 4) (by omega) (by omega), i64in (x := r * 4) (by omega) (by omega), i64in (x := r * 60 / 15) (by omega) (by omega)]
    refine ⟨by simp, ?_⟩
    rw [show r * 60 / 15 = r * 4 by omega]
    simp
  · have h : Int.tdiv 60 30 = 2 := by decide
    rw [h, i64in (x := 2) (by omega) (by omega), i64in (x := r * 2) (by omega) (by omega), i64in (x := r * 60 / 30) (by omega) (by omega)]
    refine ⟨by simp, ?_⟩
    rw [show r * 60 / 30 = r * 2 by omega]
    simp
  · have h : Int.tdiv 60 60 = 1 := by decide
    rw [h, i64in (x := 1) (by omega) (by omega), i64in (x := r * 1) (by omega) (by omega), i64in (x := r * 60 / 60) (by omega) (by omega)]
    refine ⟨by simp, ?_⟩
    rw [show r * 60 / 60 = r * 1 by omega]
    simp
theorem fits_small {r : Int} (h0 : 0 ≤ r) (h1 : r ≤ 80000000000) : fits r = (r, 0) := by unfold fits; rw [if_pos (by omega)]

section
variable {z : Cx} {A B m : Int}
theorem power_ok (hb : Bits z) (s : Small 40000000000 z A B) (hm : Len m) : Ev (fun k => demand_Power.f k z m) (pw A B m, 0) := by
  obtain ⟨⟨a1, a2⟩, a3, a4⟩ := id s
  obtain ⟨h0, r0, r1⟩ := root_small a2 a4
  unfold demand_Power.f
  simp only [dlen_yes hm, dwhole_yes hb.1 a1 a2, dwhole_yes hb.2 a3 a4, Option.bind_some, if_true, Bool.not_true]
  refine Ev.shift ?_
  simp only [demand_Power.j0, Bool.false_eq_true, if_false, a1.flt is_zero]
  by_cases g : A < 0
  · simp only [decide_eq_true g, if_true]
    unfold pw
    rw [if_pos g]
    exact Ev.now _
  · obtain ⟨o1, e1⟩ := a1.toint (by omega) (by omega)
    obtain ⟨o2, e2⟩ := a3.toint (by omega) (by omega)
    simp only [decide_eq_false g, Bool.false_eq_true, if_false, o1, o2, e1, e2, if_true]
    have hh := hyp_f (by omega) (by omega) (by omega) (by omega) (isq_is h0)
    rw [fits_small r0 r1] at hh
    refine ev_bind hh ?_
    have := (mul60 hm r0 r1).1
    simp only [this]
    unfold pw
    rw [if_neg g]
    exact Ev.now _
theorem power_no (hb : Bits z) (h : ¬ GoodC 40000000000 z) (hm : Len m) : Ev (fun k => demand_Power.f k z m) (0, 5) := by
  unfold demand_Power.f
  have bad : Ev (fun k => demand_Power.j0 k z m true) (0, 5) := by
    refine Ev.shift ?_
    simp only [demand_Power.j0, if_true]
    exact Ev.now _
  simp only [dlen_yes hm, Option.bind_some, if_true]
  by_cases g : ∃ n, Is z.re n ∧ n.natAbs ≤ 40000000000
  · obtain ⟨n, n1, n2⟩ := g
    simp only [dwhole_yes hb.1 n1 n2, dwhole_no hb.2 (fun ⟨b, b1, b2⟩ => h ⟨n, b, ⟨n1, n2⟩, b1, b2⟩), Option.bind_some, if_true, Bool.not_false]
    exact bad
  · simp only [dwhole_no hb.1 g, Option.bind_some, Bool.false_eq_true, if_false]
    exact bad
theorem power_arg (hm : ¬ Len m) : Ev (fun k => demand_Power.f k z m) (0, 8) := by
  unfold demand_Power.f
  simp only [dlen_no hm, Option.bind_some, Bool.false_eq_true, if_false]
  exact Ev.now _
end
theorem is_3 : Is 4613937818241073152 3 := is_const (by decide) (by decide +kernel)
theorem is_4 : Is 4616189618054758400 4 := is_const (by decide) (by decide +kernel)
theorem awake_ev : Ev (fun k => pylonlaw16_awake.f k) true := by
  unfold pylonlaw16_awake.f
  have h := power_ok (z := cx 4613937818241073152 4616189618054758400) (A := 3) (B := 4) (m := 15) ⟨by decide, by decide⟩ ⟨⟨is_3, by decide⟩, is_4, by decide⟩ (.inl rfl)
  have e : isq (3 * 3 + 4 * 4) = 5 := (isq_is (by decide)).uniq ⟨by decide, by decide, by decide⟩
  have e2 : pw 3 4 15 = 20 := by unfold pw; rw [if_neg (by decide), e]; decide
  rw [e2] at h
  refine ev_bind h ?_
  exact Ev.ofEq (by simp)
end Go.Proofs.Ytapimggcnneabaa.PureDK
