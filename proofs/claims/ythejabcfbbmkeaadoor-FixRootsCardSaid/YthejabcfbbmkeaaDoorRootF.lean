/- fix.root: Newton's steps from above end in the whole square root; the whole square root of a sum of two squares. -/
import Derived.Test.YthejabcfbbmkeaaDoorFix3F
import Derived.Test.YthejabcfbbmkeaaDoorPFx5
set_option linter.unusedVariables false
set_option linter.unusedSimpArgs false
namespace Go.Proofs.YthejabcfbbmkeaaDoor.PureF
open Go.RowKit Go.Proofs.YthejabcfbbmkeaaDoor.PF Go.Proofs.YthejabcfbbmkeaaDoor.Num Go.Proofs.YthejabcfbbmkeaaDoorW.PrintWords Go.Proofs.YthejabcfbbmkeaaDoorW.PrintLast Go.Proofs.YthejabcfbbmkeaaDoorW.PrintMore

theorem half_sum {x q : Int} (h0 : 0 ≤ x) (h1 : x < 18446744073709551616) (q0 : 0 ≤ q) (q1 : q < 18446744073709551616) :
    Go.bits .or .u64 (u64add x q 0 / 2) (IntKind.u64.wrap (u64car x q 0 * 9223372036854775808)) = (x + q) / 2 := by
  have ea : u64add x q 0 = (x + q) % 18446744073709551616 := by unfold u64add; simp only [Int.toNat_zero]; omega
  have ec : u64car x q 0 = (x + q) / 18446744073709551616 := by unfold u64car; simp only [Int.toNat_zero]; omega
  rw [ea, ec]
  have ew : IntKind.u64.wrap ((x + q) / 18446744073709551616 * 9223372036854775808) = (x + q) / 18446744073709551616 * 9223372036854775808 := w64 (by omega) (by omega)
  rw [ew, or_join' 63 (x := (x + q) / 18446744073709551616 * 9223372036854775808) (y := (x + q) % 18446744073709551616 / 2) (by omega) (by omega) (by omega) (by omega) (by omega) (by omega)]
  omega

theorem root_l0 {hi lo N r : Int} (h0 : 0 ≤ hi) (l0 : 0 ≤ lo) (l1 : lo < 18446744073709551616) (hN : N = hi * 18446744073709551616 + lo) (hN1 : 1 ≤ N) (hr : IsRoot N r) :
    ∀ (d : Nat) (x : Int), x ≤ d → 0 < x → x < 18446744073709551616 → r ≤ x → Ev (fun k => fix_root.l0 k hi lo x) r := by
  intro d
  induction d with
  | zero => intro x hd hx0; omega
  | succ d ih =>
    intro x hd hx0 hx1 hrx
    refine Ev.shift ?_
    simp only [fix_root.l0]
    by_cases c : hi ≥ x
    · simp only [if_pos c]
      have h2 : x * x ≤ x * 18446744073709551616 := Int.mul_le_mul_of_nonneg_left (by omega) (by omega)
      have e : x = r := hr.top hrx (by omega)
      rw [e]
      exact Ev.now _
    · simp only [if_neg c]
      refine ev_bind (div64_f h0 l0 l1 (by omega) hx1) ?_
      rw [← hN]
      have q0 : 0 ≤ N / x := Int.ediv_nonneg (by omega) (by omega)
      have q1 : N / x < 18446744073709551616 := Int.ediv_lt_of_lt_mul hx0 (by
        have : (hi + 1) * 18446744073709551616 ≤ x * 18446744073709551616 := by omega
        rw [Int.mul_comm 18446744073709551616 x]
        omega)
      simp only [show c01 0 = true by rfl, if_true, half_sum (by omega) hx1 q0 q1]
      by_cases g : (x + N / x) / 2 ≥ x
      · simp only [if_pos g]
        have h2 : x * x ≤ N / x * x := Int.mul_le_mul_of_nonneg_right (by omega) (by omega)
        have h3 := Int.ediv_mul_le N (show x ≠ 0 by omega)
        have e : x = r := hr.top hrx (by omega)
        rw [e]
        exact Ev.now _
      · simp only [if_neg g]
        have h4 := newton hr hx0
        have h5 := hr.pos hN1
        exact ih _ (by omega) (by omega) (by omega) h4

theorem pow2_lt {n : Nat} (h : n ≤ 63) : (2 : Int) ^ n < 18446744073709551616 := by
  have : (2 : Int) ^ n ≤ 2 ^ 63 := by
    have := Nat.pow_le_pow_right (n := 2) (by omega) h
    exact_mod_cast this
  have e : (2 : Int) ^ 63 = 9223372036854775808 := by rfl
  omega

/-- The first guess is not below the root. -/
theorem root_j1 {hi lo N r : Int} {n : Nat} (h0 : 0 ≤ hi) (l0 : 0 ≤ lo) (l1 : lo < 18446744073709551616) (hN : N = hi * 18446744073709551616 + lo) (hN1 : 1 ≤ N) (hN2 : N < 340282366920938463463374607431768211456) (hr : IsRoot N r)
    (hn : n < 1000) (hb : N < 2 ^ n) : Ev (fun k => fix_root.j1 k hi lo (n : Int)) r := by
  refine Ev.shift ?_
  simp only [fix_root.j1]
  by_cases c : (n : Int) < 127
  · simp only [if_pos c]
    have e1 : wrap64 ((n : Int) + 1) = ((n + 1 : Nat) : Int) := by rw [i64in (by omega) (by omega)]; omega
    have e2 : Int.tdiv ((n + 1 : Nat) : Int) 2 = (((n + 1) / 2 : Nat) : Int) := by rw [Int.tdiv_eq_ediv_of_nonneg (by omega)]; omega
    have e3 : wrap64 (((n + 1) / 2 : Nat) : Int) = (((n + 1) / 2 : Nat) : Int) := i64in (by omega) (by omega)
    rw [e1, e2, e3]
    have hm : (n + 1) / 2 ≤ 63 := by omega
    simp only [if_pos (show (0 : Int) ≤ (((n + 1) / 2 : Nat) : Int) by omega)]
    have e4 : shl .u64 1 (((n + 1) / 2 : Nat) : Int) = 2 ^ ((n + 1) / 2) := by
      rw [shl64 (by omega) (by omega), Int.one_mul]
      simp only [Int.toNat_natCast]
      have := pow2_lt hm
      have : (0 : Int) < 2 ^ ((n + 1) / 2) := Int.pow_pos (by omega)
      omega
    rw [e4]
    refine Ev.shift ?_
    simp only [fix_root.j2]
    have hp : (0 : Int) < 2 ^ ((n + 1) / 2) := Int.pow_pos (by omega)
    have hsq : N < 2 ^ ((n + 1) / 2) * 2 ^ ((n + 1) / 2) := by
      rw [← Int.pow_add]
      have : (2 : Int) ^ n ≤ 2 ^ ((n + 1) / 2 + (n + 1) / 2) := by
        have := Nat.pow_le_pow_right (n := 2) (by omega) (show n ≤ (n + 1) / 2 + (n + 1) / 2 by omega)
        exact_mod_cast this
      omega
    have hx := hr.le_of (Int.le_of_lt hp) hsq
    have hlt := pow2_lt hm
    generalize (2 : Int) ^ ((n + 1) / 2) = x at *
    obtain ⟨d, rfl⟩ := Int.eq_ofNat_of_zero_le (Int.le_of_lt hp)
    exact root_l0 h0 l0 l1 hN hN1 hr d _ (Int.le_refl _) hp hlt hx
  · simp only [if_neg c]
    refine Ev.shift ?_
    simp only [fix_root.j2]
    refine root_l0 h0 l0 l1 hN hN1 hr 18446744073709551615 _ (by omega) (by omega) (by omega) ?_
    have := hr.le_of (x := 18446744073709551616) (by omega) (by omega)
    have h1 := hr.2.1
    rcases Int.lt_or_le 18446744073709551615 r with g | g
    · have e : r = 18446744073709551616 := by omega
      rw [e] at h1
      omega
    · exact g

theorem root_f {hi lo N r : Int} (h0 : 0 ≤ hi) (h1 : hi < 18446744073709551616) (l0 : 0 ≤ lo) (l1 : lo < 18446744073709551616) (hN : N = hi * 18446744073709551616 + lo) (hr : IsRoot N r) : Ev (fun k => fix_root.f k hi lo) r := by
  have yes : N = 0 → Ev (fun k => fix_root.j0 k hi lo true) r := by
    intro hz
    refine Ev.shift ?_
    simp only [fix_root.j0, if_true]
    have : r = 0 := hr.uniq (by rw [hz]; exact ⟨by omega, by omega, by omega⟩)
    rw [this]
    exact Ev.now _
  have no : N ≠ 0 → Ev (fun k => fix_root.j0 k hi lo false) r := by
    intro hz
    obtain ⟨a, rfl⟩ := Int.eq_ofNat_of_zero_le h0
    obtain ⟨b, rfl⟩ := Int.eq_ofNat_of_zero_le l0
    refine Ev.shift ?_
    simp only [fix_root.j0, Bool.false_eq_true, if_false]
    have lb : Ev (fun k => bits_Len64.f k (b : Int)) ((bitLen b : Nat) : Int) := Ev.shift (Ev.ofEqK (fun k => len64_f k b (by omega)))
    refine ev_bind lb ?_
    have hb := bitLen_spec b
    have hb64 := bitLen64 (n := b) (b := 64) (by simp only [Nat.reducePow]; omega)
    by_cases c : (a : Int) = 0
    · simp only [if_pos c]
      have : N = (b : Int) := by omega
      refine root_j1 h0 l0 l1 hN (by omega) (by omega) hr (n := bitLen b) (by omega) ?_
      rw [this]
      exact_mod_cast hb.1
    · simp only [if_neg c]
      have la : Ev (fun k => bits_Len64.f k (a : Int)) ((bitLen a : Nat) : Int) := Ev.shift (Ev.ofEqK (fun k => len64_f k a (by omega)))
      refine ev_bind la ?_
      have ha := bitLen_spec a
      have ha64 := bitLen64 (n := a) (b := 64) (by simp only [Nat.reducePow]; omega)
      have e1 : wrap64 (64 + ((bitLen a : Nat) : Int)) = ((64 + bitLen a : Nat) : Int) := by rw [i64in (by omega) (by omega)]; omega
      rw [e1]
      refine root_j1 h0 l0 l1 hN (by omega) (by omega) hr (n := 64 + bitLen a) (by omega) ?_
      have h3 : (a : Int) + 1 ≤ 2 ^ bitLen a := by exact_mod_cast ha.1
      have h4 : ((a : Int) + 1) * 18446744073709551616 ≤ 2 ^ bitLen a * 18446744073709551616 := Int.mul_le_mul_of_nonneg_right h3 (by omega)
      rw [Int.pow_add, show (2 : Int) ^ 64 = 18446744073709551616 by rfl, Int.mul_comm 18446744073709551616 (2 ^ bitLen a)]
      omega
  unfold fix_root.f
  by_cases c : hi = 0
  · simp only [if_pos c]
    by_cases d : lo = 0
    · rw [show (lo == 0) = true by simp [d]]
      exact yes (by omega)
    · rw [show (lo == 0) = false by simp [d]]
      exact no (by omega)
  · simp only [if_neg c]
    exact no (by omega)

theorem sq_size {a : Int} (h0 : -9223372036854775808 ≤ a) (h1 : a ≤ 9223372036854775807) : 0 ≤ a * a ∧ a * a ≤ 85070591730234615865843651857942052864 ∧ (a.natAbs : Int) * a.natAbs = a * a := by
  have e : (a.natAbs : Int) * a.natAbs = a * a := Int.natAbs_mul_self
  have h2 : (a.natAbs : Int) ≤ 9223372036854775808 := by omega
  have h3 : (a.natAbs : Int) * a.natAbs ≤ 9223372036854775808 * 9223372036854775808 := Int.mul_le_mul h2 h2 (by omega) (by omega)
  have h4 : 0 ≤ (a.natAbs : Int) * a.natAbs := Int.mul_nonneg (by omega) (by omega)
  exact ⟨by omega, by omega, e⟩

/-- The whole square root of a * a + b * b, where it is an int64. -/
theorem hyp_f {a b r : Int} (ha0 : -9223372036854775808 ≤ a) (ha1 : a ≤ 9223372036854775807) (hb0 : -9223372036854775808 ≤ b) (hb1 : b ≤ 9223372036854775807) (hr : IsRoot (a * a + b * b) r) :
    Ev (fun k => fix_Hyp.f k a b) (fits r) := by
  obtain ⟨sa0, sa1, sa2⟩ := sq_size ha0 ha1
  obtain ⟨sb0, sb1, sb2⟩ := sq_size hb0 hb1
  unfold fix_Hyp.f
  simp only [size_f ha0 ha1, size_f hb0 hb1, Option.bind_some, mul64_f (show (0 : Int) ≤ (a.natAbs : Int) by omega) (by omega) (show (0 : Int) ≤ (a.natAbs : Int) by omega) (by omega),
    mul64_f (show (0 : Int) ≤ (b.natAbs : Int) by omega) (by omega) (show (0 : Int) ≤ (b.natAbs : Int) by omega) (by omega), sa2, sb2, show c01 0 = true by rfl, if_true]
  generalize a * a = A at *
  generalize b * b = B at *
  have ea : u64add (A % 18446744073709551616) (B % 18446744073709551616) 0 = (A + B) % 18446744073709551616 := by unfold u64add; simp only [Int.toNat_zero]; omega
  have ec : u64car (A % 18446744073709551616) (B % 18446744073709551616) 0 = (A % 18446744073709551616 + B % 18446744073709551616) / 18446744073709551616 := by unfold u64car; simp only [Int.toNat_zero]; omega
  rw [ea, ec]
  have eh : IntKind.u64.wrap (IntKind.u64.wrap (A / 18446744073709551616 + B / 18446744073709551616) + (A % 18446744073709551616 + B % 18446744073709551616) / 18446744073709551616) = (A + B) / 18446744073709551616 := by
    simp only [IntKind.wrap_u64]; omega
  rw [eh]
  refine ev_bind (root_f (N := A + B) (r := r) (by omega) (by omega) (by omega) (by omega) (by omega) hr) ?_
  have hr0 := hr.1
  have hr1 := hr.le_of (x := 18446744073709551616) (by omega) (by omega)
  have h1 := hr.2.1
  have hlt : r < 18446744073709551616 := by
    rcases Int.lt_or_le r 18446744073709551616 with g | g
    · exact g
    · have e : r = 18446744073709551616 := by omega
      rw [e] at h1
      omega
  refine ev_bind (a := fits r) (Ev.shift (Ev.ofEqK (fun k => ?_))) (Ev.pair _)
  rw [number_f k false (by omega) hr0 hlt]
  simp
end Go.Proofs.YthejabcfbbmkeaaDoor.PureF
