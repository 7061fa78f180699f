/- The reference's root, bit by bit; its root of a sum of two squares. -/
import Derived.Test.YtapimggcnneabaaFixRD
import Derived.Test.YtapimggcnneabaaPDx5
set_option linter.unusedVariables false
set_option linter.unusedSimpArgs false
namespace Go.Proofs.Ytapimggcnneabaa.PureD
open Go.RowKit Go.Proofs.Ytapimggcnneabaa.PD Go.Proofs.Ytapimggcnneabaa.Num Go.Proofs.YtapimggcnneabaaW.PrintWords Go.Proofs.YtapimggcnneabaaW.PrintLast Go.Proofs.YtapimggcnneabaaW.PrintMore

theorem two_words {t N hi lo : Int} (l0 : 0 ≤ lo) (l1 : lo < 18446744073709551616) (hN : N = hi * 18446744073709551616 + lo) (ht : 0 ≤ t) :
    (t / 18446744073709551616 < hi → t ≤ N) ∧ (t / 18446744073709551616 = hi → (t % 18446744073709551616 ≤ lo ↔ t ≤ N)) ∧ (¬ t / 18446744073709551616 < hi → ¬ t / 18446744073709551616 = hi → N < t) := by
  refine ⟨fun h => by omega, fun h => by omega, fun h h' => by omega⟩
theorem refroot_l0 {hi lo N root : Int} (h0 : 0 ≤ hi) (l0 : 0 ≤ lo) (l1 : lo < 18446744073709551616) (hN : N = hi * 18446744073709551616 + lo) (hr : IsRoot N root) :
    ∀ (j : Nat) (r c : Int), j ≤ 64 → r = c * 2 ^ j → 0 ≤ c → r + 2 ^ j ≤ 18446744073709551616 → r * r ≤ N → N < (r + 2 ^ j) * (r + 2 ^ j) → Ev (fun k => pylonref01_root.l0 k hi lo r ((j : Int) - 1)) root := by
  intro j
  induction j with
  | zero =>
    intro r c hj hc hc0 hb h1 h2
    refine Ev.shift ?_
    have e : ¬ (((0 : Nat) : Int) - 1 ≥ 0) := by omega
    simp only [pylonref01_root.l0, if_neg e]
    have : root = r := hr.uniq ⟨by simp at hc; omega, h1, by simpa using h2⟩
    rw [this]
    exact Ev.now _
  | succ j ih =>
    intro r c hj hc hc0 hb h1 h2
    have e1 : ((j + 1 : Nat) : Int) - 1 = (j : Int) := by omega
    have e2 : IntKind.u64.wrap (j : Int) = (j : Int) := w64 (by omega) (by omega)
    have e3 : wrap64 ((j : Int) - 1) = (j : Int) - 1 := i64in (by omega) (by omega)
    have hp : (0 : Int) < 2 ^ j := Int.pow_pos (by omega)
    have hp2 : (2 : Int) ^ (j + 1) = 2 * 2 ^ j := by rw [Int.pow_succ]; omega
    have hr0 : 0 ≤ r := by rw [hc]; exact Int.mul_nonneg hc0 (by omega)
    have e4 : shl .u64 1 (j : Int) = 2 ^ j := by
      rw [shl64 (by omega) (by omega), Int.one_mul]
      simp only [Int.toNat_natCast]
      omega
    have e5 : Go.bits .or .u64 r (2 ^ j) = r + 2 ^ j := or_join (j + 1) hr0 (by omega) (by rw [hc]; exact Int.mul_emod_left ..) (by omega) (by omega) (by omega)
    have e6 : r = 2 * c * 2 ^ j := by rw [hc, hp2, Int.mul_comm 2 c, Int.mul_assoc]
    have e7 : r + 2 ^ j = (2 * c + 1) * 2 ^ j := by rw [Int.add_mul, ← e6, Int.one_mul]
    have ht0 : 0 ≤ (r + 2 ^ j) * (r + 2 ^ j) := Int.mul_nonneg (by omega) (by omega)
    obtain ⟨t1, t2, t3⟩ := two_words (t := (r + 2 ^ j) * (r + 2 ^ j)) l0 l1 hN ht0
    have yes : (r + 2 ^ j) * (r + 2 ^ j) ≤ N → Ev (fun k => pylonref01_root.l0 k hi lo (r + 2 ^ j) ((j : Int) - 1)) root := fun h =>
      ih (r + 2 ^ j) (2 * c + 1) (by omega) e7 (by omega) (by omega) h (by rw [hp2] at h2; rw [show r + 2 ^ j + 2 ^ j = r + 2 * 2 ^ j by omega]; exact h2)
    have no : N < (r + 2 ^ j) * (r + 2 ^ j) → Ev (fun k => pylonref01_root.l0 k hi lo r ((j : Int) - 1)) root := fun h => ih r (2 * c) (by omega) e6 (by omega) (by omega) h1 h
    refine Ev.shift ?_
    simp only [pylonref01_root.l0, e1, e2, e3, e4, e5, if_pos (show (j : Int) ≥ 0 by omega), if_pos (show (0 : Int) ≤ (j : Int) by omega), product_f (show 0 ≤ r + 2 ^ j by omega) (show r + 2 ^ j < 18446744073709551616 by omega) (show 0 ≤ r + 2 ^ j by omega) (show r + 2 ^ j < 18446744073709551616 by omega), Option.bind_some]
    by_cases g : (r + 2 ^ j) * (r + 2 ^ j) / 18446744073709551616 < hi
    · simp only [if_pos g]
      exact yes (t1 g)
    · simp only [if_neg g]
      by_cases g2 : (r + 2 ^ j) * (r + 2 ^ j) / 18446744073709551616 = hi
      · simp only [if_pos g2]
        by_cases g3 : (r + 2 ^ j) * (r + 2 ^ j) % 18446744073709551616 ≤ lo
        · simp only [if_pos g3]
          exact yes ((t2 g2).1 g3)
        · simp only [if_neg g3]
          exact no (by have := t2 g2; omega)
      · simp only [if_neg g2]
        exact no (t3 g g2)
theorem refroot_f {hi lo N root : Int} (h0 : 0 ≤ hi) (h1 : hi < 18446744073709551616) (l0 : 0 ≤ lo) (l1 : lo < 18446744073709551616) (hN : N = hi * 18446744073709551616 + lo) (hr : IsRoot N root) : Ev (fun k => pylonref01_root.f k hi lo) root := by
  unfold pylonref01_root.f
  have e : (2 : Int) ^ 64 = 18446744073709551616 := by rfl
  have := refroot_l0 h0 l0 l1 hN hr 64 0 0 (by omega) (by simp) (by omega) (by omega) (by omega) (by rw [e]; omega)
  exact this
theorem refsq_size {a : Int} (h0 : -9223372036854775808 ≤ a) (h1 : a ≤ 9223372036854775807) : 0 ≤ a * a ∧ a * a ≤ 85070591730234615865843651857942052864 ∧ (a.natAbs : Int) * a.natAbs = a * a := by
  have e : (a.natAbs : Int) * a.natAbs = a * a := Int.natAbs_mul_self
  have h2 : (a.natAbs : Int) ≤ 9223372036854775808 := by omega
  have h3 : (a.natAbs : Int) * a.natAbs ≤ 9223372036854775808 * 9223372036854775808 := Int.mul_le_mul h2 h2 (by omega) (by omega)
  have h4 : 0 ≤ (a.natAbs : Int) * a.natAbs := Int.mul_nonneg (by omega) (by omega)
  exact ⟨by omega, by omega, e⟩
theorem refhyp_f {a b r : Int} (ha0 : -9223372036854775808 ≤ a) (ha1 : a ≤ 9223372036854775807) (hb0 : -9223372036854775808 ≤ b) (hb1 : b ≤ 9223372036854775807) (hr : IsRoot (a * a + b * b) r) :
    Ev (fun k => pylonref01_Hyp.f k a b) (fits r) := by
  obtain ⟨sa0, sa1, sa2⟩ := refsq_size ha0 ha1
  obtain ⟨sb0, sb1, sb2⟩ := refsq_size hb0 hb1
  unfold pylonref01_Hyp.f
  simp only [mag_f ha0 ha1, mag_f hb0 hb1, Option.bind_some, product_f (show (0 : Int) ≤ (a.natAbs : Int) by omega) (show (a.natAbs : Int) < 18446744073709551616 by omega) (show (0 : Int) ≤ (a.natAbs : Int) by omega) (show (a.natAbs : Int) < 18446744073709551616 by omega),
    product_f (show (0 : Int) ≤ (b.natAbs : Int) by omega) (show (b.natAbs : Int) < 18446744073709551616 by omega) (show (0 : Int) ≤ (b.natAbs : Int) by omega) (show (b.natAbs : Int) < 18446744073709551616 by omega), sa2, sb2]
  generalize a * a = A at *
  generalize b * b = B at *
  have hr0 := hr.1
  have hr1 := hr.le_of (x := 18446744073709551616) (by omega) (by omega)
  have h1 := hr.2.1
  have hlt : r < 18446744073709551616 := by
    rcases Int.lt_or_le r 18446744073709551616 with g | g
    · exact g
    · have e : r = 18446744073709551616 := by omega
      rw [e] at h1
      omega
  have fin : Ev (fun k => (pylonref01_signed.f k false 0 r).bind fun bt => some (bt.1, bt.2)) (fits r) := by
    refine ev_bind (a := fits r) (Ev.shift (Ev.ofEqK (fun k => ?_))) (Ev.pair _)
    rw [signed_f k false (by omega) hr0 hlt]
    simp
  have e1 : IntKind.u64.wrap (A % 18446744073709551616 + B % 18446744073709551616) = (A + B) % 18446744073709551616 := by simp only [IntKind.wrap_u64]; omega
  have e2 : IntKind.u64.wrap (A / 18446744073709551616 + B / 18446744073709551616) = A / 18446744073709551616 + B / 18446744073709551616 := w64 (by omega) (by omega)
  have e3 : IntKind.u64.wrap (A / 18446744073709551616 + B / 18446744073709551616 + 1) = A / 18446744073709551616 + B / 18446744073709551616 + 1 := w64 (by omega) (by omega)
  rw [e1, e2, e3]
  by_cases g : (A + B) % 18446744073709551616 < A % 18446744073709551616
  · simp only [if_pos g]
    exact ev_bind (refroot_f (N := A + B) (by omega) (by omega) (by omega) (by omega) (by omega) hr) fin
  · simp only [if_neg g]
    exact ev_bind (refroot_f (N := A + B) (by omega) (by omega) (by omega) (by omega) (by omega) hr) fin
end Go.Proofs.Ytapimggcnneabaa.PureD
