/- FixHalves holds: the quotient is half up; whatever the input, the law answers true and its arguments read as before. -/
import Derived.Test.YthejabcfbbmkeaaDoorFixAF
import Derived.Test.YthejabcfbbmkeaaDoorPFx2
import Derived.Test.YthejabcfbbmkeaaDoorPFx3
set_option linter.unusedVariables false
namespace Go.Proofs.YthejabcfbbmkeaaDoor.Pure
open Go.RowKit Go.Proofs.YthejabcfbbmkeaaDoor.PF Go.Proofs.YthejabcfbbmkeaaDoor.Num Go.Proofs.YthejabcfbbmkeaaDoor.PureF Go.Proofs.YthejabcfbbmkeaaDoorW.PrintWords Go.Proofs.YthejabcfbbmkeaaDoorW.PrintLast Go.Proofs.YthejabcfbbmkeaaDoorW.PrintMore
theorem half_f {a b : Int} (ha : (Lit.int .i64 a).wf = true) (hb : (Lit.int .i64 b).wf = true) : Ev (fun k => fix_Half.f k a b) (mulDivA a 1 b) := by
  unfold fix_Half.f
  refine Ev.bind (muldiv_f ha (by decide) hb) ?_
  exact Ev.pair _
/-- What is known of n / d, half up. -/
theorem quo_facts {n d q : Int} (hd : d ≠ 0) (hq : q = if d < 0 then halfUp (-n) (-d) else halfUp n d) : True ∧
    (d > 0 → 2 * (q * d) - d ≤ 2 * n ∧ 2 * n < 2 * (q * d) + d) ∧ (d < 0 → 2 * (q * -d) - -d ≤ 2 * -n ∧ 2 * -n < 2 * (q * -d) + -d) ∧ q.natAbs ≤ n.natAbs + 1 := by
  have key : ∀ n d q : Int, 0 < d → q = halfUp n d → (2 * (q * d) - d ≤ 2 * n ∧ 2 * n < 2 * (q * d) + d) ∧ q.natAbs ≤ n.natAbs + 1 := by
    intro n d q h e
    have s := halfUp_spec n h
    rw [← e] at s
    refine ⟨s, ?_⟩
    by_cases c : 0 ≤ q
    · have := Int.mul_le_mul_of_nonneg_left (show 1 ≤ d by omega) c
      by_cases e1 : q ≤ n.natAbs + 1
      · omega
      · have h2 : (n.natAbs + 2 : Int) * d ≤ q * d := Int.mul_le_mul_of_nonneg_right (by omega) (by omega)
        have h3 : (n.natAbs : Int) * 1 ≤ (n.natAbs : Int) * d := Int.mul_le_mul_of_nonneg_left (by omega) (by omega)
        rw [Int.add_mul] at h2
        omega
    · by_cases e1 : -q ≤ n.natAbs + 1
      · omega
      · have h2 : (n.natAbs + 2 : Int) * d ≤ -q * d := Int.mul_le_mul_of_nonneg_right (by omega) (by omega)
        have h3 : (n.natAbs : Int) * 1 ≤ (n.natAbs : Int) * d := Int.mul_le_mul_of_nonneg_left (by omega) (by omega)
        rw [Int.add_mul, Int.neg_mul] at h2
        omega
  by_cases h : d < 0
  · rw [if_pos h] at hq
    have k := key (-n) (-d) q (by omega) hq
    have e : q * -d = -(q * d) := Int.mul_neg ..
    have k2 := k.2
    rw [Int.natAbs_neg] at k2
    exact ⟨trivial, fun c => by omega, fun _ => k.1, k2⟩
  · rw [if_neg h] at hq
    have k := key n d q (by omega) hq
    exact ⟨trivial, fun _ => k.1, fun c => absurd c h, k.2⟩
theorem near_f {n d q : Int} (hd : d ≠ 0) (d0 : -1048576 < d) (d1 : d < 1048576) (n0 : -1099511627776 < n) (n1 : n < 1099511627776) (hq : q = if d < 0 then halfUp (-n) (-d) else halfUp n d) : pylonlaw01_near.f n d q = some true := by
  obtain ⟨_, hp, hm, ha⟩ := quo_facts hd hq
  have ez : q * -d = -(q * d) := Int.mul_neg ..
  have e1 : 2 * q * d = 2 * (q * d) := Int.mul_assoc ..
  have e2 : 2 * q * -d = 2 * (q * -d) := Int.mul_assoc ..
  rw [ez] at hm
  unfold pylonlaw01_near.f
  rw [i64in (x := 2 * q) (by omega) (by omega)]
  by_cases c : d < 0
  · have := hm c
    simp only [if_pos c]
    rw [i64in (x := -d) (by omega) (by omega), i64in (x := -n) (by omega) (by omega), i64in (x := 2 * -n) (by omega) (by omega), e2, ez, i64in (x := 2 * -(q * d)) (by omega) (by omega), i64in (x := - -d) (by omega) (by omega), i64in (x := 2 * -n - 2 * -(q * d)) (by omega) (by omega)]
    rw [if_pos (by omega), decide_eq_true (by omega)]
  · have := hp (by omega)
    simp only [if_neg c]
    rw [i64in (x := -d) (by omega) (by omega), i64in (x := 2 * n) (by omega) (by omega), e1, i64in (x := 2 * (q * d)) (by omega) (by omega), i64in (x := 2 * n - 2 * (q * d)) (by omega) (by omega)]
    rw [if_pos (by omega), decide_eq_true (by omega)]
theorem mulDivA_is {a b c : Int} (hc : c ≠ 0) (hn : -1099511627776 < a * b ∧ a * b < 1099511627776) : mulDivA a b c = ((if c < 0 then halfUp (-(a * b)) (-c) else halfUp (a * b) c), 0) := by
  have h := quo_facts (n := a * b) hc rfl
  unfold mulDivA mulDiv
  rw [if_neg hc]
  unfold fits
  rw [if_pos (by omega)]
theorem FixHalves : pylonlaw01_FixHalves.Pure := by
  intro a b c ha hb hc
  have wa := wf32 ha
  have wb := wf32 hb
  have wc := wf32 hc
  refine Ev.rounds (g := fun k => pylonlaw01_FixHalves.f k a b c) ?_
  unfold pylonlaw01_FixHalves.f
  refine Ev.bind awake_ev ?_
  have bd : ∀ x : Int, -1048576 < Int.tmod x 1048576 ∧ Int.tmod x 1048576 < 1048576 := fun x => ⟨Int.lt_tmod_of_pos x (by omega), Int.tmod_lt_of_pos x (by omega)⟩
  have hx := bd a
  have hy := bd b
  have hz := bd c
  rw [i64in (x := Int.tmod a 1048576) (by omega) (by omega), i64in (x := Int.tmod b 1048576) (by omega) (by omega), i64in (x := Int.tmod c 1048576) (by omega) (by omega)]
  generalize Int.tmod a 1048576 = x at *
  generalize Int.tmod b 1048576 = y at *
  generalize Int.tmod c 1048576 = z at *
  simp only [if_true]
  refine Ev.bind (muldiv_f (a := x) (b := y) (c := z) (wfi (by omega) (by omega)) (wfi (by omega) (by omega)) (wfi (by omega) (by omega))) ?_
  refine Ev.bind (half_f (a := x) (b := z) (wfi (by omega) (by omega)) (wfi (by omega) (by omega))) ?_
  by_cases h0 : z = 0
  · subst h0
    simp only [if_true, show mulDivA x y 0 = (0, 6) from rfl, show mulDivA x 1 0 = (0, 6) from rfl]
    exact Ev.now _
  · have hxy : -1099511627776 < x * y ∧ x * y < 1099511627776 := by
      have h1 : (x * y).natAbs = x.natAbs * y.natAbs := Int.natAbs_mul x y
      have h2 : x.natAbs * y.natAbs ≤ 1048575 * 1048575 := Nat.mul_le_mul (by omega) (by omega)
      omega
    have hx1 : x * 1 = x := Int.mul_one x
    rw [mulDivA_is h0 hxy, mulDivA_is h0 (show -1099511627776 < x * 1 ∧ x * 1 < 1099511627776 by omega), hx1]
    have q1 := quo_facts (n := x * y) h0 rfl
    have q2 := quo_facts (n := x) h0 rfl
    have n1 := near_f (n := x * y) h0 hz.1 hz.2 hxy.1 hxy.2 rfl
    have n2 := near_f (n := x) h0 hz.1 hz.2 (by omega) (by omega) rfl
    generalize (if z < 0 then halfUp (-(x * y)) (-z) else halfUp (x * y) z) = q at *
    generalize (if z < 0 then halfUp (-x) (-z) else halfUp x z) = h at *
    simp only [if_neg h0, if_neg (show ¬ q > 2199023255552 by omega), if_neg (show ¬ q < -2199023255552 by omega), if_neg (show ¬ h > 2097152 by omega), if_neg (show ¬ h < -2097152 by omega), if_true, bne_self_eq_false]
    refine Ev.shift ?_
    simp only [pylonlaw01_FixHalves.j0, Bool.false_eq_true, if_false]
    rw [i64in (x := x * y) (by omega) (by omega), n1, n2]
    simp only [Option.bind_some, if_true]
    exact Ev.now _
end Go.Proofs.YthejabcfbbmkeaaDoor.Pure
