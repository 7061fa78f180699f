/- RatchetHolds holds: what is billed is at least the peak, at least the percentage of each that is looked back to, and one of these; whatever the input, the law answers true and its arguments read as before. -/
import Derived.Test.YtbjkjakilpifhaaRatR
import Derived.Test.YtbjkjakilpifhaaPRx6
import Derived.Test.YtbjkjakilpifhaaPRx7
set_option linter.unusedVariables false
namespace Go.Proofs.Ytbjkjakilpifhaa.Pure
open Go.RowKit Go.Proofs.Ytbjkjakilpifhaa.PR Go.Proofs.Ytbjkjakilpifhaa.Num Go.Proofs.Ytbjkjakilpifhaa.PureR Go.Proofs.YtbjkjakilpifhaaW.PrintWords Go.Proofs.YtbjkjakilpifhaaW.PrintLast Go.Proofs.YtbjkjakilpifhaaW.PrintMore
theorem rd_set {l : List Int} {i j v : Int} (i0 : 0 ≤ i) (i1 : i < l.length) (j0 : 0 ≤ j) : rd (l.set i.toNat v) j = if j = i then v else rd l j := by
  unfold rd
  rw [List.getD_eq_getElem?_getD, List.getD_eq_getElem?_getD, List.getElem?_set]
  by_cases h : j = i
  · subst h
    rw [if_pos rfl, if_pos (by omega), if_pos rfl]
    rfl
  · rw [if_neg (by omega), if_neg h]
/-- Numbers that may be peaks. -/
theorem good_l0 (l : List Int) (hl : (l.length : Int) ≤ 140737488355328) : ∀ (d : Nat) (i : Int) (out : List Int), 0 ≤ i → (l.length : Int) - i = d → out.length = l.length →
    (∀ j : Int, 0 ≤ j → j < i → 0 ≤ rd out j ∧ rd out j ≤ 500000000000000) →
    ∃ r, Ev (fun k => pylonlaw18_good.l0 k l out (l.length : Int) i) r ∧ r.length = l.length ∧ okPeaks r := by
  intro d
  induction d with
  | zero =>
    intro i out i0 hd hlen hok
    refine ⟨out, Ev.shift ?_, hlen, fun j j0 j1 => hok j j0 (by omega)⟩
    simp only [pylonlaw18_good.l0, if_neg (show ¬ i < (l.length : Int) by omega)]
    exact Ev.now _
  | succ d ih =>
    intro i out i0 hd hlen hok
    have hv0 : 0 ≤ wrap64 (Int.tmod (IntKind.u64.wrap (rd l i)) 500000000000001) ∧ wrap64 (Int.tmod (IntKind.u64.wrap (rd l i)) 500000000000001) ≤ 500000000000000 := by
      rw [IntKind.wrap_u64, tmodn (by omega), i64in (by omega) (by omega)]
      omega
    have ei : wrap64 (i + 1) = i + 1 := i64in (by omega) (by omega)
    obtain ⟨r, hr, h1, h2⟩ := ih (i + 1) (out.set i.toNat (wrap64 (Int.tmod (IntKind.u64.wrap (rd l i)) 500000000000001))) (by omega) (by omega) (by rw [List.length_set]; exact hlen) (fun j j0 j1 => by
      rw [rd_set i0 (by omega) j0]
      split
      · exact hv0
      · exact hok j j0 (by omega))
    refine ⟨r, Ev.shift ?_, h1, h2⟩
    simp only [pylonlaw18_good.l0, if_pos (show i < (l.length : Int) by omega), if_pos i0, if_pos (show i < (out.length : Int) by omega)]
    rw [ei]
    exact hr
theorem good_f (l : List Int) (hl : l.length * 8 ≤ 140737488351232) : ∃ r, Ev (fun k => pylonlaw18_good.f k l) r ∧ r.length = l.length ∧ okPeaks r := by
  obtain ⟨r, hr, h1, h2⟩ := good_l0 l (by omega) l.length 0 (List.replicate l.length 0) (by omega) (by omega) (by simp) (fun j j0 j1 => by omega)
  refine ⟨r, ?_, h1, h2⟩
  unfold pylonlaw18_good.f
  simp only [if_pos (show (0 : Int) ≤ (l.length : Int) by omega), Int.toNat_natCast, if_pos (show l.length ≤ 35184372088832 by omega)]
  exact hr
/-- The law's own loop. -/
theorem holds_l0 {l : List Int} {p m n : Int} (hl : (l.length : Int) ≤ 140737488355328) (hne : 0 < l.length) (hp0 : 0 ≤ p) (hp : p ≤ 100) (hm0 : 0 ≤ m) (hm : m ≤ 36) (hok : okPeaks l) (hn0 : 0 ≤ n) (hn : n ≤ 500000000000000) (hB : Bills l p m n) :
    ∀ (d : Nat) (k : Int) (one : Bool), 1 ≤ k → m + 1 - k ≤ d → (one = true ∨ ∃ i : Int, 0 ≤ i ∧ (l.length : Int) - 1 - m ≤ i ∧ i ≤ (l.length : Int) - 1 - k ∧ n = pct (rd l i) p) → (d = 0 → m < k) →
    Ev (fun q => pylonlaw18_RatchetHolds.l0 q p m l n ((l.length : Int) - 1) one k) true := by
  have fin : ∀ (k : Int) (one : Bool), 1 ≤ k → (m < k ∨ (l.length : Int) - 1 < k) → (one = true ∨ ∃ i : Int, 0 ≤ i ∧ (l.length : Int) - 1 - m ≤ i ∧ i ≤ (l.length : Int) - 1 - k ∧ n = pct (rd l i) p) → Ev (fun q => pylonlaw18_RatchetHolds.l0 q p m l n ((l.length : Int) - 1) one k) true := by
    intro k one k1 hend hone
    have h1 : one = true := by
      rcases hone with h | ⟨i, i0, i1, i2, _⟩
      · exact h
      · omega
    subst h1
    refine Ev.shift (Ev.shift ?_)
    simp only [pylonlaw18_RatchetHolds.l0]
    by_cases ha : k ≤ m
    · simp only [if_pos ha, pylonlaw18_RatchetHolds.j2, decide_eq_false (show ¬ k ≤ (l.length : Int) - 1 by omega), Bool.false_eq_true, if_false]
      exact Ev.now _
    · simp only [if_neg ha, pylonlaw18_RatchetHolds.j2, Bool.false_eq_true, if_false]
      exact Ev.now _
  intro d
  induction d with
  | zero =>
    intro k one k1 hd hone hd0
    exact fin k one k1 (.inl (hd0 rfl)) hone
  | succ d ih =>
    intro k one k1 hd hone hd0
    by_cases ha : k ≤ m ∧ k ≤ (l.length : Int) - 1
    · obtain ⟨ha, hb⟩ := ha
      have hpk := hok ((l.length : Int) - 1 - k) (by omega) (by omega)
      have hle := hB.2.1 ((l.length : Int) - 1 - k) (by omega) (by omega) (by omega)
      have e1 : wrap64 ((l.length : Int) - 1 - k) = (l.length : Int) - 1 - k := by clear hone; exact i64in (by omega) (by omega)
      have e2 : wrap64 (k + 1) = k + 1 := by clear hone; exact i64in (by omega) (by omega)
      have g1 : (0 : Int) ≤ (l.length : Int) - 1 - k := by omega
      have g2 : (l.length : Int) - 1 - k < l.length := by omega
      have hb0 : 0 ≤ p * rd l ((l.length : Int) - 1 - k) := Int.mul_nonneg hp0 hpk.1
      have hb1 : p * rd l ((l.length : Int) - 1 - k) ≤ 100 * 500000000000000 := Int.mul_le_mul hp hpk.2 hpk.1 (by omega)
      have sp := halfUp_spec (rd l ((l.length : Int) - 1 - k) * p) (show (0 : Int) < 100 by omega)
      rw [Int.mul_comm (rd l ((l.length : Int) - 1 - k)) p] at sp
      have hpc : pct (rd l ((l.length : Int) - 1 - k)) p = halfUp (p * rd l ((l.length : Int) - 1 - k)) 100 := by unfold pct; rw [Int.mul_comm]
      rw [← hpc] at sp
      -- the next state of 'one'
      have hstep : ∀ one' : Bool, (n = pct (rd l ((l.length : Int) - 1 - k)) p → one' = true) → (one = true → one' = true) → (one' = true ∨ ∃ i : Int, 0 ≤ i ∧ (l.length : Int) - 1 - m ≤ i ∧ i ≤ (l.length : Int) - 1 - (k + 1) ∧ n = pct (rd l i) p) := by
        intro one' h1 h2
        rcases hone with h | ⟨i, i0, i1, i2, h⟩
        · exact .inl (h2 h)
        · by_cases hi : i = (l.length : Int) - 1 - k
          · subst hi; exact .inl (h1 h)
          · exact .inr ⟨i, i0, i1, by omega, h⟩
      clear hone
      refine Ev.shift (Ev.shift ?_)
      simp only [pylonlaw18_RatchetHolds.l0, if_pos ha, pylonlaw18_RatchetHolds.j2, decide_eq_true hb, if_true, e1, if_pos g1, if_pos g2]
      generalize hz : p * rd l ((l.length : Int) - 1 - k) = z at *
      generalize hv : pct (rd l ((l.length : Int) - 1 - k)) p = v at *
      have w1 : wrap64 (100 * n) = 100 * n := i64in (by omega) (by omega)
      have w2 : wrap64 z = z := i64in (by omega) (by omega)
      have w3 : wrap64 (100 * n - z) = 100 * n - z := i64in (by omega) (by omega)
      have w4 : wrap64 (2 * (100 * n - z)) = 2 * (100 * n - z) := i64in (by omega) (by omega)
      simp only [w1, w2, w3, w4, e2, if_neg (show ¬ 2 * (100 * n - z) < -100 by omega)]
      cases one
      · simp only [Bool.false_eq_true, if_false]
        by_cases hg : 2 * (100 * n - z) > -100
        · simp only [if_pos hg]
          exact ih (k + 1) _ (by omega) (by omega) (hstep _ (fun e => decide_eq_true (by omega)) (fun h => by cases h)) (by omega)
        · simp only [if_neg hg]
          exact ih (k + 1) _ (by omega) (by omega) (hstep _ (fun e => by omega) (fun h => by cases h)) (by omega)
      · simp only [if_true]
        exact ih (k + 1) _ (by omega) (by omega) (hstep _ (fun _ => rfl) (fun _ => rfl)) (by omega)
    · exact fin k one k1 (by omega) hone
theorem RatchetHolds : pylonlaw18_RatchetHolds.Pure := by
  intro l0 a1 a2 _ hl hw hp hm
  refine Ev.rounds (g := fun k => pylonlaw18_RatchetHolds.f k l0 a1 a2) ?_
  obtain ⟨l, hg, hlen, hok⟩ := good_f l0 hl
  obtain ⟨p, hpe⟩ : ∃ p, p = wrap64 (Int.tmod (IntKind.u64.wrap (a1)) 101) := ⟨_, rfl⟩
  obtain ⟨m, hme⟩ : ∃ m, m = wrap64 (Int.tmod (IntKind.u64.wrap (a2)) 37) := ⟨_, rfl⟩
  have hp0 : 0 ≤ p ∧ p ≤ 100 := by rw [hpe, IntKind.wrap_u64, tmodn (by omega), i64in (by omega) (by omega)]; omega
  have hm0 : 0 ≤ m ∧ m ≤ 36 := by rw [hme, IntKind.wrap_u64, tmodn (by omega), i64in (by omega) (by omega)]; omega
  obtain ⟨⟨n, e⟩, hr, hA⟩ := billed_f (l := l) (p := p) (m := m) (by omega)
  unfold pylonlaw18_RatchetHolds.f
  refine Ev.bind awake_ev ?_
  simp only [if_true]
  refine Ev.bind hg ?_
  rw [← hpe, ← hme]
  refine Ev.bind hr ?_
  by_cases hne : (l.length : Int) = 0
  · simp only [if_pos hne]
    have := hA.1 (by omega)
    injection this with h1 h2
    subst h1 h2
    exact Ev.ofEq (by simp)
  · simp only [if_neg hne]
    obtain ⟨he, hB⟩ := hA.2.2 ⟨by omega, hp0.1, hp0.2, hm0.1, hm0.2⟩ hok
    have he' : e = 0 := he
    have hB' : Bills l p m n := hB
    subst he'
    have lastp := hok ((l.length : Int) - 1) (by omega) (by omega)
    have hn0 : rd l ((l.length : Int) - 1) ≤ n := hB'.1
    have hn1 : n ≤ 500000000000000 := by
      rcases hB'.2.2 with h | ⟨i, i0, i1, i2, h⟩
      · omega
      · have hk := hok i i0 (by omega)
        have := pct_bounds hk.1 hk.2 hp0.1 hp0.2
        omega
    have e1 : wrap64 ((l.length : Int) - 1) = (l.length : Int) - 1 := i64in (by omega) (by omega)
    simp only [e1, if_pos (show (0 : Int) ≤ (l.length : Int) - 1 by omega), if_pos (show (l.length : Int) - 1 < l.length by omega), if_true, if_neg (show ¬ n < rd l ((l.length : Int) - 1) by omega), decide_eq_false (show ¬ n > 500000000000000 by omega)]
    refine Ev.shift ?_
    simp only [pylonlaw18_RatchetHolds.j0, Bool.false_eq_true, if_false]
    refine holds_l0 (by omega) (by omega) hp0.1 hp0.2 hm0.1 hm0.2 hok (by omega) hn1 hB' (m + 1).toNat 1 _ (by omega) (by omega) ?_ (by omega)
    rcases hB'.2.2 with h | ⟨i, i0, i1, i2, h⟩
    · left; simpa using h
    · right; exact ⟨i, i0, by omega, by omega, h⟩
end Go.Proofs.Ytbjkjakilpifhaa.Pure
