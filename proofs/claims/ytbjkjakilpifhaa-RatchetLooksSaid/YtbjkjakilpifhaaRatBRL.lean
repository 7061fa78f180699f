/- Layer 18: what the printed functions of ratchet answer. -/
import Derived.Test.YtbjkjakilpifhaaFixNRL
import Derived.Test.YtbjkjakilpifhaaPRLx3
import Derived.Test.YtbjkjakilpifhaaPRLx4
import Derived.KernelRfl
set_option linter.unusedVariables false
set_option linter.unusedSimpArgs false
namespace Go.Proofs.Ytbjkjakilpifhaa.PureRL
open Go.RowKit Go.Proofs.Ytbjkjakilpifhaa.PRL Go.Proofs.Ytbjkjakilpifhaa.Num Go.Proofs.YtbjkjakilpifhaaW.PrintWords Go.Proofs.YtbjkjakilpifhaaW.PrintLast Go.Proofs.YtbjkjakilpifhaaW.PrintMore

theorem awake_some : pylonlaw18_awake.f 1000 = some true := by kernel_rfl
theorem awake_ev : Ev (fun k => pylonlaw18_awake.f k) true := Ev.of pylonlaw18_awake.mono awake_some

/-! ### Charge -/
def chargeA (a b : Int) : Int × Int :=
  if 0 ≤ a ∧ a ≤ 500000000000000 ∧ 0 ≤ b ∧ b ≤ 10000000 then (if (mulDivA a b 1000).2 = 0 then (if (mulDivA a b 1000).1 > 1000000000000000 then (0, 5) else ((mulDivA a b 1000).1, 0)) else (0, 5)) else (0, 5)
theorem wf1000 : (Lit.int .i64 1000).wf = true := by decide
theorem wf100 : (Lit.int .i64 100).wf = true := by decide
theorem charge_bad (a b : Int) : Ev (fun k => ratchet_Charge.j0 k a b true) (0, 5) := by
  refine Ev.shift ?_
  simp only [ratchet_Charge.j0, if_true]
  exact Ev.now _
theorem charge_f {a b : Int} (ha : (Lit.int .i64 a).wf = true) (hb : (Lit.int .i64 b).wf = true) : Ev (fun k => ratchet_Charge.f k a b) (chargeA a b) := by
  unfold ratchet_Charge.f chargeA ratchet_peak.f
  by_cases h0 : a ≥ 0
  · simp only [if_pos h0, Option.bind_some]
    by_cases h1 : a ≤ 500000000000000
    · simp only [decide_eq_true h1, if_true]
      by_cases h2 : b < 0
      · simp only [if_pos h2]
        rw [if_neg (by omega)]
        exact charge_bad a b
      · simp only [if_neg h2]
        by_cases h3 : b > 10000000
        · rw [decide_eq_true h3, if_neg (by omega)]
          exact charge_bad a b
        · rw [decide_eq_false h3, if_pos (by omega)]
          refine Ev.shift ?_
          simp only [ratchet_Charge.j0, Bool.false_eq_true, if_false]
          refine Ev.bind (muldiv_f ha hb wf1000) ?_
          generalize mulDivA a b 1000 = m
          refine Ev.ofEq ?_
          split
          · split <;> rfl
          · rfl
    · simp only [decide_eq_false h1, Bool.false_eq_true, if_false]
      rw [if_neg (by omega)]
      exact charge_bad a b
  · simp only [if_neg h0, Option.bind_some, Bool.false_eq_true, if_false]
    rw [if_neg (by omega)]
    exact charge_bad a b
/-! ### Billed -/
/-- A percentage, half up. -/
def pct (x p : Int) : Int := halfUp (x * p) 100
def okPeaks (l : List Int) : Prop := ∀ i : Int, 0 ≤ i → i < l.length → 0 ≤ rd l i ∧ rd l i ≤ 500000000000000
/-- What is billed: the last peak, or a percentage of one of the w ahead of it: the greatest. -/
def Bills (l : List Int) (p w v : Int) : Prop :=
  rd l (l.length - 1) ≤ v ∧ (∀ i : Int, 0 ≤ i → (l.length : Int) - 1 - w ≤ i → i < l.length - 1 → pct (rd l i) p ≤ v) ∧
    (v = rd l (l.length - 1) ∨ ∃ i : Int, 0 ≤ i ∧ (l.length : Int) - 1 - w ≤ i ∧ i < l.length - 1 ∧ v = pct (rd l i) p)
theorem Bills.unique {l : List Int} {p w v u : Int} (h : Bills l p w v) (k : Bills l p w u) : v = u := by
  obtain ⟨h1, h2, h3⟩ := h
  obtain ⟨k1, k2, k3⟩ := k
  have a : v ≤ u := by
    rcases h3 with h3 | ⟨i, i0, i1, i2, h3⟩
    · omega
    · have := k2 i i0 i1 i2; omega
  have b : u ≤ v := by
    rcases k3 with k3 | ⟨i, i0, i1, i2, k3⟩
    · omega
    · have := h2 i i0 i1 i2; omega
  omega
theorem pct_mono {x y p : Int} (hp : 0 ≤ p) (h : x ≤ y) : pct x p ≤ pct y p := halfUp_mono (by omega) (Int.mul_le_mul_of_nonneg_right h hp)
theorem pct_zero (p : Int) : pct 0 p = 0 := by unfold pct; rw [Int.zero_mul]; exact halfUp_zero (by omega)
theorem pct_bounds {x p : Int} (hx0 : 0 ≤ x) (hx : x ≤ 500000000000000) (hp0 : 0 ≤ p) (hp : p ≤ 100) : 0 ≤ pct x p ∧ pct x p ≤ x := by
  have h0 : 0 ≤ x * p := Int.mul_nonneg hx0 hp0
  have h1 : x * p ≤ x * 100 := Int.mul_le_mul_of_nonneg_left hp hx0
  have s := halfUp_spec (x * p) (show (0 : Int) < 100 by omega)
  unfold pct
  omega
theorem wf_of {x : Int} (h0 : -9223372036854775808 ≤ x) (h1 : x ≤ 9223372036854775807) : (Lit.int .i64 x).wf = true := by
  simpa [Lit.wf, IntKind.min, IntKind.max, IntKind.bits, IntKind.signed] using ⟨h0, h1⟩
theorem pct_ans {x p : Int} (hx0 : 0 ≤ x) (hx : x ≤ 500000000000000) (hp0 : 0 ≤ p) (hp : p ≤ 100) : mulDivA x p 100 = (pct x p, 0) := by
  have b := pct_bounds hx0 hx hp0 hp
  unfold mulDivA mulDiv
  rw [if_neg (by omega), if_neg (by omega)]
  show fits (pct x p) = _
  unfold fits
  rw [if_pos (by omega)]
theorem mx_le {a b : Int} : a ≤ mx a b ∧ b ≤ mx a b := by unfold mx; split <;> omega
theorem mx_is {a b : Int} : mx a b = a ∨ mx a b = b := by unfold mx; split <;> omega

section
variable {l : List Int} {p m : Int}
theorem rd_cut {l : List Int} {s n : Nat} (hn : n ≤ l.length) {j : Int} (h0 : 0 ≤ j) (h : (j.toNat : Nat) < n - s) : rd ((l.take n).drop s) j = rd l (j + s) := by
  unfold rd
  have e : (j + s).toNat = s + j.toNat := by omega
  rw [e, List.getD_eq_getElem?_getD, List.getD_eq_getElem?_getD, List.getElem?_drop, List.getElem?_take_of_lt (by omega)]
/-- The loop over the peaks that are looked back to. -/
theorem billed_l1 (hlen : (l.length : Int) ≤ 140737488355328) (hne : 0 < l.length) (hp0 : 0 ≤ p) (hp : p ≤ 100) (hok : okPeaks l) {s : Nat} (hs : s ≤ l.length - 1) :
    ∀ (d : Nat) (i acc : Int), 0 ≤ i → i ≤ (l.length - 1 - s : Nat) → ((l.length - 1 - s : Nat) : Int) - i = d → 0 ≤ acc → acc ≤ 500000000000000 →
    (∀ j : Int, 0 ≤ j → j < i → rd l (j + s) ≤ acc) → (acc = 0 ∨ ∃ j : Int, 0 ≤ j ∧ j < i ∧ acc = rd l (j + s)) →
    ∃ high, 0 ≤ high ∧ high ≤ 500000000000000 ∧ (∀ j : Int, 0 ≤ j → j < (l.length - 1 - s : Nat) → rd l (j + s) ≤ high) ∧ (high = 0 ∨ ∃ j : Int, 0 ≤ j ∧ j < (l.length - 1 - s : Nat) ∧ high = rd l (j + s)) ∧
      Ev (fun k => ratchet_Billed.l1 k l p ((l.length : Int) - 1) acc ((l.take (l.length - 1)).drop s) ((l.length - 1 - s : Nat) : Int) i) (mx (pct high p) (rd l (l.length - 1)), 0) := by
  intro d
  have hL : ((l.take (l.length - 1)).drop s).length = l.length - 1 - s := by rw [List.length_drop, List.length_take]; omega
  induction d with
  | zero =>
    intro i acc i0 i1 hd a0 a1 hle hex
    have hi : i = (l.length - 1 - s : Nat) := by omega
    subst hi
    refine ⟨acc, a0, a1, hle, hex, ?_⟩
    refine Ev.shift ?_
    simp only [ratchet_Billed.l1, if_neg (show ¬ (((l.length - 1 - s : Nat) : Int) < ((l.length - 1 - s : Nat) : Int)) by omega)]
    refine Ev.bind (muldiv_f (wf_of (by omega) (by omega)) (wf_of (by omega) (by omega)) wf100) ?_
    rw [pct_ans a0 a1 hp0 hp]
    simp only [if_pos (show (0 : Int) ≤ (l.length : Int) - 1 by omega), if_pos (show (l.length : Int) - 1 < l.length by omega)]
    exact Ev.now _
  | succ d ih =>
    intro i acc i0 i1 hd a0 a1 hle hex
    have hr := rd_cut (l := l) (s := s) (n := l.length - 1) (by omega) i0 (by omega)
    have hk := hok (i + s) (by omega) (by omega)
    have mb := mx_le (a := acc) (b := rd l (i + s))
    have mi := mx_is (a := acc) (b := rd l (i + s))
    have ei : wrap64 (i + 1) = i + 1 := by clear hex; exact i64in (by omega) (by omega)
    obtain ⟨high, h0, h1, h2, h3, h4⟩ := ih (i + 1) (mx acc (rd l (i + s))) (by omega) (by omega) (by omega) (by omega) (by omega)
      (fun j j0 j1 => by
        by_cases hj : j = i
        · subst hj; exact mb.2
        · have := hle j j0 (by omega); omega)
      (by
        rcases mi with mi | mi
        · rcases hex with hex | ⟨j, j0, j1, hex⟩
          · exact .inl (by omega)
          · exact .inr ⟨j, j0, by omega, by omega⟩
        · exact .inr ⟨i, i0, by omega, mi⟩)
    refine ⟨high, h0, h1, h2, h3, ?_⟩
    refine Ev.shift ?_
    simp only [ratchet_Billed.l1, if_pos (show i < ((l.length - 1 - s : Nat) : Int) by omega), if_pos i0, hL]
    rw [hr, ei]
    exact h4
theorem peak_ok (h : 0 ≤ p ∧ p ≤ 500000000000000) : ratchet_peak.f p = some true := by
  unfold ratchet_peak.f
  rw [if_pos (by omega), decide_eq_true (by omega)]
theorem peak_no (h : ¬ (0 ≤ p ∧ p ≤ 500000000000000)) : ratchet_peak.f p = some false := by
  unfold ratchet_peak.f
  by_cases h0 : p ≥ 0
  · rw [if_pos h0, decide_eq_false (by omega)]
  · rw [if_neg h0]
/-- The loop that asks the peaks. -/
theorem billed_l0 (hlen : (l.length : Int) ≤ 140737488355328) {r : Int × Int} (hbad : ¬ okPeaks l → r = (0, 5))
    (hgood : okPeaks l → Ev (fun k => ratchet_Billed.l0 k l p m l (l.length : Int) (l.length : Int)) r) :
    ∀ (d : Nat) (i : Int), 0 ≤ i → i ≤ l.length → (l.length : Int) - i = d → (∀ j : Int, 0 ≤ j → j < i → 0 ≤ rd l j ∧ rd l j ≤ 500000000000000) → Ev (fun k => ratchet_Billed.l0 k l p m l (l.length : Int) i) r := by
  intro d
  induction d with
  | zero =>
    intro i i0 i1 hd hj
    have hi : i = l.length := by omega
    subst hi
    exact hgood hj
  | succ d ih =>
    intro i i0 i1 hd hj
    refine Ev.shift ?_
    simp only [ratchet_Billed.l0, if_pos (show i < (l.length : Int) by omega), if_pos i0]
    by_cases hk : 0 ≤ rd l i ∧ rd l i ≤ 500000000000000
    · simp only [peak_ok hk, Option.bind_some, if_true]
      rw [i64in (x := i + 1) (by omega) (by omega)]
      exact ih (i + 1) (by omega) (by omega) (by omega) (fun j j0 j1 => by
        by_cases h : j = i
        · subst h; exact hk
        · exact hj j j0 (by omega))
    · simp only [peak_no hk, Option.bind_some, Bool.false_eq_true, if_false]
      rw [hbad (fun h => hk (h i i0 (by omega)))]
      exact Ev.now _
/-- What Billed answers. -/
def BilledA (l : List Int) (p m : Int) (r : Int × Int) : Prop :=
  (¬ (0 < l.length ∧ 0 ≤ p ∧ p ≤ 100 ∧ 0 ≤ m ∧ m ≤ 36) → r = (0, 8)) ∧
  ((0 < l.length ∧ 0 ≤ p ∧ p ≤ 100 ∧ 0 ≤ m ∧ m ≤ 36) → ¬ okPeaks l → r = (0, 5)) ∧
  ((0 < l.length ∧ 0 ≤ p ∧ p ≤ 100 ∧ 0 ≤ m ∧ m ≤ 36) → okPeaks l → r.2 = 0 ∧ Bills l p m r.1)
theorem BilledA.unique {r q : Int × Int} (h : BilledA l p m r) (k : BilledA l p m q) : r = q := by
  obtain ⟨h1, h2, h3⟩ := h
  obtain ⟨k1, k2, k3⟩ := k
  by_cases a : (0 < l.length ∧ 0 ≤ p ∧ p ≤ 100 ∧ 0 ≤ m ∧ m ≤ 36)
  · by_cases b : okPeaks l
    · obtain ⟨e1, b1⟩ := h3 a b
      obtain ⟨e2, b2⟩ := k3 a b
      exact Prod.ext (b1.unique b2) (by omega)
    · rw [h2 a b, k2 a b]
  · rw [h1 a, k1 a]
/-- Behind the checks of the arguments. -/
theorem billed_in (hlen : (l.length : Int) ≤ 140737488355328) (hne : 0 < l.length) (hp0 : 0 ≤ p) (hp : p ≤ 100) (hm0 : 0 ≤ m) (hm : m ≤ 36) :
    ∃ r, Ev (fun k => ratchet_Billed.l0 k l p m l (l.length : Int) 0) r ∧ (¬ okPeaks l → r = (0, 5)) ∧ (okPeaks l → r.2 = 0 ∧ Bills l p m r.1) := by
  by_cases hok : okPeaks l
  · -- the first peak that is looked back to
    obtain ⟨s, hs⟩ : ∃ s : Nat, (s : Int) = mx ((l.length : Int) - 1 - m) 0 := ⟨(mx ((l.length : Int) - 1 - m) 0).toNat, by have := mx_le (a := (l.length : Int) - 1 - m) (b := 0); omega⟩
    have hs1 : s ≤ l.length - 1 := by have := mx_is (a := (l.length : Int) - 1 - m) (b := 0); omega
    have hs2 : (s : Int) = (l.length : Int) - 1 - m ∨ (s = 0 ∧ (l.length : Int) - 1 - m ≤ 0) := by
      have h1 := mx_is (a := (l.length : Int) - 1 - m) (b := 0)
      have h2 := mx_le (a := (l.length : Int) - 1 - m) (b := 0)
      omega
    have e1 : wrap64 ((l.length : Int) - 1) = (l.length : Int) - 1 := i64in (by omega) (by omega)
    have e2 : wrap64 ((l.length : Int) - 1 - m) = (l.length : Int) - 1 - m := i64in (by omega) (by omega)
    have e3 : ((l.length : Int) - 1).toNat = l.length - 1 := by omega
    have f1 : (0 : Int) ≤ (s : Int) := by omega
    have f2 : (s : Int) ≤ (l.length : Int) - 1 := by omega
    have f3 : (l.length : Int) - 1 ≤ l.length := by omega
    have f4 : ¬ (l.length : Int) < l.length := by omega
    have hL : ((l.take (l.length - 1)).drop s).length = l.length - 1 - s := by rw [List.length_drop, List.length_take]; omega
    obtain ⟨high, h0, h1, h2, h3, h4⟩ := billed_l1 hlen hne hp0 hp hok hs1 (l.length - 1 - s) 0 0 (by omega) (by omega) (by omega) (by omega) (by omega) (fun j _ _ => by omega) (.inl rfl)
    refine ⟨(mx (pct high p) (rd l (l.length - 1)), 0), ?_, fun h => absurd hok h, fun _ => ⟨rfl, ?_⟩⟩
    · refine billed_l0 hlen (fun h => absurd hok h) (fun _ => ?_) l.length 0 (by omega) (by omega) (by omega) (fun j j0 j1 => by omega)
      refine Ev.shift ?_
      simp only [ratchet_Billed.l0, if_neg f4]
      rw [e1, e2, ← hs]
      simp only [if_pos f1, if_pos f2, if_pos f3, Option.bind_some, Int.toNat_natCast, e3]
      rw [hL]
      exact h4
    · have lastp := hok ((l.length : Int) - 1) (by omega) (by omega)
      refine ⟨mx_le.2, fun i i0 i1 i2 => ?_, ?_⟩
      · have := h2 (i - s) (by omega) (by omega)
        rw [show i - s + s = i by omega] at this
        exact Int.le_trans (pct_mono hp0 this) mx_le.1
      · rcases mx_is (a := pct high p) (b := rd l (l.length - 1)) with e | e
        · rcases h3 with h3 | ⟨j, j0, j1, h3⟩
          · left
            rw [h3, pct_zero] at e
            have := (mx_le (a := pct high p) (b := rd l (l.length - 1))).2
            rw [h3, pct_zero] at this
            rw [h3, pct_zero]
            omega
          · exact .inr ⟨j + s, by omega, by omega, by omega, by rw [e, h3]⟩
        · exact .inl e
  · refine ⟨(0, 5), ?_, fun _ => rfl, fun h => absurd h hok⟩
    exact billed_l0 hlen (fun _ => rfl) (fun h => absurd h hok) l.length 0 (by omega) (by omega) (by omega) (fun j j0 j1 => by omega)
theorem billed_f (hlen : (l.length : Int) ≤ 140737488355328) : ∃ r, Ev (fun k => ratchet_Billed.f k l p m) r ∧ BilledA l p m r := by
  have bad : Ev (fun k => ratchet_Billed.j0 k l p m true) (0, 8) := by
    refine Ev.shift ?_
    simp only [ratchet_Billed.j0, if_true]
    exact Ev.now _
  unfold ratchet_Billed.f
  by_cases h1 : (l.length : Int) = 0
  · simp only [if_pos h1]
    exact ⟨_, bad, fun _ => rfl, fun h => by omega, fun h => by omega⟩
  · simp only [if_neg h1]
    by_cases h2 : p < 0
    · simp only [if_pos h2]
      exact ⟨_, bad, fun _ => rfl, fun h => by omega, fun h => by omega⟩
    · simp only [if_neg h2]
      by_cases h3 : p > 100
      · simp only [if_pos h3]
        exact ⟨_, bad, fun _ => rfl, fun h => by omega, fun h => by omega⟩
      · simp only [if_neg h3]
        by_cases h4 : m < 0
        · simp only [if_pos h4]
          exact ⟨_, bad, fun _ => rfl, fun h => by omega, fun h => by omega⟩
        · simp only [if_neg h4]
          by_cases h5 : m > 36
          · rw [decide_eq_true h5]
            exact ⟨_, bad, fun _ => rfl, fun h => by omega, fun h => by omega⟩
          · rw [decide_eq_false h5]
            obtain ⟨r, hr, hb, hg⟩ := billed_in (p := p) (m := m) hlen (by omega) (by omega) (by omega) (by omega) (by omega)
            refine ⟨r, Ev.shift ?_, fun h => absurd ⟨by omega, by omega, by omega, by omega, by omega⟩ h, fun _ => hb, fun _ => hg⟩
            simp only [ratchet_Billed.j0, Bool.false_eq_true, if_false]
            exact hr

end
end Go.Proofs.Ytbjkjakilpifhaa.PureRL
