/- Package meter: the document's sums of lists of points. -/
import Derived.Test.YtapimggcnneabaaMeterTMA
import Derived.Test.YtapimggcnneabaaFltV
import Derived.Test.YtapimggcnneabaaPMAx2
import Derived.Test.YtapimggcnneabaaPMAx3
import Derived.Test.YtapimggcnneabaaPMAx4
set_option linter.unusedVariables false
set_option linter.unusedSimpArgs false
namespace Go.Proofs.Ytapimggcnneabaa.PureMA
open Go.RowKit Go.Proofs.Ytapimggcnneabaa.PMA Go.Proofs.Ytapimggcnneabaa.Num Go.Proofs.Ytapimggcnneabaa.Flt Go.Proofs.YtapimggcnneabaaW.PrintWords Go.Proofs.YtapimggcnneabaaW.PrintLast Go.Proofs.YtapimggcnneabaaW.PrintMore

section
variable {M : Int}
theorem rwhole_yes (hM0 : 0 ≤ M) (hM : M < 9007199254740992) {x : Nat} {n : Int} (h : Is x n) (hn : n.natAbs ≤ M.toNat) : pylonref02_whole.f x M = some (n, true) := by
  have a := of_int (n := M) (by omega)
  obtain ⟨o, e⟩ := h.toint (by omega) (by omega)
  unfold pylonref02_whole.f
  rw [h.fge a.neg, h.fle a, decide_eq_true (by omega), decide_eq_true (by omega), o, e, (of_int (n := n) (by omega)).feq h, decide_eq_true rfl]
  rfl
theorem rwhole_no (hM0 : 0 ≤ M) (hM : M < 9007199254740992) {x : Nat} (h : ¬ ∃ n, Is x n ∧ n.natAbs ≤ M.toNat) : ∃ m, pylonref02_whole.f x M = some (m, false) := by
  have a := of_int (n := M) (by omega)
  unfold pylonref02_whole.f
  by_cases h1 : fge x (fneg (floatOfInt .f64 M)) = true
  · by_cases h2 : fle x (floatOfInt .f64 M) = true
    · obtain ⟨o, e⟩ := not_whole hM0 hM a.neg a h1 h2 h
      rw [if_pos h1, if_pos h2, if_pos o, e]
      exact ⟨_, rfl⟩
    · rw [if_pos h1, if_neg h2]
      exact ⟨_, rfl⟩
  · rw [if_neg h1]
    exact ⟨_, rfl⟩
end
theorem rfits_yes {z : Cx} {A B : Int} (h : Small z A B) : pylonref12_Fits.f z = some (A, B, true) := by
  unfold pylonref12_Fits.f pylonref02_Within.f
  rw [rwhole_yes (M := 10000000000) (by decide) (by decide) h.1.1 (by have := h.1.2; omega), rwhole_yes (M := 10000000000) (by decide) (by decide) h.2.1 (by have := h.2.2; omega)]
  rfl
theorem rfits_no {z : Cx} (h : ¬ Good z) : ∃ a b, pylonref12_Fits.f z = some (a, b, false) := by
  unfold pylonref12_Fits.f pylonref02_Within.f
  by_cases g : ∃ n, Is z.re n ∧ n.natAbs ≤ (10000000000 : Int).toNat
  · obtain ⟨n, n1, n2⟩ := g
    obtain ⟨m, e⟩ := rwhole_no (M := 10000000000) (by decide) (by decide) (x := z.im) (fun ⟨b, b1, b2⟩ => h ⟨n, b, ⟨n1, by omega⟩, b1, by omega⟩)
    rw [rwhole_yes (M := 10000000000) (by decide) (by decide) n1 n2, e]
    exact ⟨_, _, rfl⟩
  · obtain ⟨m, e⟩ := rwhole_no (M := 10000000000) (by decide) (by decide) g
    have : ∃ p, pylonref02_whole.f z.im 10000000000 = some p := by
      by_cases g2 : ∃ n, Is z.im n ∧ n.natAbs ≤ (10000000000 : Int).toNat
      · obtain ⟨n, n1, n2⟩ := g2
        exact ⟨_, rwhole_yes (by decide) (by decide) n1 n2⟩
      · obtain ⟨m, e⟩ := rwhole_no (M := 10000000000) (by decide) (by decide) g2
        exact ⟨_, e⟩
    obtain ⟨p, e2⟩ := this
    rw [e, e2]
    exact ⟨_, _, rfl⟩
/-! ### Split -/
theorem split_no {z : Cx} (hb : Bits z) (h : ¬ Good z) : meter_Split.f z = some (0, 0, 0, 5) := by
  unfold meter_Split.f
  rw [fits_no hb.1 hb.2 h]
  rfl
theorem rsplit_yes {z : Cx} (h : Good z) : pylonref12_Split.f z = some (mx (val z.re) 0, mx (-(val z.re)) 0, val z.im, 0) := by
  have s := h.small
  unfold pylonref12_Split.f
  rw [rfits_yes s]
  obtain ⟨⟨h1, h2⟩, h3, h4⟩ := s
  generalize val z.re = A at *
  generalize val z.im = B at *
  simp only [Option.bind_some, if_true, i64in (x := -A) (by omega) (by omega)]
  by_cases a : A < 0
  · rw [if_pos a, show mx A 0 = 0 by unfold mx; split <;> omega, show mx (-A) 0 = -A by unfold mx; split <;> omega]
  · rw [if_neg a, show mx A 0 = A by unfold mx; split <;> omega, show mx (-A) 0 = 0 by unfold mx; split <;> omega]
theorem rsplit_no {z : Cx} (h : ¬ Good z) : pylonref12_Split.f z = some (0, 0, 0, 5) := by
  obtain ⟨a, b, e⟩ := rfits_no h
  unfold pylonref12_Split.f
  rw [e]
  rfl
/-! ### Sums -/
open Classical in
theorem rsums_l0 {xs : List Cx} (hl : xs.length ≤ 40000) : ∀ (d : Nat) (i A B I O : Int), 0 ≤ i → (xs.length : Int) - i = d → A.natAbs ≤ 10000000000 * i.toNat → B.natAbs ≤ 10000000000 * i.toNat → 0 ≤ I → I ≤ 10000000000 * i → 0 ≤ O → O ≤ 10000000000 * i →
    Ev (fun k => pylonref12_sums.l0 k xs I O (xs.length : Int) i A B) (if ∀ z ∈ xs.drop i.toNat, Good z then (A + sA (xs.drop i.toNat), B + sB (xs.drop i.toNat), I + sI (xs.drop i.toNat), O + sO (xs.drop i.toNat), 0) else (0, 0, 0, 0, 5)) := by
  intro d
  induction d with
  | zero =>
    intro i A B I O i0 hd b1 b2 a1 a2 a3 a4
    refine Ev.shift ?_
    simp only [pylonref12_sums.l0, if_neg (show ¬ i < (xs.length : Int) by omega)]
    rw [drop_end (by omega), if_pos (by simp), sA_nil, sB_nil, sI_nil, sO_nil, Int.add_zero, Int.add_zero, Int.add_zero, Int.add_zero]
    exact Ev.now _
  | succ d ih =>
    intro i A B I O i0 hd b1 b2 a1 a2 a3 a4
    have hi : i < (xs.length : Int) := by omega
    have e := drop_cons (cx 0 0) i0 hi
    have ei : wrap64 (i + 1) = i + 1 := i64in (by omega) (by omega)
    have hn : (i + 1).toNat = i.toNat + 1 := by omega
    refine Ev.shift ?_
    simp only [pylonref12_sums.l0, if_pos hi, if_pos i0, ei]
    rw [e]
    by_cases g : Good (rdOf (cx 0 0) xs i)
    · have s := g.small
      rw [sA_cons, sB_cons, sI_cons, sO_cons]
      have h2 : (∀ z ∈ rdOf (cx 0 0) xs i :: xs.drop (i + 1).toNat, Good z) ↔ ∀ z ∈ xs.drop (i + 1).toNat, Good z := by simp [g]
      simp only [h2]
      generalize rdOf (cx 0 0) xs i = z at *
      simp only [rfits_yes s, Option.bind_some, if_true]
      obtain ⟨⟨q1, q2⟩, q3, q4⟩ := s
      clear h2 g
      generalize val z.re = P at *
      generalize val z.im = Q at *
      obtain ⟨m1, m2, m3, m4, m5⟩ := mx_neg P
      have nx := ih (i + 1) (A + P) (B + Q) (I + mx P 0) (O + mx (-P) 0) (by omega) (by omega) (by omega) (by omega) (by omega) (by omega) (by omega) (by omega)
      simp only [i64in (x := -P) (by omega) (by omega), i64in (x := A + P) (by omega) (by omega), i64in (x := B + Q) (by omega) (by omega), i64in (x := I + mx P 0) (by omega) (by omega), i64in (x := O + mx (-P) 0) (by omega) (by omega), ← Int.add_assoc]
      exact nx
    · obtain ⟨a, b, e2⟩ := rfits_no g
      simp only [e2, Option.bind_some, Bool.false_eq_true, if_false]
      rw [if_neg (fun h => g (h _ List.mem_cons_self))]
      exact Ev.now _
theorem rsums_f (xs : List Cx) : Ev (fun k => pylonref12_sums.f k xs) (if codeOf xs = 0 then (sA xs, sB xs, sI xs, sO xs, 0) else (0, 0, 0, 0, codeOf xs)) := by
  unfold pylonref12_sums.f codeOf
  by_cases h : (xs.length : Int) > 40000
  · simp only [if_pos h]
    exact Ev.now _
  · simp only [if_neg h]
    have := rsums_l0 (xs := xs) (by omega) xs.length 0 0 0 0 0 (by omega) (by omega) (by decide) (by decide) (by omega) (by omega) (by omega) (by omega)
    simp only [Int.zero_add, Int.toNat_zero, List.drop_zero] at this
    by_cases g : ∀ z ∈ xs, Good z
    · rw [if_pos (show ∀ z ∈ List.drop 0 xs, Good z from g)] at this
      rw [if_pos g, if_pos rfl]
      exact this
    · rw [if_neg (show ¬ ∀ z ∈ List.drop 0 xs, Good z from g)] at this
      rw [if_neg g, if_neg (by decide)]
      exact this
theorem rtotal_f (xs : List Cx) : Ev (fun k => pylonref12_Total.f k xs) (if codeOf xs = 0 then (cx (floatOfInt .f64 (sA xs)) (floatOfInt .f64 (sB xs)), 0) else (cx (floatOfInt .f64 0) (floatOfInt .f64 0), codeOf xs)) := by
  unfold pylonref12_Total.f
  refine ev_bind (rsums_f xs) ?_
  simp only [pylonref02_Made.f, Option.bind_some]
  split <;> exact Ev.now _
theorem renergy_f (xs : List Cx) : Ev (fun k => pylonref12_Energy.f k xs) (if codeOf xs = 0 then (sI xs, sO xs, 0) else (0, 0, codeOf xs)) := by
  unfold pylonref12_Energy.f
  refine ev_bind (rsums_f xs) ?_
  split <;> exact Ev.now _
theorem energy_f {xs : List Cx} (hb : ∀ z ∈ xs, Bits z) : Ev (fun k => meter_Energy.f k xs) (if codeOf xs = 0 then (sI xs, sO xs, 0) else (0, 0, codeOf xs)) := by
  by_cases h : codeOf xs = 0
  · rw [if_pos h]; exact energy_ok hb h
  · rw [if_neg h]; exact energy_no hb h
/-- The two totals are equal by '=='. -/
theorem totals {xs : List Cx} (hb : ∀ z ∈ xs, Bits z) : ∃ z w, Ev (fun k => meter_Total.f k xs) (z, codeOf xs) ∧ Ev (fun k => pylonref12_Total.f k xs) (w, codeOf xs) ∧ ceq z.re z.im w.re w.im = true := by
  have r := rtotal_f xs
  by_cases h : codeOf xs = 0
  · obtain ⟨z, e, a, b⟩ := total_ok hb h
    rw [if_pos h] at r
    obtain ⟨h1, h2⟩ := code_ok h
    obtain ⟨s1, s2, _⟩ := sums_bound h2
    refine ⟨z, _, by rw [h]; exact e, by rw [h]; exact r, ?_⟩
    show ceq _ _ (floatOfInt .f64 _) (floatOfInt .f64 _) = true
    rw [ceq_is a b (of_int (by omega)) (of_int (by omega)), decide_eq_true rfl, decide_eq_true rfl]
    rfl
  · rw [if_neg h] at r
    refine ⟨_, _, total_no hb h, r, ?_⟩
    show ceq 0 0 (floatOfInt .f64 0) (floatOfInt .f64 0) = true
    rw [ceq_is is_zero is_zero (of_int (by decide)) (of_int (by decide)), decide_eq_true rfl]
    rfl

def conv (s : S47) : Cx := cx s.f0 s.f1
theorem set_mid {α : Type} (A : List α) (z v : α) (m : Nat) : (A ++ List.replicate (m + 1) z).set A.length v = (A ++ [v]) ++ List.replicate m z := by
  rw [List.set_append_right _ _ (Nat.le_refl _), Nat.sub_self, List.replicate_succ]
  simp
theorem numbers_l0 {l : List S47} (hl : (l.length : Int) ≤ 140737488355328) : ∀ (d : Nat) (i : Int), 0 ≤ i → (l.length : Int) - i = d →
    Ev (fun k => pylonlaw12_numbers.l0 k l ((l.take i.toNat).map conv ++ List.replicate d (cx 0 0)) (l.length : Int) i) (l.map conv) := by
  intro d
  induction d with
  | zero =>
    intro i i0 hd
    refine Ev.shift ?_
    simp only [pylonlaw12_numbers.l0, if_neg (show ¬ i < (l.length : Int) by omega)]
    rw [List.take_of_length_le (by omega)]
    simp only [List.replicate_zero, List.append_nil]
    exact Ev.now _
  | succ d ih =>
    intro i i0 hd
    have hi : i < (l.length : Int) := by omega
    have ei : wrap64 (i + 1) = i + 1 := i64in (by omega) (by omega)
    have hlen : ((l.take i.toNat).map conv).length = i.toNat := by rw [List.length_map, List.length_take]; omega
    have hi2 : i < ((((l.take i.toNat).map conv ++ List.replicate (d + 1) (cx 0 0)).length : Nat) : Int) := by
      rw [List.length_append, hlen, List.length_replicate]; omega
    have hs : ((l.take i.toNat).map conv ++ List.replicate (d + 1) (cx 0 0)).set i.toNat (conv (rd_T47 l i)) = (l.take (i + 1).toNat).map conv ++ List.replicate d (cx 0 0) := by
      have := set_mid ((l.take i.toNat).map conv) (cx 0 0) (conv (rd_T47 l i)) d
      rw [hlen] at this
      rw [this, show (i + 1).toNat = i.toNat + 1 by omega, List.take_add_one]
      have hg : l[i.toNat]? = some (rd_T47 l i) := by
        unfold rd_T47
        rw [List.getD_eq_getElem?_getD, List.getElem?_eq_getElem (show i.toNat < l.length by omega)]
        rfl
      rw [hg]
      simp
    have := ih (i + 1) (by omega) (by omega)
    refine Ev.shift ?_
    simp only [pylonlaw12_numbers.l0, if_pos hi, if_pos i0, pylonlaw12_Z_c.f, Option.bind_some, if_pos hi2, ei]
    rw [← hs] at this
    exact this
theorem numbers_f {l : List S47} (hl : (l.length : Int) ≤ 140737488355328) (hl2 : l.length ≤ 17592186044416) : Ev (fun k => pylonlaw12_numbers.f k l) (l.map conv) := by
  unfold pylonlaw12_numbers.f
  simp only [Int.toNat_natCast, if_pos (show (0 : Int) ≤ (l.length : Int) by omega), if_pos hl2]
  have := numbers_l0 hl l.length 0 (by omega) (by omega)
  simpa using this
theorem bits_conv {l : List S47} (h : ∀ y ∈ l, okS47 y) : ∀ z ∈ l.map conv, Bits z := by
  intro z hz
  obtain ⟨y, hy, rfl⟩ := List.mem_map.mp hz
  exact ⟨wf_lt (h y hy).1, wf_lt (h y hy).2⟩
end Go.Proofs.Ytapimggcnneabaa.PureMA
