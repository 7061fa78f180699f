/- Package meter: sums of lists of points. -/
import Derived.Test.YtapimggcnneabaaMeterFMA
import Derived.Test.YtapimggcnneabaaPMAx2
set_option linter.unusedVariables false
set_option linter.unusedSimpArgs false
namespace Go.Proofs.Ytapimggcnneabaa.PureMA
open Go.RowKit Go.Proofs.Ytapimggcnneabaa.PMA Go.Proofs.Ytapimggcnneabaa.Num Go.Proofs.Ytapimggcnneabaa.Flt Go.Proofs.YtapimggcnneabaaW.PrintWords Go.Proofs.YtapimggcnneabaaW.PrintLast Go.Proofs.YtapimggcnneabaaW.PrintMore

/-- The whole number that bits stand for. -/
noncomputable def val (x : Nat) : Int := by
  classical
  exact if h : ∃ n, Is x n then Classical.choose h else 0
theorem val_of {x : Nat} {n : Int} (h : Is x n) : val x = n := by
  unfold val
  rw [dif_pos ⟨n, h⟩]
  exact (Classical.choose_spec (⟨n, h⟩ : ∃ n, Is x n)).uniq h
def Good (z : Cx) : Prop := ∃ A B, Small z A B
theorem Good.small {z : Cx} (h : Good z) : Small z (val z.re) (val z.im) := by
  obtain ⟨A, B, h⟩ := h
  rw [val_of h.1.1, val_of h.2.1]
  exact h
/-- Bits of 64. -/
def Bits (z : Cx) : Prop := z.re < 18446744073709551616 ∧ z.im < 18446744073709551616
noncomputable def sA (xs : List Cx) : Int := (xs.map fun z => val z.re).sum
noncomputable def sB (xs : List Cx) : Int := (xs.map fun z => val z.im).sum
noncomputable def sI (xs : List Cx) : Int := (xs.map fun z => mx (val z.re) 0).sum
noncomputable def sO (xs : List Cx) : Int := (xs.map fun z => mx (-(val z.re)) 0).sum
open Classical in
noncomputable def codeOf (xs : List Cx) : Int := if (xs.length : Int) > 40000 then 9 else if ∀ z ∈ xs, Good z then 0 else 5

open Classical in
theorem check_l0 {xs : List Cx} (hl : xs.length ≤ 40000) (hb : ∀ z ∈ xs, Bits z) : ∀ (d : Nat) (i : Int), 0 ≤ i → (xs.length : Int) - i = d →
    Ev (fun k => meter_check.l0 k xs (xs.length : Int) i) (if ∀ z ∈ xs.drop i.toNat, Good z then 0 else 5) := by
  intro d
  induction d with
  | zero =>
    intro i i0 hd
    refine Ev.shift ?_
    simp only [meter_check.l0, if_neg (show ¬ i < (xs.length : Int) by omega)]
    rw [drop_end (by omega), if_pos (by simp)]
    exact Ev.now _
  | succ d ih =>
    intro i i0 hd
    have hi : i < (xs.length : Int) := by omega
    have e := drop_cons (cx 0 0) i0 hi
    have ei : wrap64 (i + 1) = i + 1 := i64in (by omega) (by omega)
    have hz : rdOf (cx 0 0) xs i ∈ xs := List.mem_of_mem_drop (i := i.toNat) (by rw [e]; exact List.mem_cons_self)
    have hbz := hb _ hz
    refine Ev.shift ?_
    simp only [meter_check.l0, if_pos hi, if_pos i0]
    by_cases g : Good (rdOf (cx 0 0) xs i)
    · obtain ⟨A, B, s⟩ := id g
      simp only [fits_yes hbz.1 hbz.2 s, Option.bind_some, if_true, ei]
      have := ih (i + 1) (by omega) (by omega)
      rw [e]
      have h2 : (∀ z ∈ rdOf (cx 0 0) xs i :: xs.drop (i + 1).toNat, Good z) ↔ ∀ z ∈ xs.drop (i + 1).toNat, Good z := by simp [g]
      simp only [h2]
      exact this
    · simp only [fits_no hbz.1 hbz.2 g, Option.bind_some, Bool.false_eq_true, if_false]
      rw [if_neg (fun h => g (h _ (by rw [e]; exact List.mem_cons_self)))]
      exact Ev.now _
theorem check_f {xs : List Cx} (hb : ∀ z ∈ xs, Bits z) : Ev (fun k => meter_check.f k xs) (codeOf xs) := by
  unfold meter_check.f codeOf
  by_cases h : (xs.length : Int) > 40000
  · simp only [if_pos h]; exact Ev.now _
  · simp only [if_neg h]
    exact check_l0 (by omega) hb _ 0 (by omega) rfl

theorem sA_cons (z : Cx) (xs : List Cx) : sA (z :: xs) = val z.re + sA xs := by simp [sA]
theorem sB_cons (z : Cx) (xs : List Cx) : sB (z :: xs) = val z.im + sB xs := by simp [sB]
theorem sI_cons (z : Cx) (xs : List Cx) : sI (z :: xs) = mx (val z.re) 0 + sI xs := by simp [sI]
theorem sO_cons (z : Cx) (xs : List Cx) : sO (z :: xs) = mx (-(val z.re)) 0 + sO xs := by simp [sO]
theorem sA_nil : sA [] = 0 := rfl
theorem sB_nil : sB [] = 0 := rfl
theorem sI_nil : sI [] = 0 := rfl
theorem sO_nil : sO [] = 0 := rfl

theorem total_l0 {xs : List Cx} (hl : xs.length ≤ 40000) (hg : ∀ z ∈ xs, Good z) : ∀ (d : Nat) (i : Int) (acc : Cx) (A B : Int), 0 ≤ i → (xs.length : Int) - i = d → Is acc.re A → Is acc.im B → A.natAbs ≤ 10000000000 * i.toNat → B.natAbs ≤ 10000000000 * i.toNat →
    ∃ z, Ev (fun k => meter_Total.l0 k acc xs (xs.length : Int) i) (z, 0) ∧ Is z.re (A + sA (xs.drop i.toNat)) ∧ Is z.im (B + sB (xs.drop i.toNat)) := by
  intro d
  induction d with
  | zero =>
    intro i acc A B i0 hd h1 h2 b1 b2
    refine ⟨acc, Ev.shift ?_, ?_, ?_⟩
    · simp only [meter_Total.l0, if_neg (show ¬ i < (xs.length : Int) by omega)]
      exact Ev.now _
    · rw [drop_end (by omega), sA_nil, Int.add_zero]; exact h1
    · rw [drop_end (by omega), sB_nil, Int.add_zero]; exact h2
  | succ d ih =>
    intro i acc A B i0 hd h1 h2 b1 b2
    have hi : i < (xs.length : Int) := by omega
    have e := drop_cons (cx 0 0) i0 hi
    have ei : wrap64 (i + 1) = i + 1 := i64in (by omega) (by omega)
    have hz : rdOf (cx 0 0) xs i ∈ xs := List.mem_of_mem_drop (i := i.toNat) (by rw [e]; exact List.mem_cons_self)
    obtain ⟨⟨q1, q2⟩, q3, q4⟩ := (hg _ hz).small
    rw [e, sA_cons, sB_cons]
    generalize hzd : rdOf (cx 0 0) xs i = z at *
    generalize hA : val z.re = P at *
    generalize hB : val z.im = Q at *
    have hn : (i + 1).toNat = i.toNat + 1 := by omega
    obtain ⟨ok, r1, r2⟩ := cadd_is h1 h2 q1 q3 (by omega) (by omega)
    obtain ⟨w, k1, k2, k3⟩ := ih (i + 1) (cx (caddre acc.re acc.im z.re z.im) (caddim acc.re acc.im z.re z.im)) (A + P) (B + Q) (by omega) (by omega) r1 r2 (by omega) (by omega)
    refine ⟨w, Ev.shift ?_, by rw [← Int.add_assoc]; exact k2, by rw [← Int.add_assoc]; exact k3⟩
    simp only [meter_Total.l0, if_pos hi, if_pos i0, ei, hzd, ok, if_true]
    exact k1
theorem mx_neg (a : Int) : mx a 0 - mx (-a) 0 = a ∧ 0 ≤ mx a 0 ∧ 0 ≤ mx (-a) 0 ∧ mx a 0 ≤ a.natAbs ∧ mx (-a) 0 ≤ a.natAbs := by
  unfold mx
  refine ⟨?_, ?_, ?_, ?_, ?_⟩ <;> (repeat' split) <;> omega
theorem split_yes {z : Cx} (hb : Bits z) (h : Good z) : meter_Split.f z = some (mx (val z.re) 0, mx (-(val z.re)) 0, val z.im, 0) := by
  have s := h.small
  unfold meter_Split.f
  rw [fits_yes hb.1 hb.2 s]
  obtain ⟨⟨h1, h2⟩, h3, h4⟩ := s
  generalize val z.re = A at *
  generalize val z.im = B at *
  obtain ⟨c1, c2⟩ := h1.toint (by omega) (by omega)
  obtain ⟨c3, c4⟩ := h3.toint (by omega) (by omega)
  simp only [Option.bind_some, if_true, c1, c2, c3, c4, i64in (x := -A) (by omega) (by omega)]
theorem energy_l0 {xs : List Cx} (hl : xs.length ≤ 40000) (hb : ∀ z ∈ xs, Bits z) (hg : ∀ z ∈ xs, Good z) : ∀ (d : Nat) (i I O : Int), 0 ≤ i → (xs.length : Int) - i = d → 0 ≤ I → I ≤ 10000000000 * i → 0 ≤ O → O ≤ 10000000000 * i →
    Ev (fun k => meter_Energy.l0 k I O xs (xs.length : Int) i) (I + sI (xs.drop i.toNat), O + sO (xs.drop i.toNat), 0) := by
  intro d
  induction d with
  | zero =>
    intro i I O i0 hd a1 a2 a3 a4
    refine Ev.shift ?_
    simp only [meter_Energy.l0, if_neg (show ¬ i < (xs.length : Int) by omega)]
    rw [drop_end (by omega), sI_nil, sO_nil, Int.add_zero, Int.add_zero]
    exact Ev.now _
  | succ d ih =>
    intro i I O i0 hd a1 a2 a3 a4
    have hi : i < (xs.length : Int) := by omega
    have e := drop_cons (cx 0 0) i0 hi
    have ei : wrap64 (i + 1) = i + 1 := i64in (by omega) (by omega)
    have hz : rdOf (cx 0 0) xs i ∈ xs := List.mem_of_mem_drop (i := i.toNat) (by rw [e]; exact List.mem_cons_self)
    have hsp := split_yes (hb _ hz) (hg _ hz)
    obtain ⟨⟨q1, q2⟩, q3, q4⟩ := (hg _ hz).small
    rw [e, sI_cons, sO_cons]
    generalize hzd : rdOf (cx 0 0) xs i = z at *
    generalize val z.re = P at *
    obtain ⟨m1, m2, m3, m4, m5⟩ := mx_neg P
    have := ih (i + 1) (I + mx P 0) (O + mx (-P) 0) (by omega) (by omega) (by omega) (by omega) (by omega) (by omega)
    rw [← Int.add_assoc, ← Int.add_assoc]
    refine Ev.shift ?_
    simp only [meter_Energy.l0, if_pos hi, if_pos i0, hzd, hsp, Option.bind_some, ei, i64in (x := I + mx P 0) (by omega) (by omega), i64in (x := O + mx (-P) 0) (by omega) (by omega)]
    exact this

theorem sums_bound {xs : List Cx} (hg : ∀ z ∈ xs, Good z) : (sA xs).natAbs ≤ 10000000000 * xs.length ∧ (sB xs).natAbs ≤ 10000000000 * xs.length ∧ 0 ≤ sI xs ∧ sI xs ≤ 10000000000 * (xs.length : Int) ∧ 0 ≤ sO xs ∧ sO xs ≤ 10000000000 * (xs.length : Int) ∧ sI xs - sO xs = sA xs := by
  induction xs with
  | nil => exact ⟨by decide, by decide, by decide, by decide, by decide, by decide, by decide⟩
  | cons z xs ih =>
    obtain ⟨a, b, c, d, e, f, g⟩ := ih (fun y hy => hg y (List.mem_cons_of_mem _ hy))
    obtain ⟨⟨q1, q2⟩, q3, q4⟩ := (hg z List.mem_cons_self).small
    rw [sA_cons, sB_cons, sI_cons, sO_cons, List.length_cons]
    obtain ⟨m1, m2, m3, m4, m5⟩ := mx_neg (val z.re)
    refine ⟨?_, ?_, ?_, ?_, ?_, ?_, ?_⟩ <;> omega
theorem sA_app (a b : List Cx) : sA (a ++ b) = sA a + sA b := by simp [sA]
theorem sB_app (a b : List Cx) : sB (a ++ b) = sB a + sB b := by simp [sB]
theorem sI_app (a b : List Cx) : sI (a ++ b) = sI a + sI b := by simp [sI]
theorem sO_app (a b : List Cx) : sO (a ++ b) = sO a + sO b := by simp [sO]
theorem code_ok {xs : List Cx} (h : codeOf xs = 0) : xs.length ≤ 40000 ∧ ∀ z ∈ xs, Good z := by
  unfold codeOf at h
  split at h
  · omega
  · split at h
    · exact ⟨by omega, by assumption⟩
    · omega
theorem total_ok {xs : List Cx} (hb : ∀ z ∈ xs, Bits z) (h : codeOf xs = 0) : ∃ z, Ev (fun k => meter_Total.f k xs) (z, 0) ∧ Is z.re (sA xs) ∧ Is z.im (sB xs) := by
  obtain ⟨h1, h2⟩ := code_ok h
  obtain ⟨z, e, r, i⟩ := total_l0 h1 h2 _ 0 (cx 0 0) 0 0 (by omega) rfl is_zero is_zero (by decide) (by decide)
  rw [Int.zero_add] at r i
  refine ⟨z, ?_, r, i⟩
  unfold meter_Total.f
  have c := check_f hb
  rw [h] at c
  refine ev_bind c ?_
  simp only [if_true]
  exact e
theorem total_no {xs : List Cx} (hb : ∀ z ∈ xs, Bits z) (h : codeOf xs ≠ 0) : Ev (fun k => meter_Total.f k xs) (cx 0 0, codeOf xs) := by
  unfold meter_Total.f
  refine ev_bind (check_f hb) ?_
  simp only [if_neg h]
  exact Ev.now _
theorem energy_ok {xs : List Cx} (hb : ∀ z ∈ xs, Bits z) (h : codeOf xs = 0) : Ev (fun k => meter_Energy.f k xs) (sI xs, sO xs, 0) := by
  obtain ⟨h1, h2⟩ := code_ok h
  have e := energy_l0 h1 hb h2 _ 0 0 0 (by omega) rfl (by omega) (by omega) (by omega) (by omega)
  rw [Int.zero_add, Int.zero_add] at e
  unfold meter_Energy.f
  have c := check_f hb
  rw [h] at c
  refine ev_bind c ?_
  simp only [if_true]
  exact e
theorem energy_no {xs : List Cx} (hb : ∀ z ∈ xs, Bits z) (h : codeOf xs ≠ 0) : Ev (fun k => meter_Energy.f k xs) (0, 0, codeOf xs) := by
  unfold meter_Energy.f
  refine ev_bind (check_f hb) ?_
  simp only [if_neg h]
  exact Ev.now _
end Go.Proofs.Ytapimggcnneabaa.PureMA
