/- Decimal texts: what they spell, which are numbers' texts; strconv's parse of them. -/
import Derived.Test.YtofedlghaopciaaDoorNum
import Derived.Lib.ItoaNum
import Derived.Lib.ParseIntB
set_option linter.unusedVariables false
set_option linter.unusedSimpArgs false
namespace Go.Proofs.YtofedlghaopciaaDoor.Dig
open Go.Lib Go.Proofs.YtofedlghaopciaaDoor.Num
def digs (l : List UInt8) : Prop := ∀ c ∈ l, 48 ≤ c.toNat ∧ c.toNat ≤ 57
instance (l : List UInt8) : Decidable (digs l) := inferInstanceAs (Decidable (∀ c ∈ l, _))
/-- A digit more. -/
def step (a : Nat) (c : UInt8) : Nat := a * 10 + (c.toNat - 48)
theorem step_eq (a : Nat) (c : UInt8) : step a c = a * 10 + (c.toNat - 48) := rfl
attribute [irreducible] step
/-- What the digits spell, behind acc. -/
def val : Nat → List UInt8 → Nat
  | acc, [] => acc
  | acc, c :: r => val (step acc c) r
theorem val_nil (a : Nat) : val a [] = a := rfl
theorem val_cons (a : Nat) (c : UInt8) (r : List UInt8) : val a (c :: r) = val (step a c) r := rfl
theorem val_append (l m : List UInt8) : ∀ (a : Nat), val a (l ++ m) = val (val a l) m := by
  induction l with
  | nil => intro a; rfl
  | cons c l ih => intro a; rw [List.cons_append, val_cons, val_cons, ih]
theorem le_val (l : List UInt8) : ∀ (a : Nat), a ≤ val a l := by
  induction l with
  | nil => intro a; rw [val_nil]; exact Nat.le_refl _
  | cons c l ih => intro a; rw [val_cons]; have h1 := ih (step a c); have h2 := step_eq a c; omega
theorem val_lt (l : List UInt8) : ∀ (a : Nat), digs l → val a l < (a + 1) * 10 ^ l.length := by
  induction l with
  | nil => intro a _; rw [val_nil]; simp
  | cons c l ih =>
    intro a h
    have hc := h c (by simp)
    have IH := ih (step a c) (fun d hd => h d (by simp [hd]))
    have hs := step_eq a c
    rw [val_cons, List.length_cons, Nat.pow_succ]
    refine Nat.lt_of_lt_of_le IH ?_
    rw [Nat.mul_comm (10 ^ l.length) 10, ← Nat.mul_assoc]
    exact Nat.mul_le_mul_right _ (by omega)
theorem u8_of {n : Nat} (h : n < 256) : (UInt8.ofNat n).toNat = n := by simp [Nat.mod_eq_of_lt h]
theorem dec_digs (u : Nat) : digs (decDigits u) := by
  induction u using Nat.strongRecOn with
  | _ u ih =>
    rw [decDigits]
    by_cases h : u < 10
    · rw [dif_pos h]
      intro c hc
      simp only [List.mem_singleton] at hc
      subst hc
      rw [u8_of (by omega)]; omega
    · rw [dif_neg h]
      intro c hc
      rcases List.mem_append.1 hc with hc | hc
      · exact ih (u / 10) (by omega) c hc
      · simp only [List.mem_singleton] at hc
        subst hc
        rw [u8_of (by omega)]; omega
theorem dec_val (u : Nat) : val 0 (decDigits u) = u := by
  induction u using Nat.strongRecOn with
  | _ u ih =>
    rw [decDigits]
    by_cases h : u < 10
    · rw [dif_pos h, val_cons, val_nil, step_eq, u8_of (by omega)]; omega
    · rw [dif_neg h, val_append, ih (u / 10) (by omega), val_cons, val_nil, step_eq, u8_of (by omega)]; omega
theorem dec_ne (u : Nat) : decDigits u ≠ [] := by
  rw [decDigits]
  by_cases h : u < 10
  · rw [dif_pos h]; simp
  · rw [dif_neg h]; simp
/-- Without a nought ahead. -/
def lead (l : List UInt8) : Prop := l ≠ [] ∧ (l = [48] ∨ l.head? ≠ some 48)
theorem dec_head (u : Nat) (h0 : u ≠ 0) : (decDigits u).head? ≠ some 48 := by
  induction u using Nat.strongRecOn with
  | _ u ih =>
    rw [decDigits]
    by_cases h : u < 10
    · rw [dif_pos h]
      simp only [List.head?_cons]
      intro he
      have := congrArg UInt8.toNat (Option.some.inj he)
      rw [u8_of (by omega)] at this
      have h2 : (48 : UInt8).toNat = 48 := rfl
      omega
    · rw [dif_neg h]
      have := ih (u / 10) (by omega) (by omega)
      cases hd : decDigits (u / 10) with
      | nil => exact absurd hd (dec_ne _)
      | cons c r => rw [hd] at this; simpa using this
theorem dec_zero : decDigits 0 = [48] := by rw [decDigits, dif_pos (by omega)]; rfl
theorem dec_lead (u : Nat) : lead (decDigits u) := by
  refine ⟨dec_ne u, ?_⟩
  by_cases h : u = 0
  · subst h; exact .inl dec_zero
  · exact .inr (dec_head u h)
/-- Digits without a nought ahead are the text of what they spell. -/
theorem dec_of_val (l : List UInt8) (hd : digs l) (hl : lead l) : decDigits (val 0 l) = l := by
  have key : ∀ (n : Nat) (l : List UInt8), l.length = n → digs l → l ≠ [] → l.head? ≠ some 48 → decDigits (val 0 l) = l ∧ 0 < val 0 l := by
    intro n
    induction n using Nat.strongRecOn with
    | _ n ih =>
      intro l hn hd hne hh
      obtain ⟨p, c, rfl⟩ : ∃ p c, l = p ++ [c] := ⟨l.dropLast, l.getLast hne, (List.dropLast_concat_getLast hne).symm⟩
      have hc := hd c (by simp)
      cases p with
      | nil =>
        rw [List.nil_append, val_cons, val_nil]
        have hs := step_eq 0 c
        have h48 : c.toNat ≠ 48 := by
          intro h
          apply hh
          simp only [List.nil_append, List.head?_cons]
          exact congrArg some (UInt8.toNat_inj.1 h)
        refine ⟨?_, by omega⟩
        rw [decDigits, dif_pos (by omega)]
        congr 1
        apply UInt8.toNat_inj.1
        rw [u8_of (by omega)]; omega
      | cons d p =>
        have hd2 : digs (d :: p) := fun x hx => hd x (List.mem_append_left _ hx)
        have IH := ih (d :: p).length (by simp at hn ⊢; omega) (d :: p) rfl hd2 (by simp) (by simpa using hh)
        rw [val_append, val_cons, val_nil]
        have hs := step_eq (val 0 (d :: p)) c
        have hp := IH.2
        have e0 := IH.1
        generalize val 0 (d :: p) = V at *
        generalize step V c = W at *
        refine ⟨?_, by omega⟩
        have e1 : W / 10 = V := by omega
        have e2 : UInt8.ofNat (48 + W % 10) = c := by
          apply UInt8.toNat_inj.1
          rw [u8_of (by omega)]; omega
        rw [decDigits, dif_neg (by omega), e1, e2, e0]
  rcases hl with ⟨hne, rfl | hh⟩
  · have : val 0 [48] = 0 := by rw [val_cons, val_nil, step_eq]; rfl
    rw [this]; exact dec_zero
  · exact (key l.length l rfl hd hne hh).1
theorem val_pos {l : List UInt8} (hne : l ≠ []) (hd : digs l) (hh : l.head? ≠ some 48) : 0 < val 0 l := by
  cases l with
  | nil => exact absurd rfl hne
  | cons c r =>
    have hc := hd c (by simp)
    have h48 : c.toNat ≠ 48 := by
      intro h; apply hh; simp only [List.head?_cons]; exact congrArg some (UInt8.toNat_inj.1 h)
    have h1 := le_val r (step 0 c)
    have h2 := step_eq 0 c
    rw [val_cons]; omega
theorem parseM (l : List UInt8) : ∀ (a : Nat), digs l → a ≤ 18446744073709551615 → parseUintM 18446744073709551615 a l = if val a l ≤ 18446744073709551615 then .ok (val a l) else .range := by
  induction l with
  | nil => intro a _ ha; rw [val_nil, if_pos ha]; rfl
  | cons c r ih =>
    intro a h ha
    have hc := h c (by simp)
    have hv := le_val r (step a c)
    have hs := step_eq a c
    rw [val_cons]
    unfold parseUintM
    rw [if_pos hc, ← hs]
    by_cases h1 : 1844674407370955162 ≤ a
    · rw [if_pos h1, if_neg (by omega)]
    · rw [if_neg h1]
      by_cases h2 : 18446744073709551615 < step a c
      · rw [if_pos h2, if_neg (by omega)]
      · rw [if_neg h2]
        exact ih _ (fun d hd => h d (by simp [hd])) (by omega)
/-- What stands behind the sign. -/
def mag (l : List UInt8) : List UInt8 := if l.head? = some 45 then l.tail else l
/-- Is it a number's text? -/
def isNum (l : List UInt8) : Prop := digs (mag l) ∧ mag l ≠ [] ∧ ((mag l).head? = some 48 → l = [48])
instance (l : List UInt8) : Decidable (isNum l) := inferInstanceAs (Decidable (_ ∧ _ ∧ (_ → _)))
/-- The number. -/
def num (l : List UInt8) : Int := if l.head? = some 45 then -(val 0 (mag l) : Int) else val 0 (mag l)
theorem isNum_lead {l : List UInt8} (h : isNum l) : lead (mag l) := by
  refine ⟨h.2.1, ?_⟩
  by_cases c : (mag l).head? = some 48
  · have e := h.2.2 c
    subst e; exact .inl rfl
  · exact .inr c
theorem itoa_num (n : Int) : isNum (itoa n) ∧ num (itoa n) = n := by
  by_cases h : n < 0
  · have e : itoa n = 45 :: decDigits n.natAbs := by unfold itoa; rw [if_pos h]
    have m : mag (45 :: decDigits n.natAbs) = decDigits n.natAbs := by unfold mag; simp
    rw [e]
    refine ⟨⟨by rw [m]; exact dec_digs _, by rw [m]; exact dec_ne _, fun c => ?_⟩, ?_⟩
    · rw [m] at c; exact absurd c (dec_head _ (by omega))
    · unfold num; rw [m, dec_val]; simp; omega
  · have e : itoa n = decDigits n.toNat := by unfold itoa; rw [if_neg h]
    have hh : (decDigits n.toNat).head? ≠ some 45 := by
      cases hd : decDigits n.toNat with
      | nil => simp
      | cons c r =>
        have := dec_digs n.toNat c (by rw [hd]; simp)
        intro hc
        simp only [List.head?_cons, Option.some.injEq] at hc
        subst hc
        exact absurd this.1 (by decide)
    have m : mag (decDigits n.toNat) = decDigits n.toNat := by unfold mag; rw [if_neg hh]
    rw [e]
    refine ⟨⟨by rw [m]; exact dec_digs _, by rw [m]; exact dec_ne _, fun c => ?_⟩, ?_⟩
    · rw [m] at c
      by_cases z : n.toNat = 0
      · rw [z]; exact dec_zero
      · exact absurd c (dec_head _ z)
    · unfold num; rw [m, if_neg hh, dec_val]; omega
theorem itoa_of_num {l : List UInt8} (h : isNum l) : itoa (num l) = l := by
  have d := dec_of_val (mag l) h.1 (isNum_lead h)
  unfold num
  by_cases c : l.head? = some 45
  · have m : l = 45 :: mag l := by
      unfold mag; rw [if_pos c]
      cases l with
      | nil => simp at c
      | cons a r => simp at c; subst c; rfl
    have hp : 0 < val 0 (mag l) := by
      refine val_pos h.2.1 h.1 fun c2 => ?_
      have := h.2.2 c2
      subst this; simp at c
    rw [if_pos c]
    unfold itoa
    rw [if_pos (by omega), show (-(val 0 (mag l) : Int)).natAbs = val 0 (mag l) by omega, d, ← m]
  · have m : mag l = l := by unfold mag; rw [if_neg c]
    rw [if_neg c]
    unfold itoa
    rw [if_neg (by omega), Int.toNat_natCast, d, m]
theorem parse_num {l : List UInt8} (h : isNum l) : parseIntB 64 l = if -9223372036854775808 ≤ num l ∧ num l ≤ 9223372036854775807 then .ok (num l) else .range := by
  cases l with
  | nil => have := h.2.1; unfold mag at this; simp at this
  | cons c r =>
    have hx : (if c.toNat = 43 ∨ c.toNat = 45 then r else c :: r) = mag (c :: r) := by
      unfold mag
      by_cases e : c = 45
      · subst e; simp
      · have e45 : c.toNat ≠ 45 := fun h => e (UInt8.toNat_inj.1 h)
        have hm : mag (c :: r) = c :: r := by unfold mag; rw [if_neg (by simpa using e)]
        have hd := h.1 c (by rw [hm]; simp)
        rw [if_neg (by omega), if_neg (by simpa using e)]
    have hneg : (c.toNat = 45) ↔ (c :: r).head? = some 45 := by
      simp only [List.head?_cons, Option.some.injEq]
      exact ⟨fun h => UInt8.toNat_inj.1 h, fun h => by subst h; rfl⟩
    have hp := parseM (mag (c :: r)) 0 h.1 (by omega)
    simp only [parseIntB, hx]
    unfold parseUintB
    rw [if_neg h.2.1, show (2 ^ 64 - 1 : Nat) = 18446744073709551615 by decide, hp]
    unfold num
    by_cases b : val 0 (mag (c :: r)) ≤ 18446744073709551615
    · rw [if_pos b]
      simp only [show (2 ^ (64 - 1) : Nat) = 9223372036854775808 by decide]
      by_cases n : c.toNat = 45
      · rw [if_pos (hneg.1 n)]
        simp only [n, not_true, false_and, if_false, true_and, if_true]
        by_cases g : 9223372036854775808 < val 0 (mag (c :: r))
        · rw [if_pos g, if_neg (by omega)]
        · rw [if_neg g, if_pos (by omega)]
      · rw [if_neg (fun h => n (hneg.2 h))]
        simp only [n, not_false_eq_true, true_and, if_false, false_and]
        by_cases g : 9223372036854775808 ≤ val 0 (mag (c :: r))
        · rw [if_pos g, if_neg (by omega)]
        · rw [if_neg g, if_pos (by omega)]
    · rw [if_neg b]
      rw [if_neg]
      split <;> omega
/-- A number that no int64 holds has 19 digits or more. -/
theorem long_num {l : List UInt8} (h : isNum l) (hn : ¬ (-9223372036854775808 ≤ num l ∧ num l ≤ 9223372036854775807)) : 19 ≤ l.length := by
  have hv := val_lt (mag l) 0 h.1
  have hlen : (mag l).length ≤ l.length := by
    unfold mag; split
    · simp
    · exact Nat.le_refl _
  have hbig : 9223372036854775808 ≤ val 0 (mag l) := by unfold num at hn; split at hn <;> omega
  by_cases c : 19 ≤ l.length
  · exact c
  · have : (0 + 1) * 10 ^ (mag l).length ≤ 10 ^ 18 := by
      rw [Nat.zero_add, Nat.one_mul]; exact Nat.pow_le_pow_right (by omega) (by omega)
    omega
theorem itoa_head (n : Int) : (itoa n).head? = some 45 ↔ n < 0 := by
  unfold itoa
  by_cases h : n < 0
  · rw [if_pos h]; simp [h]
  · rw [if_neg h]
    refine ⟨fun hc => ?_, fun hc => absurd hc h⟩
    cases hd : decDigits n.toNat with
    | nil => rw [hd] at hc; simp at hc
    | cons c r =>
      have := dec_digs n.toNat c (by rw [hd]; simp)
      rw [hd] at hc
      simp only [List.head?_cons, Option.some.injEq] at hc
      subst hc
      exact absurd this.1 (by decide)
theorem mag_len (l : List UInt8) : (mag l).length ≤ l.length := by
  unfold mag; split
  · simp
  · exact Nat.le_refl _
theorem digs_cons {c : UInt8} {t : List UInt8} : digs (c :: t) ↔ (48 ≤ c.toNat ∧ c.toNat ≤ 57) ∧ digs t := by simp [digs]
/-- What Read answers. -/
def readA (l : List UInt8) : Int × Int := if isNum l then fits (num l) else (0, 1)
end Go.Proofs.YtofedlghaopciaaDoor.Dig
