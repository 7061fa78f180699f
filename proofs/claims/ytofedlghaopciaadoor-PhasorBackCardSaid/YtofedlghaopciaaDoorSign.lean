/- The last sign in a text: what strings.LastIndexAny(s, "+-") answers, in plain words. -/
import Derived.Lib.TrimU
import Derived.Lib.TrimAscii
set_option linter.unusedVariables false
set_option linter.unusedSimpArgs false
namespace Go.Proofs.YtofedlghaopciaaDoor.Sign
open Go.Lib
def signs : List UInt8 := [43, 45]
def runeAt (r : Nat) : Int := if r = 43 then 0 else if r = 45 then 1 else -1
/-- Byte by byte, from place k down. -/
def lastL (l : List UInt8) : Nat → Int
  | 0 => -1
  | k + 1 => if signs.contains (l.getD k 0) then (k : Int) else lastL l k
/-- Rune by rune, from place i down. -/
def lastS (l : List UInt8) : Nat → Nat → Int
  | 0, _ => -1
  | f + 1, i => if i = 0 then -1 else if 0 ≤ runeAt (decodeLastL (l.take i)).1 then ((i - (decodeLastL (l.take i)).2 : Nat) : Int) else lastS l f (i - (decodeLastL (l.take i)).2)
def oneA (l : List UInt8) : Int := if 0 ≤ runeAt (if (l.getD 0 0).toNat < 128 then (l.getD 0 0).toNat else 65533) then 0 else -1
def lastAny (l : List UInt8) : Int := if l.length = 1 then oneA l else if 8 < l.length then lastL l l.length else lastS l l.length l.length
theorem lastL_range (l : List UInt8) : ∀ k, -1 ≤ lastL l k ∧ lastL l k < k
  | 0 => by simp [lastL]
  | k + 1 => by
    have := lastL_range l k
    unfold lastL
    split <;> omega
theorem lastS_range (l : List UInt8) : ∀ f i, i ≤ l.length → -1 ≤ lastS l f i ∧ lastS l f i < i ∨ lastS l f i = -1
  | 0, i, h => .inr rfl
  | f + 1, i, h => by
    unfold lastS
    by_cases c : i = 0
    · rw [if_pos c]; exact .inr rfl
    · rw [if_neg c]
      have hw := decodeLastL_width (l.take i) (by rw [List.length_take]; omega)
      have hl : (l.take i).length = i := by rw [List.length_take]; omega
      split
      · left; omega
      · have := lastS_range l f (i - (decodeLastL (l.take i)).2) (by omega)
        omega
theorem lastAny_range (l : List UInt8) : -1 ≤ lastAny l ∧ lastAny l < l.length ∨ lastAny l = -1 := by
  unfold lastAny
  split
  · unfold oneA; split <;> omega
  · split
    · have := lastL_range l l.length; omega
    · exact lastS_range l l.length l.length (Nat.le_refl _)
theorem sign_rune {c : UInt8} : signs.contains c = true ↔ 0 ≤ runeAt c.toNat := by
  unfold signs runeAt
  have e3 : c = 43 ↔ c.toNat = 43 := ⟨fun h => by subst h; rfl, fun h => UInt8.toNat_inj.1 h⟩
  have e5 : c = 45 ↔ c.toNat = 45 := ⟨fun h => by subst h; rfl, fun h => UInt8.toNat_inj.1 h⟩
  simp only [List.contains_cons, List.contains_nil, Bool.or_false, Bool.or_eq_true, beq_iff_eq, e3, e5]
  split
  · simp [*]
  · split
    · simp [*]
    · simp [*]
theorem sign_ascii {c : UInt8} (h : signs.contains c = true) : c.toNat < 128 := by
  have := sign_rune.1 h
  unfold runeAt at this
  split at this
  · omega
  · split at this <;> omega
theorem get_at (p : List UInt8) (c : UInt8) (q : List UInt8) : (p ++ c :: q).getD p.length 0 = c := by simp [List.getD]
theorem get_in (p : List UInt8) (c : UInt8) (q : List UInt8) (j : Nat) (h : j < q.length) : (p ++ c :: q).getD (p.length + 1 + j) 0 = q[j] := by
  rw [List.getD_eq_getElem?_getD, List.getElem?_append_right (by omega), show p.length + 1 + j - p.length = j + 1 by omega, List.getElem?_cons_succ, List.getElem?_eq_getElem h]
  rfl
theorem lastL_at {p q : List UInt8} {c : UInt8} (hc : signs.contains c = true) (hq : ∀ x ∈ q, signs.contains x = false) : ∀ j, j ≤ q.length → lastL (p ++ c :: q) (p.length + 1 + j) = p.length
  | 0, _ => by
    show lastL (p ++ c :: q) (p.length + 1) = _
    unfold lastL
    rw [get_at, if_pos hc]
  | j + 1, h => by
    show lastL (p ++ c :: q) (p.length + 1 + j + 1) = _
    unfold lastL
    rw [get_in p c q j (by omega), if_neg (by rw [hq _ (List.getElem_mem (by omega))]; simp)]
    exact lastL_at hc hq j (by omega)
theorem take_last {l : List UInt8} {n : Nat} (h : n < l.length) : l.take (n + 1) = l.take n ++ [l.getD n 0] := by
  rw [List.take_succ_eq_append_getElem h, List.getD_eq_getElem?_getD, List.getElem?_eq_getElem h]
  rfl
theorem lastS_at {p q : List UInt8} {c : UInt8} (hc : signs.contains c = true) (hq : ∀ x ∈ q, signs.contains x = false ∧ x.toNat < 128) : ∀ j f, j ≤ q.length → p.length + 1 + j ≤ f → lastS (p ++ c :: q) f (p.length + 1 + j) = p.length
  | _, 0, _, hf => by omega
  | 0, f + 1, h, hf => by
    show lastS (p ++ c :: q) (f + 1) (p.length + 1) = _
    unfold lastS
    rw [if_neg (by omega), take_last (by simp), get_at, decodeLastL_ascii _ _ (sign_ascii hc), if_pos (sign_rune.1 hc)]
    omega
  | j + 1, f + 1, h, hf => by
    show lastS (p ++ c :: q) (f + 1) (p.length + 1 + j + 1) = _
    have hx := hq _ (List.getElem_mem (show j < q.length by omega))
    unfold lastS
    rw [if_neg (by omega), take_last (by simp; omega), get_in p c q j (by omega), decodeLastL_ascii _ _ hx.2, if_neg (fun h => by rw [sign_rune.2 h] at hx; exact absurd hx.1 (by simp))]
    exact lastS_at hc hq j f (by omega) (by omega)
theorem lastAny_at {p q : List UInt8} {c : UInt8} (hp : p ≠ []) (hc : signs.contains c = true) (hq : ∀ x ∈ q, signs.contains x = false ∧ x.toNat < 128) : lastAny (p ++ c :: q) = p.length := by
  have h1 := List.length_pos_iff.2 hp
  have hl : (p ++ c :: q).length = p.length + 1 + q.length := by simp; omega
  unfold lastAny
  rw [if_neg (by omega), hl]
  split
  · exact lastL_at hc (fun x hx => (hq x hx).1) q.length (Nat.le_refl _)
  · exact lastS_at hc hq q.length _ (Nat.le_refl _) (Nat.le_refl _)
end Go.Proofs.YtofedlghaopciaaDoor.Sign
