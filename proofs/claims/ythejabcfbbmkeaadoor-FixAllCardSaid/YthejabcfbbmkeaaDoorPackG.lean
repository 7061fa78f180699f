import Derived.Laws.Bits64
import Derived.Laws.BitsAllLaws
import Derived.Laws.MathBits
import Derived.Test.YthejabcfbbmkeaaDoorXExt
import Derived.Test.YthejabcfbbmkeaaDoorWMore
import Derived.Lib.ItoaNum
import Derived.Lib.ParseIntB
import Derived.Test.YthejabcfbbmkeaaDoorPGx2
import Derived.Test.YthejabcfbbmkeaaDoorPGx3
import Derived.Test.YthejabcfbbmkeaaDoorPGx7
import Derived.Laws.Strings
import Derived.Test.YthejabcfbbmkeaaDoorPGx8
import Derived.Test.YthejabcfbbmkeaaDoorPGx9
import Derived.Test.YthejabcfbbmkeaaDoorPGx10
import Derived.Test.YthejabcfbbmkeaaDoorPGx11
import Derived.Test.YthejabcfbbmkeaaDoorPGx5
import Derived.Test.YthejabcfbbmkeaaDoorPGx6
import Derived.KernelRfl
import Derived.Test.YthejabcfbbmkeaaDoorPGx12
/- Plain arithmetic: words of 64 bits, products and quotients of two words, half up. No program in sight. -/
set_option linter.unusedVariables false
set_option linter.unusedSimpArgs false
namespace Go.Proofs.YthejabcfbbmkeaaDoor.Num
open Go.RowKit Go.Proofs.YthejabcfbbmkeaaDoorW.PrintWords Go.Proofs.YthejabcfbbmkeaaDoorW.PrintMore

theorem Ev.shift {α : Type} {g : Nat → Option α} {r : α} (h : Ev (fun k => g (k + 1)) r) : Ev g r := by
  obtain ⟨K, h⟩ := h
  refine ⟨K + 1, fun k hk => ?_⟩
  obtain ⟨m, rfl⟩ : ∃ m, k = m + 1 := ⟨k - 1, by omega⟩
  exact h m (by omega)
theorem Ev.later {α : Type} {g : Nat → Option α} {r : α} (h : Ev g r) : Ev (fun k => g (k + 1)) r := by
  obtain ⟨K, h⟩ := h
  exact ⟨K, fun k hk => h (k + 1) (by omega)⟩
theorem Ev.pair {α β : Type} (F : α × β) : Ev (fun _ => some (F.1, F.2)) F := Ev.now F
theorem Ev.ofEq {α : Type} {o : Option α} {r : α} (h : o = some r) : Ev (fun _ => o) r := ⟨0, fun _ _ => h⟩
theorem w64 {x : Int} (h0 : 0 ≤ x) (h : x < 18446744073709551616) : IntKind.u64.wrap x = x := by rw [IntKind.wrap_u64]; omega
theorem i64in {x : Int} (h0 : -9223372036854775808 ≤ x) (h : x ≤ 9223372036854775807) : wrap64 x = x := by unfold wrap64; omega
theorem wf64 {x : Int} (h : (Lit.int .i64 x).wf = true) : -9223372036854775808 ≤ x ∧ x ≤ 9223372036854775807 := by
  simpa [Lit.wf, IntKind.min, IntKind.max, IntKind.bits, IntKind.signed] using h

theorem and_mask32 {x : Int} (h0 : 0 ≤ x) (h : x < 18446744073709551616) : Go.bits .and .u64 x 4294967295 = x % 4294967296 := by
  rw [u64_and x 4294967295 h0 h (by omega) (by omega)]
  obtain ⟨n, rfl⟩ := Int.eq_ofNat_of_zero_le h0
  have := Nat.and_two_pow_sub_one_eq_mod n 32
  simp only [Int.toNat_natCast]
  rw [show (4294967295 : Int).toNat = 2 ^ 32 - 1 by rfl, this]
  omega
theorem and_one {x : Int} (h0 : 0 ≤ x) (h : x < 18446744073709551616) : Go.bits .and .u64 x 1 = x % 2 := by
  rw [u64_and x 1 h0 h (by omega) (by omega)]
  obtain ⟨n, rfl⟩ := Int.eq_ofNat_of_zero_le h0
  have := Nat.and_two_pow_sub_one_eq_mod n 1
  simp only [Int.toNat_natCast]
  rw [show (1 : Int).toNat = 2 ^ 1 - 1 by rfl, this]
  omega
/-- '|' of two words whose bits lie apart. -/
theorem or_join {x y : Int} (i : Nat) (hx0 : 0 ≤ x) (hx : x < 18446744073709551616) (hm : x % 2 ^ i = 0) (hy0 : 0 ≤ y) (hy1 : y < 18446744073709551616) (hy : y < 2 ^ i) : Go.bits .or .u64 x y = x + y := by
  rw [u64_or x y hx0 hx hy0 hy1]
  obtain ⟨n, rfl⟩ := Int.eq_ofNat_of_zero_le hx0
  obtain ⟨m, rfl⟩ := Int.eq_ofNat_of_zero_le hy0
  simp only [Int.toNat_natCast]
  rw [nat_join i n m (by exact_mod_cast hm) (by exact_mod_cast hy)]
  omega

theorem shr64 {x n : Int} (h0 : 0 ≤ n) (h : n ≤ 64) : shr .u64 x n = x / 2 ^ n.toNat := by
  unfold shr
  rw [Nat.min_eq_left (by simp [IntKind.bits]; omega)]
theorem shl64 {x n : Int} (h0 : 0 ≤ n) (h : n ≤ 64) : shl .u64 x n = (x * 2 ^ n.toNat) % 18446744073709551616 := by
  unfold shl
  rw [Nat.min_eq_left (by simp [IntKind.bits]; omega), IntKind.wrap_u64]

/-! ### The quotient of two words by one: one digit of 32 bits -/
/-- What a guess that is not below the true digit tells: greater than it, or the digit itself. -/
theorem digit_high {U u1 y q rhat yn1 yn0 : Int} (hy : y = yn1 * 4294967296 + yn0) (hq : q * yn1 + rhat = U) (h : q * yn0 > 4294967296 * rhat + u1) : U * 4294967296 + u1 < q * y := by
  have e : q * y = q * yn1 * 4294967296 + q * yn0 := by rw [hy, Int.mul_add, Int.mul_assoc]
  have : q * yn1 = U - rhat := by omega
  rw [e, this]
  omega
theorem digit_low {U u1 y q rhat yn1 yn0 : Int} (hy : y = yn1 * 4294967296 + yn0) (hq : q * yn1 + rhat = U) (h : q * yn0 ≤ 4294967296 * rhat + u1) : q * y ≤ U * 4294967296 + u1 := by
  have e : q * y = q * yn1 * 4294967296 + q * yn0 := by rw [hy, Int.mul_add, Int.mul_assoc]
  have : q * yn1 = U - rhat := by omega
  rw [e, this]
  omega
theorem quot_is {n y q : Int} (hy : 0 < y) (h1 : q * y ≤ n) (h2 : n < (q + 1) * y) : q = n / y := by
  have a := Int.le_ediv_of_mul_le hy h1
  have b := Int.ediv_lt_of_lt_mul hy h2
  omega
theorem digit_lt {U u1 y : Int} (hy : 0 < y) (hU : U < y) (h1 : u1 < 4294967296) : (U * 4294967296 + u1) / y < 4294967296 := by
  refine Int.ediv_lt_of_lt_mul hy ?_
  omega

/-! ### Half up -/
/-- n / d, half up (d above 0). -/
def halfUp (n d : Int) : Int := (2 * n + d) / (2 * d)
theorem halfUp_is {n d q : Int} (hd : 0 < d) (h1 : 2 * (q * d) - d ≤ 2 * n) (h2 : 2 * n < 2 * (q * d) + d) : halfUp n d = q := by
  unfold halfUp
  refine (quot_is (by omega) ?_ ?_).symm
  · have : q * (2 * d) = 2 * (q * d) := by rw [Int.mul_left_comm]
    omega
  · have : (q + 1) * (2 * d) = 2 * (q * d) + 2 * d := by rw [Int.mul_left_comm, Int.add_mul]; omega
    omega
/-- From a magnitude's quotient and rest. -/
theorem halfUp_mag {N d q r : Int} (hd : 0 < d) (e : N = q * d + r) (h0 : 0 ≤ r) (h1 : r < d) (neg : Bool) :
    halfUp (if neg then -N else N) d = if neg then -(if r > d - r then q + 1 else q) else (if r ≥ d - r then q + 1 else q) := by
  have e1 : (q + 1) * d = q * d + d := by rw [Int.add_mul]; omega
  have e2 : (-q) * d = -(q * d) := Int.neg_mul ..
  have e3 : (-(q + 1)) * d = -(q * d + d) := by rw [Int.neg_mul, e1]
  cases neg <;> simp only [if_true, if_false, Bool.false_eq_true] <;> split <;> refine halfUp_is hd ?_ ?_ <;> omega
/-- A product's quotient by c, half up, c not 0. -/
def mulDiv (a b c : Int) : Int := if c < 0 then halfUp (-(a * b)) (-c) else halfUp (a * b) c
/-- As the code answers: the number and the error's number. -/
def fits (n : Int) : Int × Int := if -9223372036854775808 ≤ n ∧ n ≤ 9223372036854775807 then (n, 0) else (0, 5)

/-! ### Rounds, and what follows -/
theorem ev_bind {α β : Type} {g : Nat → Option α} {a : α} {F : Nat → α → Option β} {r : β} (h : Ev g a) (h2 : Ev (fun k => F k a) r) : Ev (fun k => (g k).bind (F k)) r := by
  obtain ⟨K, h⟩ := h
  obtain ⟨L, h2⟩ := h2
  refine ⟨max K L, fun k hk => ?_⟩
  have := h k (by omega)
  show (g k).bind (F k) = _
  rw [this]
  exact h2 k (by omega)
theorem ev_ex {α : Type} {g : Nat → Option α} {r : α} (h : Ev g r) : ∃ k, g k = some r := by
  obtain ⟨K, h⟩ := h
  exact ⟨K, h K (Nat.le_refl _)⟩
theorem Ev.ofEqK {α : Type} {g : Nat → Option α} {r : α} (h : ∀ k, g k = some r) : Ev g r := ⟨0, fun k _ => h k⟩
theorem drop_cons {α : Type} (d : α) {xs : List α} {i : Int} (h0 : 0 ≤ i) (h1 : i < (xs.length : Int)) : xs.drop i.toNat = rdOf d xs i :: xs.drop (i + 1).toNat := by
  have h : i.toNat < xs.length := by omega
  rw [List.drop_eq_getElem_cons h, show (i + 1).toNat = i.toNat + 1 by omega]
  unfold rdOf
  rw [List.getD_eq_getElem?_getD, List.getElem?_eq_getElem h]
  rfl
theorem drop_end {α : Type} {xs : List α} {i : Int} (h : (xs.length : Int) ≤ i) : xs.drop i.toNat = [] := List.drop_eq_nil_of_le (by omega)
/-- '|' of two words whose bits lie apart, the lower one first. -/
theorem or_join' {x y : Int} (i : Nat) (hx0 : 0 ≤ x) (hx : x < 18446744073709551616) (hm : x % 2 ^ i = 0) (hy0 : 0 ≤ y) (hy1 : y < 18446744073709551616) (hy : y < 2 ^ i) : Go.bits .or .u64 y x = x + y := by
  rw [← or_join i hx0 hx hm hy0 hy1 hy, u64_or x y hx0 hx hy0 hy1, u64_or y x hy0 hy1 hx0 hx, Nat.or_comm]

/-! ### Whole square roots -/
/-- r is the whole square root of N. -/
def IsRoot (N r : Int) : Prop := 0 ≤ r ∧ r * r ≤ N ∧ N < (r + 1) * (r + 1)
theorem sq_le {a b : Int} (h0 : 0 ≤ a) (h : a ≤ b) : a * a ≤ b * b := Int.mul_le_mul h h h0 (by omega)
theorem IsRoot.le_of {N r x : Int} (h : IsRoot N r) (hx : 0 ≤ x) (hN : N < x * x) : r ≤ x := by
  rcases Int.lt_or_le x r with g | g
  · have := sq_le hx (Int.le_of_lt g)
    have := h.2.1
    omega
  · exact g
theorem IsRoot.top {N r x : Int} (h : IsRoot N r) (hx : r ≤ x) (hN : x * x ≤ N) : x = r := by
  rcases Int.lt_or_le r x with g | g
  · have := sq_le (a := r + 1) (b := x) (by have := h.1; omega) (by omega)
    have := h.2.2
    omega
  · omega
theorem IsRoot.uniq {N r s : Int} (h : IsRoot N r) (k : IsRoot N s) : r = s := by
  rcases Int.lt_or_le s r with g | g
  · exact k.top (Int.le_of_lt g) h.2.1
  · exact (h.top g k.2.1).symm
theorem IsRoot.pos {N r : Int} (h : IsRoot N r) (hN : 1 ≤ N) : 1 ≤ r := by
  rcases Int.lt_or_le r 1 with g | g
  · have h0 := h.1
    have e : r = 0 := by omega
    have := h.2.2
    rw [e] at this
    omega
  · exact g
theorem root_exists (n : Nat) : ∃ r, IsRoot (n : Int) r := by
  induction n with
  | zero => exact ⟨0, by decide, by decide, by decide⟩
  | succ n ih =>
    obtain ⟨r, h0, h1, h2⟩ := ih
    by_cases g : (r + 1) * (r + 1) ≤ ((n + 1 : Nat) : Int)
    · refine ⟨r + 1, by omega, g, ?_⟩
      have e : (r + 1 + 1) * (r + 1 + 1) = (r + 1) * (r + 1) + (2 * r + 3) := by grind
      rw [e]
      omega
    · exact ⟨r, h0, by omega, by omega⟩
theorem root_of {N : Int} (h : 0 ≤ N) : ∃ r, IsRoot N r := by
  obtain ⟨n, rfl⟩ := Int.eq_ofNat_of_zero_le h
  exact root_exists n
theorem sq_nonneg (a : Int) : 0 ≤ a * a := by
  have := Int.natAbs_mul_self (a := a)
  have h : 0 ≤ (a.natAbs : Int) * a.natAbs := Int.mul_nonneg (by omega) (by omega)
  omega
/-- One of Newton's steps is not below the root. -/
theorem newton {N r x : Int} (hr : IsRoot N r) (hx : 0 < x) : r ≤ (x + N / x) / 2 := by
  rcases Int.lt_or_le ((x + N / x) / 2) r with g | g
  · have h1 : N / x + 1 ≤ 2 * r - x := by omega
    have h2 : (N / x + 1) * x ≤ (2 * r - x) * x := Int.mul_le_mul_of_nonneg_right h1 (Int.le_of_lt hx)
    have h3 := Int.lt_ediv_add_one_mul_self N hx
    have h4 := sq_nonneg (r - x)
    have h5 : (r - x) * (r - x) = r * r - (2 * r - x) * x := by grind
    have := hr.2.1
    omega
  · exact g
end Go.Proofs.YthejabcfbbmkeaaDoor.Num

/- Decimal texts: what they spell, which are numbers' texts; strconv's parse of them. -/
set_option linter.unusedVariables false
set_option linter.unusedSimpArgs false
namespace Go.Proofs.YthejabcfbbmkeaaDoor.Dig
open Go.Lib Go.Proofs.YthejabcfbbmkeaaDoor.Num
def digs (l : List UInt8) : Prop := ∀ c ∈ l, 48 ≤ c.toNat ∧ c.toNat ≤ 57
instance (l : List UInt8) : Decidable (digs l) := inferInstanceAs (Decidable (∀ c ∈ l, _))
/-- A digit more. -/
def step (a : Nat) (c : UInt8) : Nat := a * 10 + (c.toNat - 48)
theorem step_eq (a : Nat) (c : UInt8) : step a c = a * 10 + (c.toNat - 48) := rfl
attribute [irreducible] step
/-- What the digits spell, behind acc. -/
def val : Nat → List UInt8 → Nat
  | acc, [] => acc
  | acc, c :: r => val (step acc c) r
theorem val_nil (a : Nat) : val a [] = a := rfl
theorem val_cons (a : Nat) (c : UInt8) (r : List UInt8) : val a (c :: r) = val (step a c) r := rfl
theorem le_val (l : List UInt8) : ∀ (a : Nat), a ≤ val a l := by
  induction l with
  | nil => intro a; rw [val_nil]; exact Nat.le_refl _
  | cons c l ih => intro a; rw [val_cons]; have h1 := ih (step a c); have h2 := step_eq a c; omega
theorem val_lt (l : List UInt8) : ∀ (a : Nat), digs l → val a l < (a + 1) * 10 ^ l.length := by
  induction l with
  | nil => intro a _; rw [val_nil]; simp
  | cons c l ih =>
    intro a h
    have hc := h c (by simp)
    have IH := ih (step a c) (fun d hd => h d (by simp [hd]))
    have hs := step_eq a c
    rw [val_cons, List.length_cons, Nat.pow_succ]
    refine Nat.lt_of_lt_of_le IH ?_
    rw [Nat.mul_comm (10 ^ l.length) 10, ← Nat.mul_assoc]
    exact Nat.mul_le_mul_right _ (by omega)
/-- Without a nought ahead. -/
def lead (l : List UInt8) : Prop := l ≠ [] ∧ (l = [48] ∨ l.head? ≠ some 48)
theorem parseM (l : List UInt8) : ∀ (a : Nat), digs l → a ≤ 18446744073709551615 → parseUintM 18446744073709551615 a l = if val a l ≤ 18446744073709551615 then .ok (val a l) else .range := by
  induction l with
  | nil => intro a _ ha; rw [val_nil, if_pos ha]; rfl
  | cons c r ih =>
    intro a h ha
    have hc := h c (by simp)
    have hv := le_val r (step a c)
    have hs := step_eq a c
    rw [val_cons]
    unfold parseUintM
    rw [if_pos hc, ← hs]
    by_cases h1 : 1844674407370955162 ≤ a
    · rw [if_pos h1, if_neg (by omega)]
    · rw [if_neg h1]
      by_cases h2 : 18446744073709551615 < step a c
      · rw [if_pos h2, if_neg (by omega)]
      · rw [if_neg h2]
        exact ih _ (fun d hd => h d (by simp [hd])) (by omega)
/-- What stands behind the sign. -/
def mag (l : List UInt8) : List UInt8 := if l.head? = some 45 then l.tail else l
/-- Is it a number's text? -/
def isNum (l : List UInt8) : Prop := digs (mag l) ∧ mag l ≠ [] ∧ ((mag l).head? = some 48 → l = [48])
instance (l : List UInt8) : Decidable (isNum l) := inferInstanceAs (Decidable (_ ∧ _ ∧ (_ → _)))
/-- The number. -/
def num (l : List UInt8) : Int := if l.head? = some 45 then -(val 0 (mag l) : Int) else val 0 (mag l)
theorem parse_num {l : List UInt8} (h : isNum l) : parseIntB 64 l = if -9223372036854775808 ≤ num l ∧ num l ≤ 9223372036854775807 then .ok (num l) else .range := by
  cases l with
  | nil => have := h.2.1; unfold mag at this; simp at this
  | cons c r =>
    have hx : (if c.toNat = 43 ∨ c.toNat = 45 then r else c :: r) = mag (c :: r) := by
      unfold mag
      by_cases e : c = 45
      · subst e; simp
      · have e45 : c.toNat ≠ 45 := fun h => e (UInt8.toNat_inj.1 h)
        have hm : mag (c :: r) = c :: r := by unfold mag; rw [if_neg (by simpa using e)]
        have hd := h.1 c (by rw [hm]; simp)
        rw [if_neg (by omega), if_neg (by simpa using e)]
    have hneg : (c.toNat = 45) ↔ (c :: r).head? = some 45 := by
      simp only [List.head?_cons, Option.some.injEq]
      exact ⟨fun h => UInt8.toNat_inj.1 h, fun h => by subst h; rfl⟩
    have hp := parseM (mag (c :: r)) 0 h.1 (by omega)
    simp only [parseIntB, hx]
    unfold parseUintB
    rw [if_neg h.2.1, show (2 ^ 64 - 1 : Nat) = 18446744073709551615 by decide, hp]
    unfold num
    by_cases b : val 0 (mag (c :: r)) ≤ 18446744073709551615
    · rw [if_pos b]
      simp only [show (2 ^ (64 - 1) : Nat) = 9223372036854775808 by decide]
      by_cases n : c.toNat = 45
      · rw [if_pos (hneg.1 n)]
        simp only [n, not_true, false_and, if_false, true_and, if_true]
        by_cases g : 9223372036854775808 < val 0 (mag (c :: r))
        · rw [if_pos g, if_neg (by omega)]
        · rw [if_neg g, if_pos (by omega)]
      · rw [if_neg (fun h => n (hneg.2 h))]
        simp only [n, not_false_eq_true, true_and, if_false, false_and]
        by_cases g : 9223372036854775808 ≤ val 0 (mag (c :: r))
        · rw [if_pos g, if_neg (by omega)]
        · rw [if_neg g, if_pos (by omega)]
    · rw [if_neg b]
      rw [if_neg]
      split <;> omega
theorem mag_len (l : List UInt8) : (mag l).length ≤ l.length := by
  unfold mag; split
  · simp
  · exact Nat.le_refl _
theorem digs_cons {c : UInt8} {t : List UInt8} : digs (c :: t) ↔ (48 ≤ c.toNat ∧ c.toNat ≤ 57) ∧ digs t := by simp [digs]
/-- What Read answers. -/
def readA (l : List UInt8) : Int × Int := if isNum l then fits (num l) else (0, 1)
end Go.Proofs.YthejabcfbbmkeaaDoor.Dig

/- Package fix's products and quotients: what the printed functions compute, as plain arithmetic. -/
set_option linter.unusedVariables false
set_option linter.unusedSimpArgs false
namespace Go.Proofs.YthejabcfbbmkeaaDoor.PureG
open Go.RowKit Go.Proofs.YthejabcfbbmkeaaDoor.PG Go.Proofs.YthejabcfbbmkeaaDoor.Num Go.Proofs.YthejabcfbbmkeaaDoorW.PrintWords Go.Proofs.YthejabcfbbmkeaaDoorW.PrintLast Go.Proofs.YthejabcfbbmkeaaDoorW.PrintMore

theorem mul64_f {a b : Int} (ha0 : 0 ≤ a) (ha : a < 18446744073709551616) (hb0 : 0 ≤ b) (hb : b < 18446744073709551616) :
    bits_Mul64.f a b = some (a * b / 18446744073709551616, a * b % 18446744073709551616) := by
  unfold bits_Mul64.f
  have e := mul64_arith a b ha0 ha hb0 hb
  rw [and_mask32 ha0 ha, and_mask32 hb0 hb]
  simp only [IntKind.wrap_u64]
  rw [and_mask32 (Int.emod_nonneg _ (by omega)) (Int.emod_lt_of_pos _ (by omega)), e]

theorem size_f {a : Int} (h0 : -9223372036854775808 ≤ a) (h1 : a ≤ 9223372036854775807) : fix_size.f a = some (a.natAbs : Int) := by
  unfold fix_size.f
  simp only [IntKind.wrap_u64]
  split <;> (congr 1; omega)

theorem number_f (k : Nat) (neg : Bool) {hi lo : Int} (h0 : 0 ≤ hi) (l0 : 0 ≤ lo) (l1 : lo < 18446744073709551616) :
    fix_number.f (k + 1) neg hi lo = some (fits (if neg = true then -(hi * 18446744073709551616 + lo) else hi * 18446744073709551616 + lo)) := by
  unfold fix_number.f fits
  by_cases hh : hi = 0
  · subst hh
    cases neg
    · simp only [if_true, Bool.false_eq_true, if_false, fix_number.j0]
      by_cases hl : lo > 9223372036854775807
      · rw [if_pos (by simpa using hl), if_neg (by omega)]
      · rw [if_neg (by simpa using hl), if_pos (by omega), i64in (by omega) (by omega)]
        simp
    · simp only [if_true]
      by_cases hl : lo > 9223372036854775808
      · rw [if_pos hl]
        simp only [fix_number.j0]
        rw [if_pos (by simpa using hl), if_neg (by omega)]
      · rw [if_neg hl, if_pos (by omega)]
        simp only [fix_number.j0, Bool.false_eq_true, if_false, if_true, IntKind.wrap_u64]
        congr 2
        unfold wrap64
        omega
  · rw [if_neg hh]
    simp only [fix_number.j0]
    rw [if_pos (by simpa using hh), if_neg (by cases neg <;> simp <;> omega)]
end Go.Proofs.YthejabcfbbmkeaaDoor.PureG

/- math/bits.Len64 and Div64: what the printed functions compute. -/
set_option linter.unusedVariables false
set_option linter.unusedSimpArgs false
namespace Go.Proofs.YthejabcfbbmkeaaDoor.PureG
open Go.RowKit Go.Proofs.YthejabcfbbmkeaaDoor.PG Go.Proofs.YthejabcfbbmkeaaDoor.Num Go.Proofs.YthejabcfbbmkeaaDoorW.PrintWords Go.Proofs.YthejabcfbbmkeaaDoorW.PrintLast Go.Proofs.YthejabcfbbmkeaaDoorW.PrintMore

theorem bt_get {s : ByteArray} {i : Int} (h : i.toNat < s.size) : bt s i = ((s[i.toNat]'h).toNat : Int) := by
  unfold bt; rw [dif_pos h]
theorem bitLen64 {n b : Nat} (h : n < 2 ^ b) : bitLen n ≤ b := by
  unfold bitLen
  split
  · omega
  · rename_i h0
    have := (Nat.log2_lt h0).2 h
    omega
theorem len_tab (s : ByteArray) (ht : ∀ i : Int, 0 ≤ i → i < 256 → bt s i = ((bitLen i.toNat : Nat) : Int)) (n z : Nat) (h : n < 4294967296) (hz : z ≤ 64) :
    (if (n : Int) ≥ 65536 then (if ((n : Int) / 65536) ≥ 256 then (if 0 ≤ ((((n : Int) / 65536) / 256) % 256) then (if ((((n : Int) / 65536) / 256) % 256) < 256 then (some (wrap64 ((wrap64 ((wrap64 ((z : Int) + 16)) + 8)) + (wrap64 (bt s ((((n : Int) / 65536) / 256) % 256)))))) else (none)) else (none))
      else (if 0 ≤ (((n : Int) / 65536) % 256) then (if (((n : Int) / 65536) % 256) < 256 then (some (wrap64 ((wrap64 ((z : Int) + 16)) + (wrap64 (bt s (((n : Int) / 65536) % 256)))))) else (none)) else (none)))
      else (if (n : Int) ≥ 256 then (if 0 ≤ (((n : Int) / 256) % 256) then (if (((n : Int) / 256) % 256) < 256 then (some (wrap64 ((wrap64 ((z : Int) + 8)) + (wrap64 (bt s (((n : Int) / 256) % 256)))))) else (none)) else (none))
      else (if 0 ≤ ((n : Int) % 256) then (if ((n : Int) % 256) < 256 then (some (wrap64 ((z : Int) + (wrap64 (bt s ((n : Int) % 256)))))) else (none)) else (none)))) = some ((z + bitLen n : Nat) : Int) := by
  by_cases h1 : (n : Int) ≥ 65536
  · rw [if_pos h1]
    by_cases h2 : (n : Int) / 65536 ≥ 256
    · rw [if_pos h2, if_pos (by omega), if_pos (by omega), ht _ (by omega) (by omega)]
      have e : ((n : Int) / 65536 / 256 % 256).toNat = n / 65536 / 256 := by omega
      have l := bitLen64 (n := n / 65536 / 256) (b := 8) (by omega)
      have s1 := bitLen_shift n 16 (by omega)
      have s2 := bitLen_shift (n / 2 ^ 16) 8 (by omega)
      rw [e]
      simp only [Nat.reducePow] at s1 s2
      rw [i64in (x := (z : Int) + 16) (by omega) (by omega), i64in (x := (z : Int) + 16 + 8) (by omega) (by omega), i64in (x := ((bitLen (n / 65536 / 256) : Nat) : Int)) (by omega) (by omega), i64in (x := (z : Int) + 16 + 8 + ((bitLen (n / 65536 / 256) : Nat) : Int)) (by omega) (by omega)]
      refine congrArg some ?_
      omega
    · rw [if_neg h2, if_pos (by omega), if_pos (by omega), ht _ (by omega) (by omega)]
      have e : ((n : Int) / 65536 % 256).toNat = n / 65536 := by omega
      have l := bitLen64 (n := n / 65536) (b := 8) (by omega)
      have s1 := bitLen_shift n 16 (by omega)
      rw [e]
      simp only [Nat.reducePow] at s1
      rw [i64in (x := (z : Int) + 16) (by omega) (by omega), i64in (x := ((bitLen (n / 65536) : Nat) : Int)) (by omega) (by omega), i64in (x := (z : Int) + 16 + ((bitLen (n / 65536) : Nat) : Int)) (by omega) (by omega)]
      refine congrArg some ?_
      omega
  · rw [if_neg h1]
    by_cases h2 : (n : Int) ≥ 256
    · rw [if_pos h2, if_pos (by omega), if_pos (by omega), ht _ (by omega) (by omega)]
      have e : ((n : Int) / 256 % 256).toNat = n / 256 := by omega
      have l := bitLen64 (n := n / 256) (b := 8) (by omega)
      have s1 := bitLen_shift n 8 (by omega)
      rw [e]
      simp only [Nat.reducePow] at s1
      rw [i64in (x := (z : Int) + 8) (by omega) (by omega), i64in (x := ((bitLen (n / 256) : Nat) : Int)) (by omega) (by omega), i64in (x := (z : Int) + 8 + ((bitLen (n / 256) : Nat) : Int)) (by omega) (by omega)]
      refine congrArg some ?_
      omega
    · rw [if_neg h2, if_pos (by omega), if_pos (by omega), ht _ (by omega) (by omega)]
      have e : ((n : Int) % 256).toNat = n := by omega
      have l := bitLen64 (n := n) (b := 8) (by omega)
      rw [e]
      rw [i64in (x := ((bitLen (n) : Nat) : Int)) (by omega) (by omega), i64in (x := (z : Int) + ((bitLen (n) : Nat) : Int)) (by omega) (by omega)]
      refine congrArg some ?_
      omega
set_option maxRecDepth 1000000 in
theorem len_j (k : Nat) (n z : Nat) (h : n < 4294967296) (hz : z ≤ 64) : bits_Len64.j0 (k + 1) n z = some ((z + bitLen n : Nat) : Int) := by
  rw [bits_Len64.j0]
  exact len_tab _ (fun i h0 h1 => (bt_get (show i.toNat < _ by show i.toNat < 256; omega)).trans (congrArg Nat.cast (len8tab_get _ _))) n z h hz
theorem len64_f (k : Nat) (n : Nat) (h : n < 18446744073709551616) : bits_Len64.f (k + 1) n = some ((bitLen n : Nat) : Int) := by
  unfold bits_Len64.f
  by_cases h1 : (n : Int) ≥ 4294967296
  · rw [if_pos h1]
    have e : (n : Int) / 4294967296 = ((n / 4294967296 : Nat) : Int) := by omega
    rw [e, show (32 : Int) = ((32 : Nat) : Int) by rfl, len_j k _ 32 (by omega) (by omega)]
    have s1 := bitLen_shift n 32 (by simp only [Nat.reducePow]; omega)
    simp only [Nat.reducePow] at s1
    rw [s1]
  · rw [if_neg h1, show (0 : Int) = ((0 : Nat) : Int) by rfl, len_j k _ 0 (by omega) (by omega), Nat.zero_add]

/-! ### Div64: the second digit -/
section
variable {y s yn1 yn0 U u0 q1 : Int}
theorem l1_ends (hy : y = yn1 * 4294967296 + yn0) (h0 : 0 ≤ yn0) (h1 : yn0 < 4294967296) (hn0 : 2147483648 ≤ yn1) (hn1 : yn1 < 4294967296) (hU0 : 0 ≤ U) (hU : U < y) (hu0 : 0 ≤ u0) (hu1 : u0 < 4294967296) (hs : 0 ≤ s) :
    ∀ (d : Nat) (rhat q : Int), 4294967296 ≤ rhat + d * yn1 → 0 ≤ rhat → rhat < 4294967296 → q * yn1 + rhat = U → 0 ≤ q → q ≤ 4294967297 → (U * 4294967296 + u0) / y ≤ q →
    Ev (fun k => bits_Div64.l1 k y s yn1 yn0 u0 q1 rhat U q) (IntKind.u64.wrap (IntKind.u64.wrap (q1 * 4294967296) + (U * 4294967296 + u0) / y), shr .u64 (IntKind.u64.wrap (IntKind.u64.wrap (IntKind.u64.wrap (U * 4294967296) + u0) - IntKind.u64.wrap ((U * 4294967296 + u0) / y * y))) s) := by
  have hy0 : 0 < y := by omega
  intro d
  induction d with
  | zero => intro rhat q hd; simp at hd; omega
  | succ d ih =>
    intro rhat q hd hr0 hr1 hq hq0 hq1 hQ
    have hb : yn1 * (d + 1 : Nat) = yn1 * d + yn1 := by rw [Int.natCast_add, Int.mul_add]; simp
    have dec : (U * 4294967296 + u0) / y < q → Ev (fun k => bits_Div64.j4 k y s yn1 yn0 u0 q1 rhat U q true) (IntKind.u64.wrap (IntKind.u64.wrap (q1 * 4294967296) + (U * 4294967296 + u0) / y), shr .u64 (IntKind.u64.wrap (IntKind.u64.wrap (IntKind.u64.wrap (U * 4294967296) + u0) - IntKind.u64.wrap ((U * 4294967296 + u0) / y * y))) s) := by
      intro hlt
      have hQ0 : 0 ≤ (U * 4294967296 + u0) / y := Int.ediv_nonneg (by omega) (by omega)
      refine Ev.shift ?_
      simp only [bits_Div64.j4, if_true]
      have e1 : IntKind.u64.wrap (rhat + yn1) = rhat + yn1 := w64 (by omega) (by omega)
      have e2 : IntKind.u64.wrap (q - 1) = q - 1 := w64 (by omega) (by omega)
      rw [e1, e2]
      by_cases hbr : rhat + yn1 ≥ 4294967296
      · have hle : (q - 1) * yn0 ≤ 4294967296 * 4294967295 := Int.mul_le_mul (by omega) (by omega) h0 (by omega)
        have hlow : (q - 1) * y ≤ U * 4294967296 + u0 := digit_low hy (rhat := rhat + yn1) (by rw [Int.sub_mul]; omega) (by omega)
        have := Int.le_ediv_of_mul_le hy0 hlow
        have e : q - 1 = (U * 4294967296 + u0) / y := by omega
        rw [e]
        simp only [if_pos hbr, if_pos hs]
        exact Ev.now _
      · simp only [if_neg hbr]
        refine ih (rhat + yn1) (q - 1) ?_ (by omega) (by omega) (by rw [Int.sub_mul]; omega) (by omega) (by omega) (by omega)
        rw [Int.mul_comm] at hd
        rw [Int.mul_comm (d : Int)]
        omega
    refine Ev.shift ?_
    simp only [bits_Div64.l1]
    by_cases hB : q ≥ 4294967296
    · simp only [if_pos hB]
      exact dec (by have := digit_lt hy0 hU hu1; omega)
    · simp only [if_neg hB]
      have hm : q * yn0 ≤ 4294967295 * 4294967295 := Int.mul_le_mul (by omega) (by omega) h0 (by omega)
      have hm0 : 0 ≤ q * yn0 := Int.mul_nonneg hq0 h0
      have e1 : IntKind.u64.wrap (q * yn0) = q * yn0 := w64 hm0 (by omega)
      have e2 : IntKind.u64.wrap (4294967296 * rhat) = 4294967296 * rhat := w64 (by omega) (by omega)
      have e3 : IntKind.u64.wrap (4294967296 * rhat + u0) = 4294967296 * rhat + u0 := w64 (by omega) (by omega)
      rw [e1, e2, e3]
      by_cases ht : q * yn0 > 4294967296 * rhat + u0
      · rw [decide_eq_true ht]
        refine dec ?_
        have := digit_high hy hq ht
        have := Int.ediv_lt_of_lt_mul hy0 this
        omega
      · rw [decide_eq_false ht]
        have hlow := digit_low (u1 := u0) hy hq (by omega)
        have := Int.le_ediv_of_mul_le hy0 hlow
        have e : q = (U * 4294967296 + u0) / y := by omega
        refine Ev.shift ?_
        simp only [bits_Div64.j4, Bool.false_eq_true, if_false, if_pos hs]
        rw [e]
        exact Ev.now _
/-! ### The first digit -/
theorem l0_ends {u1 : Int} {r : Int × Int} (hy : y = yn1 * 4294967296 + yn0) (h0 : 0 ≤ yn0) (h1 : yn0 < 4294967296) (hn0 : 2147483648 ≤ yn1) (hn1 : yn1 < 4294967296) (hU0 : 0 ≤ U) (hU : U < y) (hu0 : 0 ≤ u1) (hu1 : u1 < 4294967296)
    (hK : Ev (fun k => bits_Div64.j2 k y s yn1 yn0 U u1 u0 ((U * 4294967296 + u1) / y)) r) :
    ∀ (d : Nat) (rhat q : Int), 4294967296 ≤ rhat + d * yn1 → 0 ≤ rhat → rhat < 4294967296 → q * yn1 + rhat = U → 0 ≤ q → q ≤ 4294967297 → (U * 4294967296 + u1) / y ≤ q →
    Ev (fun k => bits_Div64.l0 k y s yn1 yn0 U u1 u0 q rhat) r := by
  have hy0 : 0 < y := by omega
  intro d
  induction d with
  | zero => intro rhat q hd; simp at hd; omega
  | succ d ih =>
    intro rhat q hd hr0 hr1 hq hq0 hq1 hQ
    have hb : yn1 * (d + 1 : Nat) = yn1 * d + yn1 := by rw [Int.natCast_add, Int.mul_add]; simp
    have dec : (U * 4294967296 + u1) / y < q → Ev (fun k => bits_Div64.j1 k y s yn1 yn0 U u1 u0 q rhat true) r := by
      intro hlt
      have hQ0 : 0 ≤ (U * 4294967296 + u1) / y := Int.ediv_nonneg (by omega) (by omega)
      refine Ev.shift ?_
      simp only [bits_Div64.j1, if_true]
      have e1 : IntKind.u64.wrap (rhat + yn1) = rhat + yn1 := w64 (by omega) (by omega)
      have e2 : IntKind.u64.wrap (q - 1) = q - 1 := w64 (by omega) (by omega)
      rw [e1, e2]
      by_cases hbr : rhat + yn1 ≥ 4294967296
      · have hle : (q - 1) * yn0 ≤ 4294967296 * 4294967295 := Int.mul_le_mul (by omega) (by omega) h0 (by omega)
        have hlow : (q - 1) * y ≤ U * 4294967296 + u1 := digit_low hy (rhat := rhat + yn1) (by rw [Int.sub_mul]; omega) (by omega)
        have := Int.le_ediv_of_mul_le hy0 hlow
        have e : q - 1 = (U * 4294967296 + u1) / y := by omega
        rw [e]
        simp only [if_pos hbr]
        exact hK
      · simp only [if_neg hbr]
        refine ih (rhat + yn1) (q - 1) ?_ (by omega) (by omega) (by rw [Int.sub_mul]; omega) (by omega) (by omega) (by omega)
        rw [Int.mul_comm] at hd
        rw [Int.mul_comm (d : Int)]
        omega
    refine Ev.shift ?_
    simp only [bits_Div64.l0]
    by_cases hB : q ≥ 4294967296
    · simp only [if_pos hB]
      exact dec (by have := digit_lt hy0 hU hu1; omega)
    · simp only [if_neg hB]
      have hm : q * yn0 ≤ 4294967295 * 4294967295 := Int.mul_le_mul (by omega) (by omega) h0 (by omega)
      have hm0 : 0 ≤ q * yn0 := Int.mul_nonneg hq0 h0
      have e1 : IntKind.u64.wrap (q * yn0) = q * yn0 := w64 hm0 (by omega)
      have e2 : IntKind.u64.wrap (4294967296 * rhat) = 4294967296 * rhat := w64 (by omega) (by omega)
      have e3 : IntKind.u64.wrap (4294967296 * rhat + u1) = 4294967296 * rhat + u1 := w64 (by omega) (by omega)
      rw [e1, e2, e3]
      by_cases ht : q * yn0 > 4294967296 * rhat + u1
      · rw [decide_eq_true ht]
        refine dec ?_
        have := digit_high hy hq ht
        have := Int.ediv_lt_of_lt_mul hy0 this
        omega
      · rw [decide_eq_false ht]
        have hlow := digit_low (u1 := u1) hy hq (by omega)
        have := Int.le_ediv_of_mul_le hy0 hlow
        have e : q = (U * 4294967296 + u1) / y := by omega
        refine Ev.shift ?_
        simp only [bits_Div64.j1, Bool.false_eq_true, if_false]
        rw [e]
        exact hK
end
/-- The first guess. -/
theorem guess {U u1 y yn1 yn0 : Int} (hy : y = yn1 * 4294967296 + yn0) (h0 : 0 ≤ yn0) (h1 : yn0 < 4294967296) (hn0 : 2147483648 ≤ yn1) (hU0 : 0 ≤ U) (hU : U < y) (hu0 : 0 ≤ u1) (hu1 : u1 < 4294967296) :
    (U / yn1) * yn1 + (U - U / yn1 * yn1) = U ∧ 0 ≤ U - U / yn1 * yn1 ∧ U - U / yn1 * yn1 < yn1 ∧ 0 ≤ U / yn1 ∧ U / yn1 ≤ 4294967297 ∧ (U * 4294967296 + u1) / y ≤ U / yn1 := by
  have a := Int.emod_add_mul_ediv U yn1
  have b := Int.emod_nonneg U (show yn1 ≠ 0 by omega)
  have c := Int.emod_lt_of_pos U (show 0 < yn1 by omega)
  rw [Int.mul_comm] at a
  have d : 0 ≤ U / yn1 := Int.ediv_nonneg hU0 (by omega)
  refine ⟨by omega, by omega, by omega, d, ?_, ?_⟩
  · have : U / yn1 < 4294967298 := Int.ediv_lt_of_lt_mul (by omega) (by omega)
    omega
  · have : (U * 4294967296 + u1) / y < U / yn1 + 1 := by
      refine Int.ediv_lt_of_lt_mul (by omega) ?_
      have e : (U / yn1 + 1) * y = (U / yn1 + 1) * yn1 * 4294967296 + (U / yn1 + 1) * yn0 := by rw [hy, Int.mul_add, Int.mul_assoc]
      have f : 0 ≤ (U / yn1 + 1) * yn0 := Int.mul_nonneg (by omega) h0
      have g : (U / yn1 + 1) * yn1 = U / yn1 * yn1 + yn1 := by rw [Int.add_mul]; omega
      rw [e]
      omega
    omega
/-- Both digits, of a normed divisor. -/
theorem two_digits {y U u1 u0 : Int} (hy0 : 0 < y) :
    ((U * 4294967296 + u1) / y * 4294967296 + ((U * 4294967296 + u1 - (U * 4294967296 + u1) / y * y) * 4294967296 + u0) / y) * y + ((U * 4294967296 + u1 - (U * 4294967296 + u1) / y * y) * 4294967296 + u0 - ((U * 4294967296 + u1 - (U * 4294967296 + u1) / y * y) * 4294967296 + u0) / y * y) = U * 18446744073709551616 + (u1 * 4294967296 + u0) := by
  generalize (U * 4294967296 + u1) / y = Q1
  generalize ((U * 4294967296 + u1 - Q1 * y) * 4294967296 + u0) / y = Q0
  rw [Int.add_mul, Int.mul_right_comm]
  omega
theorem rest_bounds {n y : Int} (hy0 : 0 < y) : 0 ≤ n - n / y * y ∧ n - n / y * y < y := by
  have a := Int.emod_add_mul_ediv n y
  have b := Int.emod_nonneg n (show y ≠ 0 by omega)
  have c := Int.emod_lt_of_pos n hy0
  rw [Int.mul_comm] at a
  omega
end Go.Proofs.YthejabcfbbmkeaaDoor.PureG

/- math/bits.Div64, fix.MulDiv and the reference's: the quotient of a product, half up. -/
set_option linter.unusedVariables false
set_option linter.unusedSimpArgs false
namespace Go.Proofs.YthejabcfbbmkeaaDoor.PureG
open Go.RowKit Go.Proofs.YthejabcfbbmkeaaDoor.PG Go.Proofs.YthejabcfbbmkeaaDoor.Num Go.Proofs.YthejabcfbbmkeaaDoorW.PrintWords Go.Proofs.YthejabcfbbmkeaaDoorW.PrintLast Go.Proofs.YthejabcfbbmkeaaDoorW.PrintMore

/-- From the first digit on: both digits of the quotient by a normed divisor. -/
theorem digits_ends {y s yn1 yn0 U u1 u0 : Int} (hy : y = yn1 * 4294967296 + yn0) (h0 : 0 ≤ yn0) (h1 : yn0 < 4294967296) (hn0 : 2147483648 ≤ yn1) (hn1 : yn1 < 4294967296) (hU0 : 0 ≤ U) (hU : U < y)
    (hu10 : 0 ≤ u1) (hu11 : u1 < 4294967296) (hu0 : 0 ≤ u0) (hu1 : u0 < 4294967296) (hs0 : 0 ≤ s) (hs : s ≤ 64) :
    Ev (fun k => bits_Div64.l0 k y s yn1 yn0 U u1 u0 (U / yn1) (U - U / yn1 * yn1))
      ((U * 18446744073709551616 + (u1 * 4294967296 + u0)) / y, ((U * 18446744073709551616 + (u1 * 4294967296 + u0)) % y) / 2 ^ s.toNat) := by
  have hy0 : 0 < y := by omega
  have hyM : y < 18446744073709551616 := by omega
  obtain ⟨g1, g2, g3, g4, g5, g6⟩ := guess (u1 := u1) hy h0 h1 hn0 hU0 hU hu10 hu11
  refine l0_ends hy h0 h1 hn0 hn1 hU0 hU hu10 hu11 ?_ 2 _ _ (by omega) g2 (by omega) g1 g4 g5 g6
  have r1 := rest_bounds (n := U * 4294967296 + u1) hy0
  have q1lt := digit_lt hy0 hU hu11
  have q1ge : 0 ≤ (U * 4294967296 + u1) / y := Int.ediv_nonneg (by omega) (by omega)
  have r2 := rest_bounds (n := (U * 4294967296 + u1 - (U * 4294967296 + u1) / y * y) * 4294967296 + u0) hy0
  have q0lt := digit_lt (u1 := u0) hy0 r1.2 hu1
  have q0ge : 0 ≤ ((U * 4294967296 + u1 - (U * 4294967296 + u1) / y * y) * 4294967296 + u0) / y := Int.ediv_nonneg (by omega) (by omega)
  have two := two_digits (U := U) (u1 := u1) (u0 := u0) hy0
  generalize hQ1 : (U * 4294967296 + u1) / y = Q1 at *
  generalize hR1 : U * 4294967296 + u1 - Q1 * y = R1 at *
  generalize hQ0 : (R1 * 4294967296 + u0) / y = Q0 at *
  generalize hR0 : R1 * 4294967296 + u0 - Q0 * y = R0 at *
  have hq : (U * 18446744073709551616 + (u1 * 4294967296 + u0)) / y = Q1 * 4294967296 + Q0 := by
    refine (quot_is hy0 ?_ ?_).symm
    · omega
    · rw [Int.add_mul (Q1 * 4294967296 + Q0) 1 y]; omega
  have hr : (U * 18446744073709551616 + (u1 * 4294967296 + u0)) % y = R0 := by
    have a := Int.emod_add_mul_ediv (U * 18446744073709551616 + (u1 * 4294967296 + u0)) y
    rw [hq, Int.mul_comm y] at a
    omega
  rw [hq, hr]
  refine Ev.shift ?_
  simp only [bits_Div64.j2, if_neg (show ¬ yn1 = 0 by omega)]
  have e21 : IntKind.u64.wrap ((IntKind.u64.wrap ((IntKind.u64.wrap (U * 4294967296)) + u1)) - (IntKind.u64.wrap (Q1 * y))) = R1 := by
    simp only [IntKind.wrap_u64]
    generalize Q1 * y = z at *
    omega
  rw [e21]
  obtain ⟨g1, g2, g3, g4, g5, g6⟩ := guess (u1 := u0) hy h0 h1 hn0 r1.1 r1.2 hu0 hu1
  have et : Int.tdiv R1 yn1 = R1 / yn1 := Int.tdiv_eq_ediv_of_nonneg r1.1
  have ew : IntKind.u64.wrap (Int.tdiv R1 yn1) = R1 / yn1 := by rw [et]; exact w64 g4 (by omega)
  have er : IntKind.u64.wrap (R1 - IntKind.u64.wrap (R1 / yn1 * yn1)) = R1 - R1 / yn1 * yn1 := by
    simp only [IntKind.wrap_u64]
    generalize R1 / yn1 * yn1 = z at *
    omega
  rw [ew, er]
  have fin := l1_ends (q1 := Q1) hy h0 h1 hn0 hn1 r1.1 r1.2 hu0 hu1 hs0 2 _ _ (by omega) g2 (by omega) g1 g4 g5 g6
  rw [hQ0] at fin
  have f1 : IntKind.u64.wrap (IntKind.u64.wrap (Q1 * 4294967296) + Q0) = Q1 * 4294967296 + Q0 := by
    simp only [IntKind.wrap_u64]
    omega
  have f2 : IntKind.u64.wrap (IntKind.u64.wrap (IntKind.u64.wrap (R1 * 4294967296) + u0) - IntKind.u64.wrap (Q0 * y)) = R0 := by
    simp only [IntKind.wrap_u64]
    generalize Q0 * y = z at *
    omega
  rw [f1, f2, shr64 hs0 hs] at fin
  exact fin

theorem lead_f (k : Nat) (n : Nat) (h : n < 18446744073709551616) : bits_LeadingZeros64.f (k + 1) n = some ((64 : Int) - (bitLen n : Nat)) := by
  unfold bits_LeadingZeros64.f
  have := bitLen64 (n := n) (b := 64) (by simpa using h)
  rw [len64_f k n h]
  simp only [Option.bind_some]
  rw [i64in (by omega) (by omega)]

theorem tmodn {x m : Int} (h : 0 ≤ x) : Int.tmod x m = x % m := Int.tmod_eq_emod_of_nonneg h

theorem pow_split (s : Nat) (h : s ≤ 64) : (2 : Int) ^ s * 2 ^ (64 - s) = 18446744073709551616 := by
  rw [← Int.pow_add, show s + (64 - s) = 64 by omega]; rfl

theorem div64_f {hi lo y : Int} (h0 : 0 ≤ hi) (l0 : 0 ≤ lo) (l1 : lo < 18446744073709551616) (hy : hi < y) (hyM : y < 18446744073709551616) :
    Ev (fun k => bits_Div64.f k hi lo y) ((hi * 18446744073709551616 + lo) / y, (hi * 18446744073709551616 + lo) % y) := by
  have hy0 : 0 < y := by omega
  unfold bits_Div64.f
  simp only [if_neg (show ¬ y = 0 by omega), if_neg (show ¬ y ≤ hi by omega)]
  by_cases hz : hi = 0
  · subst hz
    simp only [if_true]
    refine Ev.ofEq ?_
    have a : 0 ≤ lo / y := Int.ediv_nonneg l0 (by omega)
    have b : lo / y ≤ lo := Int.ediv_le_self _ l0
    rw [Int.tdiv_eq_ediv_of_nonneg l0, tmodn l0, w64 a (by omega)]
    simp
  · simp only [if_neg hz]
    obtain ⟨n, rfl⟩ := Int.eq_ofNat_of_zero_le (show 0 ≤ y by omega)
    have hnM : n < 18446744073709551616 := by omega
    have hb := bitLen_spec n
    have hb64 := bitLen64 (n := n) (b := 64) (by simpa using hnM)
    have hb1 : 1 ≤ bitLen n := by unfold bitLen; rw [if_neg (by omega)]; omega
    refine Ev.shift ?_
    simp only [lead_f _ n hnM, Option.bind_some]
    have hs : ∃ s : Nat, s = 64 - bitLen n ∧ s < 64 := ⟨_, rfl, by omega⟩
    obtain ⟨s, hse, hs64⟩ := hs
    have es : (64 : Int) - (bitLen n : Nat) = (s : Nat) := by omega
    rw [es]
    have ews : IntKind.u64.wrap ((s : Nat) : Int) = (s : Int) := w64 (by omega) (by omega)
    have ews2 : IntKind.u64.wrap (64 - (s : Int)) = ((64 - s : Nat) : Int) := by rw [w64 (by omega) (by omega)]; omega
    rw [ews, ews2]
    simp only [if_pos (show (0 : Int) ≤ (s : Int) by omega), if_pos (show (0 : Int) ≤ ((64 - s : Nat) : Int) by omega)]
    -- the powers
    have hp := pow_split s (by omega)
    have hS0 : (0 : Int) < 2 ^ s := Int.pow_pos (by omega)
    have hT0 : (0 : Int) < 2 ^ (64 - s) := Int.pow_pos (by omega)
    have hlt : (n : Int) < 2 ^ (64 - s) := by
      have h1 := hb.1
      rw [show bitLen n = 64 - s by omega] at h1
      exact_mod_cast h1
    have hge : (2 : Int) ^ 63 ≤ n * 2 ^ s := by
      have h1 := hb.2 (by omega)
      rw [show bitLen n - 1 = 63 - s by omega] at h1
      have h2 : (2 : Int) ^ (63 - s) ≤ n := by exact_mod_cast h1
      have h3 : (2 : Int) ^ 63 = 2 ^ (63 - s) * 2 ^ s := by rw [← Int.pow_add, show 63 - s + s = 63 by omega]
      rw [h3]
      exact Int.mul_le_mul_of_nonneg_right h2 (by omega)
    have hyS : (n : Int) * 2 ^ s < 18446744073709551616 := by
      rw [← hp, Int.mul_comm (2 ^ s)]
      exact Int.mul_lt_mul_of_pos_right hlt hS0
    have hhS : hi * 2 ^ s < n * 2 ^ s := Int.mul_lt_mul_of_pos_right hy hS0
    have hhS0 : 0 ≤ hi * 2 ^ s := Int.mul_nonneg h0 (by omega)
    have esl : ∀ x : Int, shl .u64 x (s : Int) = (x * 2 ^ s) % 18446744073709551616 := fun x => by rw [shl64 (by omega) (by omega)]; simp
    have esr : shr .u64 lo ((64 - s : Nat) : Int) = lo / 2 ^ (64 - s) := by rw [shr64 (by omega) (by omega)]; simp
    have hq0 : 0 ≤ lo / 2 ^ (64 - s) := Int.ediv_nonneg l0 (by omega)
    have hq1 : lo / 2 ^ (64 - s) < 2 ^ s := Int.ediv_lt_of_lt_mul hT0 (by rw [hp]; exact l1)
    have hlo := Int.emod_add_mul_ediv lo (2 ^ (64 - s))
    have hm0 := Int.emod_nonneg lo (show (2 : Int) ^ (64 - s) ≠ 0 by omega)
    have hm1 := Int.emod_lt_of_pos lo hT0
    -- lo shifted: what leaves, and what stays
    have hloS : lo * 2 ^ s = lo / 2 ^ (64 - s) * 18446744073709551616 + lo % 2 ^ (64 - s) * 2 ^ s := by
      have : lo * 2 ^ s = (lo % 2 ^ (64 - s) + 2 ^ (64 - s) * (lo / 2 ^ (64 - s))) * 2 ^ s := by rw [hlo]
      rw [this, Int.add_mul, Int.mul_right_comm, Int.mul_comm (2 ^ (64 - s)) (2 ^ s), hp, Int.mul_comm (18446744073709551616 : Int)]
      omega
    have hst0 : 0 ≤ lo % 2 ^ (64 - s) * 2 ^ s := Int.mul_nonneg hm0 (by omega)
    have hst1 : lo % 2 ^ (64 - s) * 2 ^ s < 18446744073709551616 := by
      rw [← hp, Int.mul_comm (2 ^ s)]
      exact Int.mul_lt_mul_of_pos_right hm1 hS0
    have e10 : shl .u64 lo (s : Int) = lo % 2 ^ (64 - s) * 2 ^ s := by rw [esl, hloS]; omega
    have eY : shl .u64 (n : Int) (s : Int) = n * 2 ^ s := by rw [esl]; exact Int.emod_eq_of_lt (Int.mul_nonneg (by omega) (by omega)) hyS
    have eH : shl .u64 hi (s : Int) = hi * 2 ^ s := by rw [esl]; exact Int.emod_eq_of_lt hhS0 (by omega)
    have hMs : (2 : Int) ^ s ≤ 18446744073709551616 := by
      rw [← hp]
      have : (2 : Int) ^ s * 1 ≤ 2 ^ s * 2 ^ (64 - s) := Int.mul_le_mul_of_nonneg_left (by omega) (by omega)
      omega
    have eU : Go.bits .or .u64 (hi * 2 ^ s) (lo / 2 ^ (64 - s)) = hi * 2 ^ s + lo / 2 ^ (64 - s) :=
      or_join s hhS0 (by omega) (Int.mul_emod_left ..) hq0 (by omega) hq1
    rw [e10, eY, eH, esr, eU]
    have hU : hi * 2 ^ s + lo / 2 ^ (64 - s) < n * 2 ^ s := by
      have : (hi + 1) * 2 ^ s ≤ n * 2 ^ s := Int.mul_le_mul_of_nonneg_right (by omega) (by omega)
      rw [Int.add_mul] at this
      omega
    have all : (hi * 2 ^ s + lo / 2 ^ (64 - s)) * 18446744073709551616 + lo % 2 ^ (64 - s) * 2 ^ s = (hi * 18446744073709551616 + lo) * 2 ^ s := by
      rw [Int.add_mul, Int.add_mul, hloS, Int.mul_right_comm]
      omega
    have eqq : (hi * 18446744073709551616 + lo) * 2 ^ s / (n * 2 ^ s) = (hi * 18446744073709551616 + lo) / n := Int.mul_ediv_mul_of_pos_left _ _ hS0
    have eqr : (hi * 18446744073709551616 + lo) * 2 ^ s % (n * 2 ^ s) / 2 ^ s = (hi * 18446744073709551616 + lo) % n := by
      rw [Int.mul_comm _ (2 ^ s), Int.mul_comm (n : Int) (2 ^ s), Int.mul_emod_mul_of_pos _ _ hS0, Int.mul_ediv_cancel_left _ (by omega)]
    have hU0 : 0 ≤ hi * 2 ^ s + lo / 2 ^ (64 - s) := by omega
    have h63 : (2 : Int) ^ 63 = 9223372036854775808 := by rfl
    rw [h63] at hge
    generalize (n : Int) * 2 ^ s = Y at *
    generalize hi * 2 ^ s + lo / 2 ^ (64 - s) = U at *
    generalize lo % 2 ^ (64 - s) * 2 ^ s = L at *
    have key := digits_ends (s := (s : Int)) (y := Y) (yn1 := Y / 4294967296) (yn0 := Y % 4294967296) (U := U) (u1 := L / 4294967296) (u0 := L % 4294967296) (by omega) (by omega) (by omega) (by omega) (by omega) (by omega) hU (by omega) (by omega) (by omega) (by omega) (by omega) (by omega)
    have eL : L / 4294967296 * 4294967296 + L % 4294967296 = L := by omega
    rw [eL, all, eqq, show ((s : Int)).toNat = s by simp, eqr] at key
    rw [and_mask32 (x := Y) (by omega) (by omega), and_mask32 (x := L) (by omega) (by omega)]
    simp only [if_neg (show ¬ Y / 4294967296 = 0 by omega)]
    have et : Int.tdiv U (Y / 4294967296) = U / (Y / 4294967296) := Int.tdiv_eq_ediv_of_nonneg hU0
    obtain ⟨g1, g2, g3, g4, g5, g6⟩ := guess (y := Y) (yn1 := Y / 4294967296) (yn0 := Y % 4294967296) (U := U) (u1 := L / 4294967296) (by omega) (by omega) (by omega) (by omega) hU0 hU (by omega) (by omega)
    have ew : IntKind.u64.wrap (Int.tdiv U (Y / 4294967296)) = U / (Y / 4294967296) := by rw [et]; exact w64 g4 (by omega)
    have er : IntKind.u64.wrap (U - IntKind.u64.wrap (U / (Y / 4294967296) * (Y / 4294967296))) = U - U / (Y / 4294967296) * (Y / 4294967296) := by
      simp only [IntKind.wrap_u64]
      generalize U / (Y / 4294967296) * (Y / 4294967296) = z at *
      omega
    rw [ew, er]
    exact Ev.later key
end Go.Proofs.YthejabcfbbmkeaaDoor.PureG

/- MulDiv: the product's quotient, half up. -/
set_option linter.unusedVariables false
set_option linter.unusedSimpArgs false
namespace Go.Proofs.YthejabcfbbmkeaaDoor.PureG
open Go.RowKit Go.Proofs.YthejabcfbbmkeaaDoor.PG Go.Proofs.YthejabcfbbmkeaaDoor.Num Go.Proofs.YthejabcfbbmkeaaDoorW.PrintWords Go.Proofs.YthejabcfbbmkeaaDoorW.PrintLast Go.Proofs.YthejabcfbbmkeaaDoorW.PrintMore

/-- The product's sign. -/
theorem prod_sign (a b : Int) : a * b = if (decide (a < 0) != decide (b < 0)) = true then -((a.natAbs : Int) * (b.natAbs : Int)) else (a.natAbs : Int) * (b.natAbs : Int) := by
  by_cases ha : a < 0 <;> by_cases hb : b < 0
  · have e1 : (a.natAbs : Int) = -a := by omega
    have e2 : (b.natAbs : Int) = -b := by omega
    simp [ha, hb, e1, e2, Int.neg_mul, Int.mul_neg]
  · have e1 : (a.natAbs : Int) = -a := by omega
    have e2 : (b.natAbs : Int) = b := by omega
    simp [ha, hb, e1, e2, Int.neg_mul, Int.mul_neg]
  · have e1 : (a.natAbs : Int) = a := by omega
    have e2 : (b.natAbs : Int) = -b := by omega
    simp [ha, hb, e1, e2, Int.neg_mul, Int.mul_neg]
  · have e1 : (a.natAbs : Int) = a := by omega
    have e2 : (b.natAbs : Int) = b := by omega
    simp [ha, hb, e1, e2, Int.neg_mul, Int.mul_neg]
theorem mulDiv_sign {a b c : Int} (hc : c ≠ 0) :
    mulDiv a b c = halfUp (if (!((!((decide (a < 0)) == (decide (b < 0)))) == (decide (c < 0)))) = true then -((a.natAbs : Int) * (b.natAbs : Int)) else (a.natAbs : Int) * (b.natAbs : Int)) (c.natAbs : Int) := by
  unfold mulDiv
  have hs := prod_sign a b
  by_cases h : c < 0
  · have e : (c.natAbs : Int) = -c := by omega
    rw [if_pos h, e, hs]
    by_cases h1 : a < 0 <;> by_cases h2 : b < 0 <;> simp [h, h1, h2]
  · have e : (c.natAbs : Int) = c := by omega
    rw [if_neg h, e, hs]
    by_cases h1 : a < 0 <;> by_cases h2 : b < 0 <;> simp [h, h1, h2]

/-- What MulDiv answers. -/
def mulDivA (a b c : Int) : Int × Int := if c = 0 then (0, 6) else fits (mulDiv a b c)

theorem muldiv_f {a b c : Int} (ha : (Lit.int .i64 a).wf = true) (hb : (Lit.int .i64 b).wf = true) (hc : (Lit.int .i64 c).wf = true) :
    Ev (fun k => fix_MulDiv.f k a b c) (mulDivA a b c) := by
  have wa := wf64 ha
  have wb := wf64 hb
  have wc := wf64 hc
  unfold fix_MulDiv.f mulDivA
  by_cases h0 : c = 0
  · simp only [if_pos h0]
    exact Ev.now _
  · simp only [if_neg h0]
    have hna : (0 : Int) ≤ (a.natAbs : Int) ∧ (a.natAbs : Int) ≤ 9223372036854775808 := by omega
    have hnb : (0 : Int) ≤ (b.natAbs : Int) ∧ (b.natAbs : Int) ≤ 9223372036854775808 := by omega
    have hnc : (0 : Int) < (c.natAbs : Int) ∧ (c.natAbs : Int) ≤ 9223372036854775808 := by omega
    have hsg := mulDiv_sign (a := a) (b := b) h0
    simp only [size_f wa.1 wa.2, size_f wb.1 wb.2, size_f wc.1 wc.2, Option.bind_some]
    generalize (c.natAbs : Int) = d at *
    have hN0 : 0 ≤ (a.natAbs : Int) * (b.natAbs : Int) := Int.mul_nonneg hna.1 hnb.1
    have hN1 : (a.natAbs : Int) * (b.natAbs : Int) ≤ 9223372036854775808 * 9223372036854775808 := Int.mul_le_mul hna.2 hnb.2 hnb.1 (by omega)
    rw [mul64_f hna.1 (by omega) hnb.1 (by omega)]
    simp only [Option.bind_some, if_neg (show ¬ d = 0 by omega)]
    generalize hneg : (!((!((decide (a < 0)) == (decide (b < 0)))) == (decide (c < 0)))) = neg at *
    generalize (a.natAbs : Int) * (b.natAbs : Int) = N at *
    have hh0 : 0 ≤ N / 18446744073709551616 := by omega
    have hm0 := Int.emod_nonneg (N / 18446744073709551616) (show d ≠ 0 by omega)
    have hm1 := Int.emod_lt_of_pos (N / 18446744073709551616) hnc.1
    have hme := Int.emod_add_mul_ediv (N / 18446744073709551616) d
    have htop : 0 ≤ N / 18446744073709551616 / d := Int.ediv_nonneg hh0 (by omega)
    have htop1 : N / 18446744073709551616 / d ≤ N / 18446744073709551616 := Int.ediv_le_self _ hh0
    have dv := div64_f (hi := N / 18446744073709551616 % d) (lo := N % 18446744073709551616) (y := d) hm0 (by omega) (by omega) hm1 (by omega)
    rw [tmodn hh0, Int.tdiv_eq_ediv_of_nonneg hh0, w64 htop (by omega)]
    refine Ev.bind dv ?_
    have hq0 : 0 ≤ (N / 18446744073709551616 % d * 18446744073709551616 + N % 18446744073709551616) / d := Int.ediv_nonneg (by omega) (by omega)
    have hq1 : (N / 18446744073709551616 % d * 18446744073709551616 + N % 18446744073709551616) / d < 18446744073709551616 := Int.ediv_lt_of_lt_mul hnc.1 (by
      have : (N / 18446744073709551616 % d + 1) * 18446744073709551616 ≤ d * 18446744073709551616 := by omega
      omega)
    have hr := Int.emod_add_mul_ediv (N / 18446744073709551616 % d * 18446744073709551616 + N % 18446744073709551616) d
    have hr0 := Int.emod_nonneg (N / 18446744073709551616 % d * 18446744073709551616 + N % 18446744073709551616) (show d ≠ 0 by omega)
    have hr1 := Int.emod_lt_of_pos (N / 18446744073709551616 % d * 18446744073709551616 + N % 18446744073709551616) hnc.1
    generalize (N / 18446744073709551616 % d * 18446744073709551616 + N % 18446744073709551616) % d = r at *
    generalize (N / 18446744073709551616 % d * 18446744073709551616 + N % 18446744073709551616) / d = q at *
    have hNe : N = (N / 18446744073709551616 / d * 18446744073709551616 + q) * d + r := by
      rw [Int.add_mul, Int.mul_right_comm, Int.mul_comm (N / 18446744073709551616 / d) d, Int.mul_comm q d]
      omega
    have hU := halfUp_mag hnc.1 hNe hr0 hr1 neg
    rw [hsg, hU]
    generalize N / 18446744073709551616 / d = top at *
    have el : IntKind.u64.wrap (d - r) = d - r := w64 (by omega) (by omega)
    simp only [el]
    have up : Ev (fun k => fix_MulDiv.j0 k neg top q true) (fits (if neg = true then -(top * 18446744073709551616 + q + 1) else top * 18446744073709551616 + q + 1)) := by
      refine Ev.shift (Ev.shift ?_)
      simp only [fix_MulDiv.j0, if_true, show c01 0 = true by rfl]
      have ec : u64car q 1 0 = (q + 1) / 18446744073709551616 := by unfold u64car; simp; omega
      have ea : u64add q 1 0 = (q + 1) % 18446744073709551616 := by unfold u64add; simp; omega
      rw [ec, ea, w64 (by omega) (by omega)]
      simp only [number_f _ neg (hi := top + (q + 1) / 18446744073709551616) (lo := (q + 1) % 18446744073709551616) (by omega) (by omega) (by omega), Option.bind_some]
      have e : (top + (q + 1) / 18446744073709551616) * 18446744073709551616 + (q + 1) % 18446744073709551616 = top * 18446744073709551616 + q + 1 := by omega
      rw [e]
      exact Ev.pair _
    have down : Ev (fun k => fix_MulDiv.j0 k neg top q false) (fits (if neg = true then -(top * 18446744073709551616 + q) else top * 18446744073709551616 + q)) := by
      refine Ev.shift (Ev.shift ?_)
      simp only [fix_MulDiv.j0, Bool.false_eq_true, if_false]
      simp only [number_f _ neg (hi := top) (lo := q) htop hq0 hq1, Option.bind_some]
      exact Ev.pair _
    by_cases h1 : r > d - r
    · simp only [if_pos h1, if_pos (show r ≥ d - r by omega)]
      exact up
    · simp only [if_neg h1]
      by_cases h2 : r = d - r
      · simp only [if_pos h2, if_pos (show r ≥ d - r by omega)]
        cases neg
        · simp only [Bool.not_false, Bool.false_eq_true, if_false] at up ⊢
          exact up
        · simp only [Bool.not_true, if_true] at down ⊢
          exact down
      · simp only [if_neg h2, if_neg (show ¬ r ≥ d - r by omega)]
        exact down
end Go.Proofs.YthejabcfbbmkeaaDoor.PureG

/- Layer 1: what awake answers; fix.Text, fix.Div, fix.Sum, fix.Add. -/
set_option linter.unusedVariables false
set_option linter.unusedSimpArgs false
namespace Go.Proofs.YthejabcfbbmkeaaDoor.PureG
open Go.RowKit Go.Proofs.YthejabcfbbmkeaaDoor.PG Go.Proofs.YthejabcfbbmkeaaDoor.Num Go.Proofs.YthejabcfbbmkeaaDoorW.PrintWords Go.Proofs.YthejabcfbbmkeaaDoorW.PrintLast Go.Proofs.YthejabcfbbmkeaaDoorW.PrintMore

theorem text_f {n : Int} (h0 : -9223372036854775808 ≤ n) (h1 : n ≤ 9223372036854775807) : fix_Text.f n = some ⟨(Lib.itoa n).toArray⟩ := by
  unfold fix_Text.f Hand.textA
  rw [if_pos ⟨h0, h1⟩]
theorem itoa_m7 : Lib.itoa (-7) = [45, 55] := by
  unfold Lib.itoa
  rw [if_pos (by omega), show (-7 : Int).natAbs = 7 by rfl, Lib.decDigits, dif_pos (by omega)]
  rfl
theorem awake_ev : Ev (fun k => pylonlaw01_awake.f k) true := by
  unfold pylonlaw01_awake.f
  refine Ev.bind (muldiv_f (a := 3) (b := 1) (c := 2) (by decide) (by decide) (by decide)) ?_
  have e : mulDivA 3 1 2 = (2, 0) := by decide
  rw [e, text_f (by omega) (by omega), itoa_m7]
  simp only [if_true, Option.bind_some]
  have e2 : (ByteArray.mk #[45, 55]).toList = [45, 55] := by rw [ByteArray.toList_eq]
  show Ev (fun k => some ((ByteArray.mk #[45, 55]).toList == [45, 55])) true
  rw [e2]
  exact Ev.now _
/-- What Go's quotient and rest are. -/
theorem tdiv_facts (a : Int) {b : Int} (hb : b ≠ 0) : a.tdiv b * b + a.tmod b = a ∧ (0 ≤ a → 0 ≤ a.tmod b) ∧ (a ≤ 0 → a.tmod b ≤ 0) ∧ (a.tmod b).natAbs < b.natAbs ∧ (a.tdiv b).natAbs ≤ a.natAbs := by
  refine ⟨?_, fun h => Int.tmod_nonneg b h, ?_, ?_, ?_⟩
  · have := Int.mul_tdiv_add_tmod a b
    rw [Int.mul_comm] at this; exact this
  · intro h
    have := Int.tmod_nonneg b (show 0 ≤ -a by omega)
    rw [Int.neg_tmod] at this; omega
  · rw [Int.natAbs_tmod]; exact Nat.mod_lt _ (by omega)
  · rw [Int.natAbs_tdiv]; exact Nat.div_le_self _ _
/-- Div: the quotient whose rest is not below 0. -/
theorem div_f {a b : Int} (hb : b ≠ 0) (a0 : -9223372036854775808 ≤ a) (a1 : a ≤ 9223372036854775807) (b0 : -9223372036854775808 ≤ b) (b1 : b ≤ 9223372036854775807) (hn : ¬ (a = -9223372036854775808 ∧ b = -1)) :
    ∃ q r : Int, Ev (fun k => fix_Div.f k a b) (q, r, 0) ∧ q * b + r = a ∧ 0 ≤ r ∧ r < b.natAbs ∧ -9223372036854775808 ≤ q ∧ q ≤ 9223372036854775807 ∧ q.natAbs ≤ a.natAbs + 1 := by
  obtain ⟨h1, h2, h3, h4, h5⟩ := tdiv_facts a hb
  have hq : b = -1 → a.tdiv b = -a := fun h => by subst h; rw [Int.tdiv_neg, Int.tdiv_one]
  have hq1 : b = 1 → a.tdiv b = a := fun h => by subst h; rw [Int.tdiv_one]
  have hr1 : b = 1 ∨ b = -1 → a.tmod b = 0 := by rintro (rfl | rfl) <;> omega
  have hbig : b ≠ 1 → b ≠ -1 → (a.tdiv b).natAbs ≤ 4611686018427387904 := by
    intro c1 c2
    rw [Int.natAbs_tdiv]
    have : a.natAbs / b.natAbs ≤ a.natAbs / 2 := Nat.div_le_div_left (by omega) (by omega)
    exact Nat.le_trans this (by omega)
  generalize hQ : a.tdiv b = q at *
  generalize hR : a.tmod b = r at *
  have hd0 : (-9223372036854775808 : Int) ≤ q ∧ q ≤ 9223372036854775807 := by
    by_cases c1 : b = 1
    · have := hq1 c1; omega
    · by_cases c2 : b = -1
      · have := hq c2; omega
      · have := hbig c1 c2; omega
  have hout : Ev (fun k => fix_Div.j0 k a b false) (if r ≥ 0 then (q, r, 0) else if b > 0 then (q - 1, r + b, 0) else (q + 1, r - b, 0)) := by
    refine Ev.shift ?_
    simp only [fix_Div.j0, Bool.false_eq_true, if_false, if_neg hb, hQ, hR]
    by_cases c : r ≥ 0
    · simp only [if_pos c, i64in hd0.1 hd0.2]; exact Ev.now _
    · have c1 : b ≠ 1 := fun h => by have := hr1 (.inl h); omega
      have c2 : b ≠ -1 := fun h => by have := hr1 (.inr h); omega
      have := hbig c1 c2
      simp only [if_neg c, i64in hd0.1 hd0.2]
      by_cases d : b > 0
      · simp only [if_pos d]
        rw [i64in (x := q - 1) (by omega) (by omega), i64in (x := r + b) (by omega) (by omega)]
        exact Ev.now _
      · simp only [if_neg d]
        rw [i64in (x := q + 1) (by omega) (by omega), i64in (x := r - b) (by omega) (by omega)]
        exact Ev.now _
  have hf : Ev (fun k => fix_Div.f k a b) (if r ≥ 0 then (q, r, 0) else if b > 0 then (q - 1, r + b, 0) else (q + 1, r - b, 0)) := by
    unfold fix_Div.f
    simp only [if_neg hb]
    by_cases c : a = -9223372036854775808
    · simp only [if_pos c]
      rw [show (b == -1) = false by simp; omega]
      exact hout
    · simp only [if_neg c]; exact hout
  by_cases c : r ≥ 0
  · rw [if_pos c] at hf
    exact ⟨q, r, hf, h1, c, by omega, hd0.1, hd0.2, by omega⟩
  · rw [if_neg c] at hf
    have c1 : b ≠ 1 := fun h => by have := hr1 (.inl h); omega
    have c2 : b ≠ -1 := fun h => by have := hr1 (.inr h); omega
    have := hbig c1 c2
    by_cases d : b > 0
    · rw [if_pos d] at hf
      exact ⟨q - 1, r + b, hf, by rw [Int.sub_mul]; omega, by omega, by omega, by omega, by omega, by omega⟩
    · rw [if_neg d] at hf
      exact ⟨q + 1, r - b, hf, by rw [Int.add_mul]; omega, by omega, by omega, by omega, by omega, by omega⟩
theorem add_f {a b : Int} (a0 : -9223372036854775808 ≤ a) (a1 : a ≤ 9223372036854775807) (b0 : -9223372036854775808 ≤ b) (b1 : b ≤ 9223372036854775807) : fix_Add.f a b = some (fits (a + b)) := by
  unfold fix_Add.f fits
  by_cases hf : -9223372036854775808 ≤ a + b ∧ a + b ≤ 9223372036854775807
  · rw [if_pos hf, i64in hf.1 hf.2]
    by_cases hb : b > 0
    · rw [decide_eq_true (show a + b > a by omega), decide_eq_true hb]; simp
    · rw [decide_eq_false (show ¬ a + b > a by omega), decide_eq_false hb]; simp
  · rw [if_neg hf]
    by_cases hb : b > 0
    · have e : wrap64 (a + b) = a + b - 18446744073709551616 := by unfold wrap64; omega
      rw [e, decide_eq_false (show ¬ a + b - 18446744073709551616 > a by omega), decide_eq_true hb]
      rw [if_pos (by rfl), if_neg (by omega)]
    · have e : wrap64 (a + b) = a + b + 18446744073709551616 := by unfold wrap64; omega
      rw [e, decide_eq_true (show a + b + 18446744073709551616 > a by omega), decide_eq_false hb]
      rw [if_pos (by rfl), if_neg (by omega)]
def wfL1 (l : List Int) : Prop := ∀ y ∈ l, -9223372036854775808 ≤ y ∧ y ≤ 9223372036854775807
theorem rdm {p t : List Int} {q i : Int} (hi : i = p.length) : rd (p ++ q :: t) i = q := by
  subst hi; simp [rd]
theorem sum_end {l : List Int} {hi lo s i n : Int} (h : ¬ i < n) (a0 : 0 ≤ hi) (a1 : hi < 18446744073709551616) (b0 : 0 ≤ lo) (b1 : lo < 18446744073709551616)
    (hs : hi * 18446744073709551616 + lo = s ∨ hi * 18446744073709551616 + lo = s + 340282366920938463463374607431768211456) (s0 : -1361129467683753853853498429727072845824 ≤ 8 * s) (s1 : 8 * s ≤ 1361129467683753853853498429727072845823) :
    Ev (fun k => fix_Sum.l0 k hi lo l n i) (fits s) := by
  refine Ev.shift ?_
  simp only [fix_Sum.l0, if_neg h]
  have ew : wrap64 lo = if lo ≤ 9223372036854775807 then lo else lo - 18446744073709551616 := by
    split <;> (unfold wrap64; omega)
  have eu : IntKind.u64.wrap (wrap64 lo / 9223372036854775808) = if lo ≤ 9223372036854775807 then 0 else 18446744073709551615 := by
    rw [ew, IntKind.wrap_u64]; split <;> omega
  rw [eu, ew]
  unfold fits
  by_cases c : lo ≤ 9223372036854775807
  · simp only [if_pos c]
    by_cases d : hi = 0
    · simp only [if_pos d]; rw [if_pos (by omega)]
      have : s = lo := by omega
      rw [this]; exact Ev.now _
    · simp only [if_neg d]; rw [if_neg (by omega)]; exact Ev.now _
  · simp only [if_neg c]
    by_cases d : hi = 18446744073709551615
    · simp only [if_pos d]; rw [if_pos (by omega)]
      have : s = lo - 18446744073709551616 := by omega
      rw [this]; exact Ev.now _
    · simp only [if_neg d]; rw [if_neg (by omega)]; exact Ev.now _
theorem sum_loop : ∀ (t p : List Int) {l : List Int} {hi lo s i : Int}, l = p ++ t → i = p.length → (l.length : Int) ≤ 140737488355328 → wfL1 l →
    0 ≤ hi → hi < 18446744073709551616 → 0 ≤ lo → lo < 18446744073709551616 → (hi * 18446744073709551616 + lo = s ∨ hi * 18446744073709551616 + lo = s + 340282366920938463463374607431768211456) →
    -(9223372036854775808 * i) ≤ s → s ≤ 9223372036854775808 * i → Ev (fun k => fix_Sum.l0 k hi lo l (l.length : Int) i) (fits (s + t.sum))
  | [], p, l, hi, lo, s, i, hl, hi', hn, hw, a0, a1, b0, b1, hs, s0, s1 => by
    have hlen : i = l.length := by subst hl; simpa using hi'
    have := sum_end (l := l) (n := l.length) (i := i) (hi := hi) (lo := lo) (s := s) (by omega) a0 a1 b0 b1 hs (by omega) (by omega)
    simpa using this
  | q :: t, p, l, hi, lo, s, i, hl, hi', hn, hw, a0, a1, b0, b1, hs, s0, s1 => by
    have hq := hw q (by subst hl; simp)
    have hlt : i < (l.length : Int) := by subst hl; simp; omega
    have hrd : rd l i = q := by subst hl; exact rdm hi'
    have ei : wrap64 (i + 1) = i + 1 := i64in (by omega) (by omega)
    have eq : IntKind.u64.wrap q = if 0 ≤ q then q else q + 18446744073709551616 := by rw [IntKind.wrap_u64]; split <;> omega
    have eq2 : IntKind.u64.wrap (q / 9223372036854775808) = if 0 ≤ q then 0 else 18446744073709551615 := by rw [IntKind.wrap_u64]; split <;> omega
    have u0 : 0 ≤ IntKind.u64.wrap q ∧ IntKind.u64.wrap q < 18446744073709551616 := by rw [eq]; split <;> omega
    have ea : u64add lo (IntKind.u64.wrap q) 0 = (lo + IntKind.u64.wrap q) % 18446744073709551616 := by unfold u64add; simp only [Int.toNat_zero]; omega
    have ec : u64car lo (IntKind.u64.wrap q) 0 = (lo + IntKind.u64.wrap q) / 18446744073709551616 := by unfold u64car; simp only [Int.toNat_zero]; omega
    refine Ev.shift ?_
    simp only [fix_Sum.l0, if_pos hlt, if_pos (show 0 ≤ i by omega), hrd, show c01 0 = true by rfl, if_true, ei, ea, ec, eq2]
    have IH := fun (hi lo : Int) x0 x1 x2 x3 x4 => sum_loop t (p ++ [q]) (l := l) (hi := hi) (lo := lo) (s := s + q) (i := i + 1) (by subst hl; simp) (by simp; omega) hn hw x0 x1 x2 x3 x4 (by omega) (by omega)
    rw [show s + (q :: t).sum = s + q + t.sum by rw [List.sum_cons]; omega]
    refine IH _ _ ?_ ?_ ?_ ?_ ?_
    · rw [IntKind.wrap_u64]; omega
    · rw [IntKind.wrap_u64]; omega
    · omega
    · omega
    · rw [eq]
      simp only [IntKind.wrap_u64]
      by_cases c : 0 ≤ q
      · simp only [if_pos c]; omega
      · simp only [if_neg c]; omega
theorem sum_f {l : List Int} (hn : (l.length : Int) ≤ 140737488355328) (hw : wfL1 l) : Ev (fun k => fix_Sum.f k l) (fits l.sum) := by
  have := sum_loop l [] (l := l) (hi := 0) (lo := 0) (s := 0) (i := 0) rfl rfl hn hw (by omega) (by omega) (by omega) (by omega) (by omega) (by omega) (by omega)
  simpa [fix_Sum.f] using this
end Go.Proofs.YthejabcfbbmkeaaDoor.PureG

/- The reference's products and signs: what the printed functions compute, as plain arithmetic. -/
set_option linter.unusedVariables false
set_option linter.unusedSimpArgs false
namespace Go.Proofs.YthejabcfbbmkeaaDoor.PureG
open Go.RowKit Go.Proofs.YthejabcfbbmkeaaDoor.PG Go.Proofs.YthejabcfbbmkeaaDoor.Num Go.Proofs.YthejabcfbbmkeaaDoorW.PrintWords Go.Proofs.YthejabcfbbmkeaaDoorW.PrintLast Go.Proofs.YthejabcfbbmkeaaDoorW.PrintMore

theorem signed_f (k : Nat) (neg : Bool) {hi lo : Int} (h0 : 0 ≤ hi) (l0 : 0 ≤ lo) (l1 : lo < 18446744073709551616) :
    pylonref01_signed.f (k + 1) neg hi lo = some (fits (if neg = true then -(hi * 18446744073709551616 + lo) else hi * 18446744073709551616 + lo)) := by
  unfold pylonref01_signed.f fits
  by_cases hh : hi = 0
  · subst hh
    cases neg
    · simp only [if_true, Bool.false_eq_true, if_false]
      by_cases hl : lo ≥ 9223372036854775808
      · rw [if_pos hl]
        simp only [pylonref01_signed.j0, if_true]
        rw [if_neg (by omega)]
      · rw [if_neg hl, if_pos (by omega)]
        simp only [pylonref01_signed.j0, Bool.false_eq_true, if_false]
        rw [i64in (by omega) (by omega)]
        simp
    · simp only [if_true, pylonref01_signed.j0]
      by_cases hl : lo > 9223372036854775808
      · rw [if_pos (by simpa using hl), if_neg (by omega)]
      · rw [if_neg (by simpa using hl)]
        have hf : (if -9223372036854775808 ≤ -(0 * 18446744073709551616 + lo) ∧ -(0 * 18446744073709551616 + lo) ≤ 9223372036854775807 then (-(0 * 18446744073709551616 + lo), (0 : Int)) else (0, 5)) = (-lo, 0) := by rw [if_pos (by omega)]; simp
        rw [hf]
        split
        · simp only [IntKind.wrap_u64]
          congr 2
          unfold wrap64
          omega
        · congr 2
          unfold wrap64
          omega
  · rw [if_neg hh]
    simp only [pylonref01_signed.j0, if_true]
    rw [if_neg (by cases neg <;> simp <;> omega)]

theorem mag_f {a : Int} (h0 : -9223372036854775808 ≤ a) (h1 : a ≤ 9223372036854775807) : pylonref01_mag.f a = some (a.natAbs : Int) := by
  unfold pylonref01_mag.f
  simp only [IntKind.wrap_u64]
  split
  · congr 1
    rw [i64in (x := a + 1) (by omega) (by omega), i64in (by omega) (by omega)]
    omega
  · congr 1
    omega

theorem product_f {a b : Int} (ha0 : 0 ≤ a) (ha : a < 18446744073709551616) (hb0 : 0 ≤ b) (hb : b < 18446744073709551616) :
    pylonref01_product.f a b = some (a * b / 18446744073709551616, a * b % 18446744073709551616) := by
  unfold pylonref01_product.f
  simp only [IntKind.wrap_u64]
  have t : ∀ x m : Int, 0 ≤ x → Int.tmod x m = x % m := fun x m h => Int.tmod_eq_emod_of_nonneg h
  simp only [t a _ ha0, t b _ hb0]
  have t2 : ∀ x : Int, Int.tmod (x % 18446744073709551616) 4294967296 = x % 18446744073709551616 % 4294967296 := fun x => t _ _ (Int.emod_nonneg _ (by omega))
  simp only [t2]
  have ex : a = a / 4294967296 * 4294967296 + a % 4294967296 := by omega
  have ey : b = b / 4294967296 * 4294967296 + b % 4294967296 := by omega
  generalize hx1 : a / 4294967296 = x1 at *
  generalize hx0 : a % 4294967296 = x0 at *
  generalize hy1 : b / 4294967296 = y1 at *
  generalize hy0 : b % 4294967296 = y0 at *
  have b1 : 0 ≤ x1 ∧ x1 ≤ 4294967295 := by omega
  have b2 : 0 ≤ x0 ∧ x0 ≤ 4294967295 := by omega
  have b3 : 0 ≤ y1 ∧ y1 ≤ 4294967295 := by omega
  have b4 : 0 ≤ y0 ∧ y0 ≤ 4294967295 := by omega
  have p11 := prod_bound x1 y1 b1.1 b1.2 b3.1 b3.2
  have p10 := prod_bound x1 y0 b1.1 b1.2 b4.1 b4.2
  have p01 := prod_bound x0 y1 b2.1 b2.2 b3.1 b3.2
  have p00 := prod_bound x0 y0 b2.1 b2.2 b4.1 b4.2
  have e : a * b = x1 * y1 * 18446744073709551616 + (x1 * y0 + x0 * y1) * 4294967296 + x0 * y0 := by rw [ex, ey, split_mul]
  rw [e]
  generalize x1 * y1 = p at *
  generalize x1 * y0 = q at *
  generalize x0 * y1 = r at *
  generalize x0 * y0 = s at *
  congr 2 <;> omega
end Go.Proofs.YthejabcfbbmkeaaDoor.PureG

/- The reference's quotient, bit by bit; MulDiv of both texts: the product's quotient, half up. -/
set_option linter.unusedVariables false
set_option linter.unusedSimpArgs false
namespace Go.Proofs.YthejabcfbbmkeaaDoor.PureG
open Go.RowKit Go.Proofs.YthejabcfbbmkeaaDoor.PG Go.Proofs.YthejabcfbbmkeaaDoor.Num Go.Proofs.YthejabcfbbmkeaaDoorW.PrintWords Go.Proofs.YthejabcfbbmkeaaDoorW.PrintLast Go.Proofs.YthejabcfbbmkeaaDoorW.PrintMore

/-- One bit: what is brought down, and whether the divisor goes into it. -/
theorem bit_step {w r0 d c r : Int} {i : Nat} (hi : i < 64) (hd : 0 < d) (h : r0 * 2 ^ (64 - (i + 1)) + w / 2 ^ (i + 1) = c * d + r) :
    r0 * 2 ^ (64 - i) + w / 2 ^ i = 2 * c * d + (2 * r + w / 2 ^ i % 2) := by
  have e1 : (2 : Int) ^ (64 - i) = 2 ^ (64 - (i + 1)) * 2 := by rw [show 64 - i = 64 - (i + 1) + 1 by omega, Int.pow_succ]
  have e2 : w / 2 ^ (i + 1) = w / 2 ^ i / 2 := by rw [Int.pow_succ, Int.ediv_ediv_of_nonneg (by exact Int.le_of_lt (Int.pow_pos (by omega)))]
  rw [e2] at h
  rw [e1, ← Int.mul_assoc, Int.mul_assoc 2 c d]
  generalize r0 * 2 ^ (64 - (i + 1)) = z at *
  generalize c * d = y at *
  omega
theorem pow_le64 {i : Nat} (h : i ≤ 64) : (2 : Int) ^ i ≤ 18446744073709551616 := by
  rw [← pow_split i h]
  have h1 : (0 : Int) < 2 ^ i := Int.pow_pos (by omega)
  have h2 : (0 : Int) < 2 ^ (64 - i) := Int.pow_pos (by omega)
  have : (2 : Int) ^ i * 1 ≤ 2 ^ i * 2 ^ (64 - i) := Int.mul_le_mul_of_nonneg_left (by omega) (by omega)
  omega
/-- The next quotient's bits: c' * 2^i, c' either 2c or 2c+1. -/
theorem or_bit {c q : Int} {i : Nat} (hi : i < 64) (hq : q = c * 2 ^ (i + 1)) (hc0 : 0 ≤ c) (hc : c < 2 ^ (64 - (i + 1))) :
    Go.bits .or .u64 q (shl .u64 1 (i : Int)) = (2 * c + 1) * 2 ^ i := by
  have hp : (0 : Int) < 2 ^ i := Int.pow_pos (by omega)
  have hl := pow_le64 (i := i + 1) (by omega)
  have e : (2 : Int) ^ (i + 1) = 2 * 2 ^ i := by rw [Int.pow_succ, Int.mul_comm]
  have es : shl .u64 1 (i : Int) = 2 ^ i := by
    rw [shl64 (by omega) (by omega)]
    simp only [Int.one_mul, Int.toNat_natCast]
    exact Int.emod_eq_of_lt (by omega) (by omega)
  have hqM : q < 18446744073709551616 := by
    have h1 : c * 2 ^ (i + 1) < 2 ^ (64 - (i + 1)) * 2 ^ (i + 1) := Int.mul_lt_mul_of_pos_right hc (by omega)
    rw [← Int.pow_add, show 64 - (i + 1) + (i + 1) = 64 by omega] at h1
    rw [hq]
    exact h1
  have hq0 : 0 ≤ q := by rw [hq]; exact Int.mul_nonneg hc0 (by omega)
  rw [es, or_join (i + 1) hq0 hqM (by rw [hq]; exact Int.mul_emod_left ..) (by omega) (by omega) (by omega), hq, e, Int.add_mul, ← Int.mul_assoc, Int.mul_comm c 2]
  omega
theorem low_loop {hi lo d qh r0 : Int} (hd : 0 < d) (hdM : d < 18446744073709551616) (l0 : 0 ≤ lo) (l1 : lo < 18446744073709551616) (hr00 : 0 ≤ r0) (hr0 : r0 < d) :
    ∀ (n : Nat) (q r c : Int), n ≤ 64 → q = c * 2 ^ n → 0 ≤ c → c < 2 ^ (64 - n) → 0 ≤ r → r < d → r0 * 2 ^ (64 - n) + lo / 2 ^ n = c * d + r →
    Ev (fun k => pylonref01_quotient.l0 k hi lo d qh q r ((n : Int) - 1)) (qh, (r0 * 18446744073709551616 + lo) / d, (r0 * 18446744073709551616 + lo) % d) := by
  intro n
  induction n with
  | zero =>
    intro q r c _ hq hc0 hc h0 h1 he
    have hq' : q = c := by simpa using hq
    subst hq'
    have he' : r0 * 18446744073709551616 + lo = q * d + r := by simpa using he
    have eq : (r0 * 18446744073709551616 + lo) / d = q := (quot_is hd (by omega) (by rw [Int.add_mul]; omega)).symm
    have er : (r0 * 18446744073709551616 + lo) % d = r := by
      have a := Int.emod_add_mul_ediv (r0 * 18446744073709551616 + lo) d
      rw [eq, Int.mul_comm d] at a
      omega
    rw [eq, er]
    refine Ev.shift ?_
    simp only [pylonref01_quotient.l0]
    exact Ev.now _
  | succ i ih =>
    intro q r c hn hq hc0 hc h0 h1 he
    have hst := bit_step (by omega) hd he
    have hor := or_bit (by omega) hq hc0 hc
    have hp : (0 : Int) < 2 ^ i := Int.pow_pos (by omega)
    have hpc : (2 : Int) ^ (64 - i) = 2 ^ (64 - (i + 1)) * 2 := by rw [show 64 - i = 64 - (i + 1) + 1 by omega, Int.pow_succ]
    have ei : (((i + 1 : Nat) : Int) - 1) = (i : Int) := by omega
    rw [ei]
    refine Ev.shift ?_
    simp only [pylonref01_quotient.l0]
    have et : Int.tmod (i : Int) 64 = i := by rw [tmodn (by omega)]; omega
    have ew : IntKind.u64.wrap (i : Int) = i := w64 (by omega) (by omega)
    have eb : Go.bits .and .u64 (shr .u64 lo (i : Int)) 1 = lo / 2 ^ i % 2 := by
      rw [shr64 (by omega) (by omega), Int.toNat_natCast]
      exact and_one (Int.ediv_nonneg l0 (by omega)) (Int.lt_of_le_of_lt (Int.ediv_le_self _ l0) l1)
    rw [et, ew, eb]
    simp only [if_pos (show (i : Int) ≥ 0 by omega), if_pos (show (0 : Int) ≤ i by omega), if_neg (show ¬ (i : Int) ≥ 64 by omega)]
    have hb0 : 0 ≤ lo / 2 ^ i % 2 := Int.emod_nonneg _ (by omega)
    have hb1 : lo / 2 ^ i % 2 < 2 := Int.emod_lt_of_pos _ (by omega)
    have hwr : wrap64 ((i : Int) - 1) = (i : Int) - 1 := i64in (by omega) (by omega)
    generalize lo / 2 ^ i % 2 = b at *
    -- the divisor goes into it
    have yes : ∀ z : Int, ∀ t : Bool, IntKind.u64.wrap (z - d) = 2 * r + b - d → d ≤ 2 * r + b → Ev (fun k => pylonref01_quotient.j2 k hi lo d qh q z (i : Int) t true) (qh, (r0 * 18446744073709551616 + lo) / d, (r0 * 18446744073709551616 + lo) % d) := by
      intro z t hz hge
      refine Ev.shift ?_
      simp only [pylonref01_quotient.j2, if_true, if_neg (show ¬ (i : Int) ≥ 64 by omega)]
      rw [ew, hz, hwr, hor]
      simp only [if_pos (show (0 : Int) ≤ i by omega)]
      refine ih _ _ (2 * c + 1) (by omega) rfl (by omega) (by omega) (by omega) (by omega) ?_
      rw [hst, Int.add_mul]
      omega
    have no : ∀ z : Int, ∀ t : Bool, z = 2 * r + b → 2 * r + b < d → Ev (fun k => pylonref01_quotient.j2 k hi lo d qh q z (i : Int) t false) (qh, (r0 * 18446744073709551616 + lo) / d, (r0 * 18446744073709551616 + lo) % d) := by
      intro z t hz hge
      refine Ev.shift ?_
      simp only [pylonref01_quotient.j2, Bool.false_eq_true, if_false]
      rw [hwr, hz]
      refine ih _ _ (2 * c) (by omega) ?_ (by omega) (by omega) (by omega) (by omega) hst
      rw [hq, Int.pow_succ, Int.mul_comm 2 c, Int.mul_assoc, Int.mul_comm (2 ^ i) 2]
    refine Ev.shift ?_
    simp only [pylonref01_quotient.j1]
    by_cases hr : r ≥ 9223372036854775808
    · simp only [if_pos hr]
      exact yes _ _ (by simp only [IntKind.wrap_u64]; omega) (by omega)
    · simp only [if_neg hr]
      have ez : IntKind.u64.wrap (IntKind.u64.wrap (r * 2) + b) = 2 * r + b := by simp only [IntKind.wrap_u64]; omega
      rw [ez]
      by_cases hg : 2 * r + b ≥ d
      · rw [decide_eq_true hg]
        exact yes _ _ (by simp only [IntKind.wrap_u64]; omega) hg
      · rw [decide_eq_false hg]
        exact no _ _ rfl (by omega)
theorem high_loop {hi lo d : Int} (hd : 0 < d) (hdM : d < 18446744073709551616) (l0 : 0 ≤ lo) (l1 : lo < 18446744073709551616) (h0 : 0 ≤ hi) (hM : hi < 18446744073709551616) :
    ∀ (n : Nat) (q r c : Int), n ≤ 64 → q = c * 2 ^ n → 0 ≤ c → c < 2 ^ (64 - n) → 0 ≤ r → r < d → 0 * 2 ^ (64 - n) + hi / 2 ^ n = c * d + r →
    Ev (fun k => pylonref01_quotient.l0 k hi lo d q 0 r ((n : Int) + 63)) (hi / d, (hi % d * 18446744073709551616 + lo) / d, (hi % d * 18446744073709551616 + lo) % d) := by
  intro n
  induction n with
  | zero =>
    intro q r c _ hq hc0 hc h0' h1 he
    have hq' : q = c := by simpa using hq
    subst hq'
    have he' : hi = q * d + r := by simpa using he
    have eq : hi / d = q := (quot_is hd (by omega) (by rw [Int.add_mul]; omega)).symm
    have er : hi % d = r := by
      have a := Int.emod_add_mul_ediv hi d
      rw [eq, Int.mul_comm d] at a
      omega
    rw [eq, er]
    have := low_loop (hi := hi) (qh := q) hd hdM l0 l1 h0' h1 64 0 r 0 (by omega) (by simp) (by omega) (by simp) h0' h1 (by
      rw [show (2 : Int) ^ 64 = 18446744073709551616 by rfl, Int.ediv_eq_zero_of_lt l0 l1]; simp)
    simpa using this
  | succ i ih =>
    intro q r c hn hq hc0 hc h0' h1 he
    have hst := bit_step (by omega) hd he
    have hor := or_bit (by omega) hq hc0 hc
    have hp : (0 : Int) < 2 ^ i := Int.pow_pos (by omega)
    have hpc : (2 : Int) ^ (64 - i) = 2 ^ (64 - (i + 1)) * 2 := by rw [show 64 - i = 64 - (i + 1) + 1 by omega, Int.pow_succ]
    have ei : (((i + 1 : Nat) : Int) + 63) = (i : Int) + 64 := by omega
    rw [ei]
    refine Ev.shift ?_
    simp only [pylonref01_quotient.l0]
    have et0 : (0 : Int) ≤ IntKind.u64.wrap (Int.tmod ((i : Int) + 64) 64) := by rw [tmodn (by omega), IntKind.wrap_u64]; omega
    have e64 : wrap64 ((i : Int) + 64 - 64) = i := by rw [i64in (by omega) (by omega)]; omega
    have ew : IntKind.u64.wrap (i : Int) = i := w64 (by omega) (by omega)
    have eb : Go.bits .and .u64 (shr .u64 hi (i : Int)) 1 = hi / 2 ^ i % 2 := by
      rw [shr64 (by omega) (by omega), Int.toNat_natCast]
      exact and_one (Int.ediv_nonneg h0 (by omega)) (Int.lt_of_le_of_lt (Int.ediv_le_self _ h0) hM)
    rw [e64, ew, eb]
    simp only [if_pos (show (i : Int) + 64 ≥ 0 by omega), if_pos et0, if_pos (show (i : Int) + 64 ≥ 64 by omega), if_pos (show (0 : Int) ≤ i by omega)]
    have hb0 : 0 ≤ hi / 2 ^ i % 2 := Int.emod_nonneg _ (by omega)
    have hb1 : hi / 2 ^ i % 2 < 2 := Int.emod_lt_of_pos _ (by omega)
    have hwr : wrap64 ((i : Int) + 64 - 1) = (i : Int) + 63 := by rw [i64in (by omega) (by omega)]; omega
    generalize hi / 2 ^ i % 2 = b at *
    have yes : ∀ z : Int, ∀ t : Bool, IntKind.u64.wrap (z - d) = 2 * r + b - d → d ≤ 2 * r + b → Ev (fun k => pylonref01_quotient.j2 k hi lo d q 0 z ((i : Int) + 64) t true) (hi / d, (hi % d * 18446744073709551616 + lo) / d, (hi % d * 18446744073709551616 + lo) % d) := by
      intro z t hz hge
      refine Ev.shift ?_
      simp only [pylonref01_quotient.j2, if_true, if_pos (show (i : Int) + 64 ≥ 64 by omega)]
      rw [e64, ew, hz, hwr, hor]
      simp only [if_pos (show (0 : Int) ≤ i by omega)]
      refine ih _ _ (2 * c + 1) (by omega) rfl (by omega) (by omega) (by omega) (by omega) ?_
      rw [hst, Int.add_mul]
      omega
    have no : ∀ z : Int, ∀ t : Bool, z = 2 * r + b → 2 * r + b < d → Ev (fun k => pylonref01_quotient.j2 k hi lo d q 0 z ((i : Int) + 64) t false) (hi / d, (hi % d * 18446744073709551616 + lo) / d, (hi % d * 18446744073709551616 + lo) % d) := by
      intro z t hz hge
      refine Ev.shift ?_
      simp only [pylonref01_quotient.j2, Bool.false_eq_true, if_false]
      rw [hwr, hz]
      refine ih _ _ (2 * c) (by omega) ?_ (by omega) (by omega) (by omega) (by omega) hst
      rw [hq, Int.pow_succ, Int.mul_comm 2 c, Int.mul_assoc, Int.mul_comm (2 ^ i) 2]
    refine Ev.shift ?_
    simp only [pylonref01_quotient.j1]
    by_cases hr : r ≥ 9223372036854775808
    · simp only [if_pos hr]
      exact yes _ _ (by simp only [IntKind.wrap_u64]; omega) (by omega)
    · simp only [if_neg hr]
      have ez : IntKind.u64.wrap (IntKind.u64.wrap (r * 2) + b) = 2 * r + b := by simp only [IntKind.wrap_u64]; omega
      rw [ez]
      by_cases hg : 2 * r + b ≥ d
      · rw [decide_eq_true hg]
        exact yes _ _ (by simp only [IntKind.wrap_u64]; omega) hg
      · rw [decide_eq_false hg]
        exact no _ _ rfl (by omega)
theorem quotient_f {hi lo d : Int} (hd : 0 < d) (hdM : d < 18446744073709551616) (l0 : 0 ≤ lo) (l1 : lo < 18446744073709551616) (h0 : 0 ≤ hi) (hM : hi < 18446744073709551616) :
    Ev (fun k => pylonref01_quotient.f k hi lo d) (hi / d, (hi % d * 18446744073709551616 + lo) / d, (hi % d * 18446744073709551616 + lo) % d) := by
  have := high_loop hd hdM l0 l1 h0 hM 64 0 0 0 (by omega) (by simp) (by omega) (by simp) (by omega) hd (by
    rw [show (2 : Int) ^ 64 = 18446744073709551616 by rfl, Int.ediv_eq_zero_of_lt h0 hM]; simp)
  simpa [pylonref01_quotient.f] using this

/-! ### MulDiv -/
theorem ref_muldiv_f {a b c : Int} (ha : (Lit.int .i64 a).wf = true) (hb : (Lit.int .i64 b).wf = true) (hc : (Lit.int .i64 c).wf = true) :
    Ev (fun k => pylonref01_MulDiv.f k a b c) (mulDivA a b c) := by
  have wa := wf64 ha
  have wb := wf64 hb
  have wc := wf64 hc
  unfold pylonref01_MulDiv.f mulDivA
  by_cases h0 : c = 0
  · simp only [if_pos h0]
    exact Ev.now _
  · simp only [if_neg h0]
    have hna : (0 : Int) ≤ (a.natAbs : Int) ∧ (a.natAbs : Int) ≤ 9223372036854775808 := by omega
    have hnb : (0 : Int) ≤ (b.natAbs : Int) ∧ (b.natAbs : Int) ≤ 9223372036854775808 := by omega
    have hnc : (0 : Int) < (c.natAbs : Int) ∧ (c.natAbs : Int) ≤ 9223372036854775808 := by omega
    have hsg := mulDiv_sign (a := a) (b := b) h0
    have hcm := mag_f wc.1 wc.2
    simp only [mag_f wa.1 wa.2, mag_f wb.1 wb.2, Option.bind_some]
    generalize hd : (c.natAbs : Int) = d at *
    have hN0 : 0 ≤ (a.natAbs : Int) * (b.natAbs : Int) := Int.mul_nonneg hna.1 hnb.1
    have hN1 : (a.natAbs : Int) * (b.natAbs : Int) ≤ 9223372036854775808 * 9223372036854775808 := Int.mul_le_mul hna.2 hnb.2 hnb.1 (by omega)
    rw [product_f hna.1 (by omega) hnb.1 (by omega)]
    simp only [Option.bind_some]
    generalize hneg : (!((!((decide (a < 0)) == (decide (b < 0)))) == (decide (c < 0)))) = neg at *
    generalize (a.natAbs : Int) * (b.natAbs : Int) = N at *
    have hh0 : 0 ≤ N / 18446744073709551616 := by omega
    have hm0 := Int.emod_nonneg (N / 18446744073709551616) (show d ≠ 0 by omega)
    have hm1 := Int.emod_lt_of_pos (N / 18446744073709551616) hnc.1
    have hme := Int.emod_add_mul_ediv (N / 18446744073709551616) d
    have htop : 0 ≤ N / 18446744073709551616 / d := Int.ediv_nonneg hh0 (by omega)
    have htop1 : N / 18446744073709551616 / d ≤ N / 18446744073709551616 := Int.ediv_le_self _ hh0
    have dv := quotient_f (hi := N / 18446744073709551616) (lo := N % 18446744073709551616) (d := d) hnc.1 (by omega) (by omega) (by omega) hh0 (by omega)
    have hq0 : 0 ≤ (N / 18446744073709551616 % d * 18446744073709551616 + N % 18446744073709551616) / d := Int.ediv_nonneg (by omega) (by omega)
    have hq1 : (N / 18446744073709551616 % d * 18446744073709551616 + N % 18446744073709551616) / d < 18446744073709551616 := Int.ediv_lt_of_lt_mul hnc.1 (by
      have : (N / 18446744073709551616 % d + 1) * 18446744073709551616 ≤ d * 18446744073709551616 := by omega
      omega)
    have hr := Int.emod_add_mul_ediv (N / 18446744073709551616 % d * 18446744073709551616 + N % 18446744073709551616) d
    have hr0 := Int.emod_nonneg (N / 18446744073709551616 % d * 18446744073709551616 + N % 18446744073709551616) (show d ≠ 0 by omega)
    have hr1 := Int.emod_lt_of_pos (N / 18446744073709551616 % d * 18446744073709551616 + N % 18446744073709551616) hnc.1
    generalize (N / 18446744073709551616 % d * 18446744073709551616 + N % 18446744073709551616) % d = r at *
    generalize (N / 18446744073709551616 % d * 18446744073709551616 + N % 18446744073709551616) / d = q at *
    have hNe : N = (N / 18446744073709551616 / d * 18446744073709551616 + q) * d + r := by
      rw [Int.add_mul, Int.mul_right_comm, Int.mul_comm (N / 18446744073709551616 / d) d, Int.mul_comm q d]
      omega
    have hU := halfUp_mag hnc.1 hNe hr0 hr1 neg
    rw [hsg, hU]
    generalize N / 18446744073709551616 / d = top at *
    have el : IntKind.u64.wrap (d - r) = d - r := w64 (by omega) (by omega)
    -- what follows, for a sign that is only asked where the number is not 0
    have sg : ∀ (n2 : Bool) (hi lo : Int), 0 ≤ hi → 0 ≤ lo → lo < 18446744073709551616 → (hi ≠ 0 ∨ lo ≠ 0 → n2 = neg) → ∀ k, (pylonref01_signed.f (k + 1) n2 hi lo) = some (fits (if neg = true then -(hi * 18446744073709551616 + lo) else hi * 18446744073709551616 + lo)) := by
      intro n2 hi lo a0 b0 b1 hn k
      rw [signed_f k n2 a0 b0 b1]
      by_cases hz : hi ≠ 0 ∨ lo ≠ 0
      · rw [hn hz]
      · have z1 : hi = 0 := by omega
        have z2 : lo = 0 := by omega
        subst z1 z2
        have e0 : -((0 : Int) * 18446744073709551616 + 0) = 0 * 18446744073709551616 + 0 := by omega
        cases n2 <;> cases neg <;> simp only [if_true, Bool.false_eq_true, if_false, e0]
    have up : ∀ n1 : Bool, n1 = neg → Ev (fun k => pylonref01_MulDiv.j1 k n1 top q true) (fits (if neg = true then -(top * 18446744073709551616 + q + 1) else top * 18446744073709551616 + q + 1)) := by
      intro n1 hn1
      subst hn1
      refine Ev.shift (Ev.shift ?_)
      simp only [pylonref01_MulDiv.j1, if_true]
      have e1 : IntKind.u64.wrap (q + 1) = (q + 1) % 18446744073709551616 := IntKind.wrap_u64 _
      have e2 : IntKind.u64.wrap (top + 1) = top + 1 := w64 (by omega) (by omega)
      rw [e1, e2]
      by_cases hz : (q + 1) % 18446744073709551616 = 0
      · have e : (top + 1) * 18446744073709551616 + (q + 1) % 18446744073709551616 = top * 18446744073709551616 + q + 1 := by omega
        have hs := sg n1 (top + 1) ((q + 1) % 18446744073709551616) (by omega) (by omega) (by omega) (fun _ => rfl)
        rw [e] at hs
        simp only [if_pos hz, if_neg (show ¬ top + 1 = 0 by omega)]
        cases n1 <;> simp only [if_true, Bool.false_eq_true, if_false] at hs ⊢ <;> simp only [hs, Option.bind_some] <;> exact Ev.pair _
      · have hs := sg n1 top ((q + 1) % 18446744073709551616) (by omega) (by omega) (by omega) (fun _ => rfl)
        have e : top * 18446744073709551616 + (q + 1) % 18446744073709551616 = top * 18446744073709551616 + q + 1 := by omega
        rw [e] at hs
        simp only [if_neg hz]
        cases n1 <;> simp only [if_true, Bool.false_eq_true, if_false, ite_self] at hs ⊢ <;> simp only [hs, Option.bind_some] <;> exact Ev.pair _
    have down : ∀ n1 : Bool, (top ≠ 0 ∨ q ≠ 0 → n1 = neg) → Ev (fun k => pylonref01_MulDiv.j1 k n1 top q false) (fits (if neg = true then -(top * 18446744073709551616 + q) else top * 18446744073709551616 + q)) := by
      intro n1 hn1
      refine Ev.shift (Ev.shift ?_)
      simp only [pylonref01_MulDiv.j1, Bool.false_eq_true, if_false]
      cases n1
      · simp only [Bool.false_eq_true, if_false, sg false top q htop hq0 hq1 hn1, Option.bind_some]
        exact Ev.pair _
      · simp only [if_true]
        by_cases hz : top = 0
        · simp only [if_pos hz]
          have hs2 : ∀ k, pylonref01_signed.f (k + 1) (q != 0) top q = some (fits (if neg = true then -(top * 18446744073709551616 + q) else top * 18446744073709551616 + q)) := fun k => sg _ top q htop hq0 hq1 (fun h => by
            have : q ≠ 0 := by omega
            rw [← hn1 h]
            simpa using this) k
          simp only [hs2, Option.bind_some]
          exact Ev.pair _
        · simp only [if_neg hz, sg true top q htop hq0 hq1 hn1, Option.bind_some]
          exact Ev.pair _
    -- behind the sign
    have j0 : ∀ n1 : Bool, (N ≠ 0 → n1 = neg) → Ev (fun k => pylonref01_MulDiv.j0 k c (N / 18446744073709551616) (N % 18446744073709551616) n1) (fits (if neg = true then -(if r > d - r then top * 18446744073709551616 + q + 1 else top * 18446744073709551616 + q) else (if r ≥ d - r then top * 18446744073709551616 + q + 1 else top * 18446744073709551616 + q))) := by
      intro n1 hn1
      refine Ev.shift ?_
      simp only [pylonref01_MulDiv.j0, hcm, Option.bind_some]
      refine Ev.bind dv ?_
      simp only [el]
      by_cases hN : N = 0
      · have hd0 : top * 18446744073709551616 + q = 0 ∧ r = 0 := by
          have h1 : 0 ≤ (top * 18446744073709551616 + q) * d := Int.mul_nonneg (by omega) (by omega)
          have h2 : (top * 18446744073709551616 + q) * d = 0 := by omega
          rcases Int.mul_eq_zero.1 h2 with h3 | h3 <;> omega
        have ht0 : top = 0 := by omega
        have hq00 : q = 0 := by omega
        have hdn := down n1 (by omega)
        have hr00 : r = 0 := hd0.2
        subst hr00
        have d1 : decide ((0 : Int) > d - 0) = false := decide_eq_false (by omega)
        have d2 : decide ((0 : Int) ≥ d - 0) = false := decide_eq_false (by omega)
        rw [d1, d2, if_neg (show ¬ (0 : Int) > d - 0 by omega), if_neg (show ¬ (0 : Int) ≥ d - 0 by omega)]
        cases neg <;> cases n1 <;> simp only [if_true, Bool.false_eq_true, if_false] at hdn ⊢ <;> exact hdn
      · have hn := hn1 hN
        subst hn
        cases n1
        · simp only [Bool.false_eq_true, if_false]
          by_cases h1 : r ≥ d - r
          · rw [decide_eq_true h1, if_pos h1]
            have hz := up false rfl
            simp only [Bool.false_eq_true, if_false] at hz
            exact hz
          · rw [decide_eq_false h1, if_neg h1]
            have hz := down false (fun _ => rfl)
            simp only [Bool.false_eq_true, if_false] at hz
            exact hz
        · simp only [if_true]
          by_cases h1 : r > d - r
          · rw [decide_eq_true h1, if_pos h1]
            have hz := up true rfl
            simp only [if_true] at hz
            exact hz
          · rw [decide_eq_false h1, if_neg h1]
            have hz := down true (fun _ => rfl)
            simp only [if_true] at hz
            exact hz
    cases hn2 : neg
    · rw [hn2] at j0
      simp only [Bool.false_eq_true, if_false] at j0 ⊢
      exact j0 false (fun _ => rfl)
    · rw [hn2] at j0
      simp only [if_true] at j0 ⊢
      by_cases hz : N / 18446744073709551616 = 0
      · simp only [if_pos hz]
        exact j0 _ (fun h => by have : N % 18446744073709551616 ≠ 0 := by omega
                                simpa using this)
      · simp only [if_neg hz]
        exact j0 true (fun _ => rfl)
end Go.Proofs.YthejabcfbbmkeaaDoor.PureG

/- The reference's Sum, Add, Half, SameNumbers: what the printed functions compute. -/
set_option linter.unusedVariables false
set_option linter.unusedSimpArgs false
namespace Go.Proofs.YthejabcfbbmkeaaDoor.PureG
open Go.RowKit Go.Proofs.YthejabcfbbmkeaaDoor.PG Go.Proofs.YthejabcfbbmkeaaDoor.Num Go.Proofs.YthejabcfbbmkeaaDoorW.PrintWords Go.Proofs.YthejabcfbbmkeaaDoorW.PrintLast Go.Proofs.YthejabcfbbmkeaaDoorW.PrintMore

theorem rd_mid {p t : List Int} {q i : Int} (hi : i = p.length) : rd (p ++ q :: t) i = q := by
  subst hi; simp [rd]
def wfL (l : List Int) : Prop := ∀ y ∈ l, -9223372036854775808 ≤ y ∧ y ≤ 9223372036854775807
/-- The end: the difference of what was summed above 0 and below. -/
theorem refsum_end {l : List Int} {ph pl nh nl i : Int} (hi : (l.length : Int) ≤ i) (a0 : 0 ≤ ph) (a1 : ph < 18446744073709551616) (b0 : 0 ≤ pl) (b1 : pl < 18446744073709551616)
    (c0 : 0 ≤ nh) (c1 : nh < 18446744073709551616) (d0 : 0 ≤ nl) (d1 : nl < 18446744073709551616) :
    Ev (fun k => pylonref01_Sum.l0 k l ph pl nh nl i) (fits ((ph * 18446744073709551616 + pl) - (nh * 18446744073709551616 + nl))) := by
  have J2 : ∀ w : Int, (ph * 18446744073709551616 + pl) ≥ (nh * 18446744073709551616 + nl) → w = (if pl < nl then 1 else 0) → Ev (fun k => pylonref01_Sum.j2 k ph pl nh nl w) (fits ((ph * 18446744073709551616 + pl) - (nh * 18446744073709551616 + nl))) := by
    intro w hge hw
    refine Ev.shift ?_
    simp only [pylonref01_Sum.j2]
    have e1 : IntKind.u64.wrap (IntKind.u64.wrap (ph - nh) - w) = ph - nh - w := by
      rw [w64 (x := ph - nh) (by omega) (by omega), w64 (by split at hw <;> omega) (by split at hw <;> omega)]
    have e2 : IntKind.u64.wrap (pl - nl) = pl - nl + w * 18446744073709551616 := by
      rw [IntKind.wrap_u64]; split at hw <;> omega
    rw [e1, e2]
    refine Ev.shift ?_
    refine Ev.ofEqK fun k => ?_
    rw [signed_f _ false (by split at hw <;> omega) (by split at hw <;> omega) (by split at hw <;> omega)]
    simp only [Option.bind_some, Bool.false_eq_true, if_false]
    rw [show (ph - nh - w) * 18446744073709551616 + (pl - nl + w * 18446744073709551616) = (ph * 18446744073709551616 + pl) - (nh * 18446744073709551616 + nl) by omega]
  have J1 : ∀ b : Bool, b = decide ((ph * 18446744073709551616 + pl) ≥ (nh * 18446744073709551616 + nl)) → Ev (fun k => pylonref01_Sum.j1 k ph pl nh nl b) (fits ((ph * 18446744073709551616 + pl) - (nh * 18446744073709551616 + nl))) := by
    intro b hb
    refine Ev.shift ?_
    simp only [pylonref01_Sum.j1]
    by_cases hge : (ph * 18446744073709551616 + pl) ≥ (nh * 18446744073709551616 + nl)
    · rw [decide_eq_true hge] at hb
      subst hb
      simp only [if_true]
      by_cases h : pl < nl
      · simp only [if_pos h]; exact J2 1 hge (by rw [if_pos h])
      · simp only [if_neg h]; exact J2 0 hge (by rw [if_neg h])
    · rw [decide_eq_false hge] at hb
      subst hb
      simp only [Bool.false_eq_true, if_false]
      have key : ∀ w : Int, w = (if nl < pl then 1 else 0) → Ev (fun k => pylonref01_Sum.j3 k ph pl nh nl w) (fits ((ph * 18446744073709551616 + pl) - (nh * 18446744073709551616 + nl))) := by
        intro w hw
        refine Ev.shift ?_
        simp only [pylonref01_Sum.j3]
        have e1 : IntKind.u64.wrap (IntKind.u64.wrap (nh - ph) - w) = nh - ph - w := by
          rw [w64 (x := nh - ph) (by omega) (by omega), w64 (by split at hw <;> omega) (by split at hw <;> omega)]
        have e2 : IntKind.u64.wrap (nl - pl) = nl - pl + w * 18446744073709551616 := by
          rw [IntKind.wrap_u64]; split at hw <;> omega
        rw [e1, e2]
        refine Ev.shift ?_
        refine Ev.ofEqK fun k => ?_
        rw [signed_f _ true (by split at hw <;> omega) (by split at hw <;> omega) (by split at hw <;> omega)]
        simp only [Option.bind_some, if_true]
        rw [show -((nh - ph - w) * 18446744073709551616 + (nl - pl + w * 18446744073709551616)) = (ph * 18446744073709551616 + pl) - (nh * 18446744073709551616 + nl) by omega]
      by_cases h : nl < pl
      · simp only [if_pos h]; exact key 1 (by rw [if_pos h])
      · simp only [if_neg h]; exact key 0 (by rw [if_neg h])
  refine Ev.shift ?_
  simp only [pylonref01_Sum.l0, if_neg (show ¬ i < (l.length : Int) by omega)]
  by_cases h1 : ph > nh
  · simp only [if_pos h1]; exact J1 true (by rw [decide_eq_true]; omega)
  · simp only [if_neg h1]
    by_cases h2 : ph = nh
    · simp only [if_pos h2]
      refine J1 _ ?_
      by_cases h3 : pl ≥ nl
      · rw [decide_eq_true h3, decide_eq_true]; omega
      · rw [decide_eq_false h3, decide_eq_false]; omega
    · simp only [if_neg h2]; exact J1 false (by rw [decide_eq_false]; omega)
theorem refsum_loop : ∀ (t p : List Int) {l : List Int} {ph pl nh nl i : Int}, l = p ++ t → i = p.length → (l.length : Int) ≤ 140737488355328 → wfL l →
    0 ≤ ph → 0 ≤ pl → pl < 18446744073709551616 → 0 ≤ nh → 0 ≤ nl → nl < 18446744073709551616 → ph ≤ i → nh ≤ i →
    Ev (fun k => pylonref01_Sum.l0 k l ph pl nh nl i) (fits ((ph * 18446744073709551616 + pl) - (nh * 18446744073709551616 + nl) + t.sum))
  | [], p, l, ph, pl, nh, nl, i, hl, hi, hn, hw, a0, b0, b1, c0, d0, d1, ha, hc => by
    have := refsum_end (l := l) (i := i) (ph := ph) (pl := pl) (nh := nh) (nl := nl) (by subst hl; simp; omega) a0 (by subst hl; simp at hn; omega) b0 b1 c0 (by subst hl; simp at hn; omega) d0 d1
    simpa using this
  | q :: t, p, l, ph, pl, nh, nl, i, hl, hi, hn, hw, a0, b0, b1, c0, d0, d1, ha, hc => by
    have hq := hw q (by subst hl; simp)
    have hlt : i < (l.length : Int) := by subst hl; simp; omega
    have hrd : rd l i = q := by subst hl; exact rd_mid hi
    have ei : wrap64 (i + 1) = i + 1 := i64in (by omega) (by omega)
    have step := fun (ph pl nh nl : Int) (x0 : 0 ≤ ph) (x1 : 0 ≤ pl) (x2 : pl < 18446744073709551616) (x3 : 0 ≤ nh) (x4 : 0 ≤ nl) (x5 : nl < 18446744073709551616) (x6 : ph ≤ i + 1) (x7 : nh ≤ i + 1) =>
      refsum_loop t (p ++ [q]) (l := l) (i := i + 1) (ph := ph) (pl := pl) (nh := nh) (nl := nl) (by subst hl; simp) (by simp; omega) hn hw x0 x1 x2 x3 x4 x5 x6 x7
    refine Ev.shift ?_
    simp only [pylonref01_Sum.l0, if_pos hlt, if_pos (show 0 ≤ i by omega), hrd, mag_f hq.1 hq.2, Option.bind_some, ei]
    by_cases h0 : q ≥ 0
    · have em : (q.natAbs : Int) = q := by omega
      simp only [if_pos h0, em, IntKind.wrap_u64]
      by_cases hc1 : (pl + q) % 18446744073709551616 < pl
      · simp only [if_pos hc1, Int.emod_eq_of_lt (show 0 ≤ ph + 1 by omega) (show ph + 1 < 18446744073709551616 by omega)]
        have := step (ph + 1) ((pl + q) % 18446744073709551616) nh nl (by omega) (by omega) (by omega) c0 d0 d1 (by omega) (by omega)
        rw [show (ph * 18446744073709551616 + pl) - (nh * 18446744073709551616 + nl) + (q :: t).sum = ((ph + 1) * 18446744073709551616 + (pl + q) % 18446744073709551616) - (nh * 18446744073709551616 + nl) + t.sum by rw [List.sum_cons]; omega]
        exact this
      · simp only [if_neg hc1]
        have := step ph ((pl + q) % 18446744073709551616) nh nl (by omega) (by omega) (by omega) c0 d0 d1 (by omega) (by omega)
        rw [show (ph * 18446744073709551616 + pl) - (nh * 18446744073709551616 + nl) + (q :: t).sum = (ph * 18446744073709551616 + (pl + q) % 18446744073709551616) - (nh * 18446744073709551616 + nl) + t.sum by rw [List.sum_cons]; omega]
        exact this
    · have em : (q.natAbs : Int) = -q := by omega
      simp only [if_neg h0, em, IntKind.wrap_u64]
      by_cases hc1 : (nl + -q) % 18446744073709551616 < nl
      · simp only [if_pos hc1, Int.emod_eq_of_lt (show 0 ≤ nh + 1 by omega) (show nh + 1 < 18446744073709551616 by omega)]
        have := step ph pl (nh + 1) ((nl + -q) % 18446744073709551616) (by omega) (by omega) (by omega) (by omega) (by omega) (by omega) (by omega) (by omega)
        rw [show (ph * 18446744073709551616 + pl) - (nh * 18446744073709551616 + nl) + (q :: t).sum = (ph * 18446744073709551616 + pl) - ((nh + 1) * 18446744073709551616 + (nl + -q) % 18446744073709551616) + t.sum by rw [List.sum_cons]; omega]
        exact this
      · simp only [if_neg hc1]
        have := step ph pl nh ((nl + -q) % 18446744073709551616) (by omega) (by omega) (by omega) (by omega) (by omega) (by omega) (by omega) (by omega)
        rw [show (ph * 18446744073709551616 + pl) - (nh * 18446744073709551616 + nl) + (q :: t).sum = (ph * 18446744073709551616 + pl) - (nh * 18446744073709551616 + (nl + -q) % 18446744073709551616) + t.sum by rw [List.sum_cons]; omega]
        exact this
theorem refsum_f {l : List Int} (hn : (l.length : Int) ≤ 140737488355328) (hw : wfL l) : Ev (fun k => pylonref01_Sum.f k l) (fits l.sum) := by
  have := refsum_loop l [] (l := l) (i := 0) (ph := 0) (pl := 0) (nh := 0) (nl := 0) rfl rfl hn hw (by omega) (by omega) (by omega) (by omega) (by omega) (by omega) (by omega) (by omega)
  simpa [pylonref01_Sum.f] using this
theorem refadd_f {a b : Int} (ha : -9223372036854775808 ≤ a ∧ a ≤ 9223372036854775807) (hb : -9223372036854775808 ≤ b ∧ b ≤ 9223372036854775807) : Ev (fun k => pylonref01_Add.f k a b) (fits (a + b)) := by
  unfold pylonref01_Add.f
  refine Ev.bind (refsum_f (l := [a, b]) (by simp) (by intro y hy; simp at hy; rcases hy with rfl | rfl <;> assumption)) ?_
  simp only [List.sum_cons, List.sum_nil, Int.add_zero]
  exact Ev.pair _
theorem refhalf_f {a b : Int} (ha : (Lit.int .i64 a).wf = true) (hb : (Lit.int .i64 b).wf = true) : Ev (fun k => pylonref01_Half.f k a b) (mulDivA a 1 b) := by
  unfold pylonref01_Half.f
  refine Ev.bind (ref_muldiv_f ha (show (Lit.int .i64 1).wf = true by decide) hb) ?_
  exact Ev.pair _
end Go.Proofs.YthejabcfbbmkeaaDoor.PureG

/- fix.root: Newton's steps from above end in the whole square root; the whole square root of a sum of two squares. -/
set_option linter.unusedVariables false
set_option linter.unusedSimpArgs false
namespace Go.Proofs.YthejabcfbbmkeaaDoor.PureG
open Go.RowKit Go.Proofs.YthejabcfbbmkeaaDoor.PG Go.Proofs.YthejabcfbbmkeaaDoor.Num Go.Proofs.YthejabcfbbmkeaaDoorW.PrintWords Go.Proofs.YthejabcfbbmkeaaDoorW.PrintLast Go.Proofs.YthejabcfbbmkeaaDoorW.PrintMore

theorem half_sum {x q : Int} (h0 : 0 ≤ x) (h1 : x < 18446744073709551616) (q0 : 0 ≤ q) (q1 : q < 18446744073709551616) :
    Go.bits .or .u64 (u64add x q 0 / 2) (IntKind.u64.wrap (u64car x q 0 * 9223372036854775808)) = (x + q) / 2 := by
  have ea : u64add x q 0 = (x + q) % 18446744073709551616 := by unfold u64add; simp only [Int.toNat_zero]; omega
  have ec : u64car x q 0 = (x + q) / 18446744073709551616 := by unfold u64car; simp only [Int.toNat_zero]; omega
  rw [ea, ec]
  have ew : IntKind.u64.wrap ((x + q) / 18446744073709551616 * 9223372036854775808) = (x + q) / 18446744073709551616 * 9223372036854775808 := w64 (by omega) (by omega)
  rw [ew, or_join' 63 (x := (x + q) / 18446744073709551616 * 9223372036854775808) (y := (x + q) % 18446744073709551616 / 2) (by omega) (by omega) (by omega) (by omega) (by omega) (by omega)]
  omega

theorem root_l0 {hi lo N r : Int} (h0 : 0 ≤ hi) (l0 : 0 ≤ lo) (l1 : lo < 18446744073709551616) (hN : N = hi * 18446744073709551616 + lo) (hN1 : 1 ≤ N) (hr : IsRoot N r) :
    ∀ (d : Nat) (x : Int), x ≤ d → 0 < x → x < 18446744073709551616 → r ≤ x → Ev (fun k => fix_root.l0 k hi lo x) r := by
  intro d
  induction d with
  | zero => intro x hd hx0; omega
  | succ d ih =>
    intro x hd hx0 hx1 hrx
    refine Ev.shift ?_
    simp only [fix_root.l0]
    by_cases c : hi ≥ x
    · simp only [if_pos c]
      have h2 : x * x ≤ x * 18446744073709551616 := Int.mul_le_mul_of_nonneg_left (by omega) (by omega)
      have e : x = r := hr.top hrx (by omega)
      rw [e]
      exact Ev.now _
    · simp only [if_neg c]
      refine ev_bind (div64_f h0 l0 l1 (by omega) hx1) ?_
      rw [← hN]
      have q0 : 0 ≤ N / x := Int.ediv_nonneg (by omega) (by omega)
      have q1 : N / x < 18446744073709551616 := Int.ediv_lt_of_lt_mul hx0 (by
        have : (hi + 1) * 18446744073709551616 ≤ x * 18446744073709551616 := by omega
        rw [Int.mul_comm 18446744073709551616 x]
        omega)
      simp only [show c01 0 = true by rfl, if_true, half_sum (by omega) hx1 q0 q1]
      by_cases g : (x + N / x) / 2 ≥ x
      · simp only [if_pos g]
        have h2 : x * x ≤ N / x * x := Int.mul_le_mul_of_nonneg_right (by omega) (by omega)
        have h3 := Int.ediv_mul_le N (show x ≠ 0 by omega)
        have e : x = r := hr.top hrx (by omega)
        rw [e]
        exact Ev.now _
      · simp only [if_neg g]
        have h4 := newton hr hx0
        have h5 := hr.pos hN1
        exact ih _ (by omega) (by omega) (by omega) h4

theorem pow2_lt {n : Nat} (h : n ≤ 63) : (2 : Int) ^ n < 18446744073709551616 := by
  have : (2 : Int) ^ n ≤ 2 ^ 63 := by
    have := Nat.pow_le_pow_right (n := 2) (by omega) h
    exact_mod_cast this
  have e : (2 : Int) ^ 63 = 9223372036854775808 := by rfl
  omega

/-- The first guess is not below the root. -/
theorem root_j1 {hi lo N r : Int} {n : Nat} (h0 : 0 ≤ hi) (l0 : 0 ≤ lo) (l1 : lo < 18446744073709551616) (hN : N = hi * 18446744073709551616 + lo) (hN1 : 1 ≤ N) (hN2 : N < 340282366920938463463374607431768211456) (hr : IsRoot N r)
    (hn : n < 1000) (hb : N < 2 ^ n) : Ev (fun k => fix_root.j1 k hi lo (n : Int)) r := by
  refine Ev.shift ?_
  simp only [fix_root.j1]
  by_cases c : (n : Int) < 127
  · simp only [if_pos c]
    have e1 : wrap64 ((n : Int) + 1) = ((n + 1 : Nat) : Int) := by rw [i64in (by omega) (by omega)]; omega
    have e2 : Int.tdiv ((n + 1 : Nat) : Int) 2 = (((n + 1) / 2 : Nat) : Int) := by rw [Int.tdiv_eq_ediv_of_nonneg (by omega)]; omega
    have e3 : wrap64 (((n + 1) / 2 : Nat) : Int) = (((n + 1) / 2 : Nat) : Int) := i64in (by omega) (by omega)
    rw [e1, e2, e3]
    have hm : (n + 1) / 2 ≤ 63 := by omega
    simp only [if_pos (show (0 : Int) ≤ (((n + 1) / 2 : Nat) : Int) by omega)]
    have e4 : shl .u64 1 (((n + 1) / 2 : Nat) : Int) = 2 ^ ((n + 1) / 2) := by
      rw [shl64 (by omega) (by omega), Int.one_mul]
      simp only [Int.toNat_natCast]
      have := pow2_lt hm
      have : (0 : Int) < 2 ^ ((n + 1) / 2) := Int.pow_pos (by omega)
      omega
    rw [e4]
    refine Ev.shift ?_
    simp only [fix_root.j2]
    have hp : (0 : Int) < 2 ^ ((n + 1) / 2) := Int.pow_pos (by omega)
    have hsq : N < 2 ^ ((n + 1) / 2) * 2 ^ ((n + 1) / 2) := by
      rw [← Int.pow_add]
      have : (2 : Int) ^ n ≤ 2 ^ ((n + 1) / 2 + (n + 1) / 2) := by
        have := Nat.pow_le_pow_right (n := 2) (by omega) (show n ≤ (n + 1) / 2 + (n + 1) / 2 by omega)
        exact_mod_cast this
      omega
    have hx := hr.le_of (Int.le_of_lt hp) hsq
    have hlt := pow2_lt hm
    generalize (2 : Int) ^ ((n + 1) / 2) = x at *
    obtain ⟨d, rfl⟩ := Int.eq_ofNat_of_zero_le (Int.le_of_lt hp)
    exact root_l0 h0 l0 l1 hN hN1 hr d _ (Int.le_refl _) hp hlt hx
  · simp only [if_neg c]
    refine Ev.shift ?_
    simp only [fix_root.j2]
    refine root_l0 h0 l0 l1 hN hN1 hr 18446744073709551615 _ (by omega) (by omega) (by omega) ?_
    have := hr.le_of (x := 18446744073709551616) (by omega) (by omega)
    have h1 := hr.2.1
    rcases Int.lt_or_le 18446744073709551615 r with g | g
    · have e : r = 18446744073709551616 := by omega
      rw [e] at h1
      omega
    · exact g

theorem root_f {hi lo N r : Int} (h0 : 0 ≤ hi) (h1 : hi < 18446744073709551616) (l0 : 0 ≤ lo) (l1 : lo < 18446744073709551616) (hN : N = hi * 18446744073709551616 + lo) (hr : IsRoot N r) : Ev (fun k => fix_root.f k hi lo) r := by
  have yes : N = 0 → Ev (fun k => fix_root.j0 k hi lo true) r := by
    intro hz
    refine Ev.shift ?_
    simp only [fix_root.j0, if_true]
    have : r = 0 := hr.uniq (by rw [hz]; exact ⟨by omega, by omega, by omega⟩)
    rw [this]
    exact Ev.now _
  have no : N ≠ 0 → Ev (fun k => fix_root.j0 k hi lo false) r := by
    intro hz
    obtain ⟨a, rfl⟩ := Int.eq_ofNat_of_zero_le h0
    obtain ⟨b, rfl⟩ := Int.eq_ofNat_of_zero_le l0
    refine Ev.shift ?_
    simp only [fix_root.j0, Bool.false_eq_true, if_false]
    have lb : Ev (fun k => bits_Len64.f k (b : Int)) ((bitLen b : Nat) : Int) := Ev.shift (Ev.ofEqK (fun k => len64_f k b (by omega)))
    refine ev_bind lb ?_
    have hb := bitLen_spec b
    have hb64 := bitLen64 (n := b) (b := 64) (by simp only [Nat.reducePow]; omega)
    by_cases c : (a : Int) = 0
    · simp only [if_pos c]
      have : N = (b : Int) := by omega
      refine root_j1 h0 l0 l1 hN (by omega) (by omega) hr (n := bitLen b) (by omega) ?_
      rw [this]
      exact_mod_cast hb.1
    · simp only [if_neg c]
      have la : Ev (fun k => bits_Len64.f k (a : Int)) ((bitLen a : Nat) : Int) := Ev.shift (Ev.ofEqK (fun k => len64_f k a (by omega)))
      refine ev_bind la ?_
      have ha := bitLen_spec a
      have ha64 := bitLen64 (n := a) (b := 64) (by simp only [Nat.reducePow]; omega)
      have e1 : wrap64 (64 + ((bitLen a : Nat) : Int)) = ((64 + bitLen a : Nat) : Int) := by rw [i64in (by omega) (by omega)]; omega
      rw [e1]
      refine root_j1 h0 l0 l1 hN (by omega) (by omega) hr (n := 64 + bitLen a) (by omega) ?_
      have h3 : (a : Int) + 1 ≤ 2 ^ bitLen a := by exact_mod_cast ha.1
      have h4 : ((a : Int) + 1) * 18446744073709551616 ≤ 2 ^ bitLen a * 18446744073709551616 := Int.mul_le_mul_of_nonneg_right h3 (by omega)
      rw [Int.pow_add, show (2 : Int) ^ 64 = 18446744073709551616 by rfl, Int.mul_comm 18446744073709551616 (2 ^ bitLen a)]
      omega
  unfold fix_root.f
  by_cases c : hi = 0
  · simp only [if_pos c]
    by_cases d : lo = 0
    · rw [show (lo == 0) = true by simp [d]]
      exact yes (by omega)
    · rw [show (lo == 0) = false by simp [d]]
      exact no (by omega)
  · simp only [if_neg c]
    exact no (by omega)

theorem sq_size {a : Int} (h0 : -9223372036854775808 ≤ a) (h1 : a ≤ 9223372036854775807) : 0 ≤ a * a ∧ a * a ≤ 85070591730234615865843651857942052864 ∧ (a.natAbs : Int) * a.natAbs = a * a := by
  have e : (a.natAbs : Int) * a.natAbs = a * a := Int.natAbs_mul_self
  have h2 : (a.natAbs : Int) ≤ 9223372036854775808 := by omega
  have h3 : (a.natAbs : Int) * a.natAbs ≤ 9223372036854775808 * 9223372036854775808 := Int.mul_le_mul h2 h2 (by omega) (by omega)
  have h4 : 0 ≤ (a.natAbs : Int) * a.natAbs := Int.mul_nonneg (by omega) (by omega)
  exact ⟨by omega, by omega, e⟩

/-- The whole square root of a * a + b * b, where it is an int64. -/
theorem hyp_f {a b r : Int} (ha0 : -9223372036854775808 ≤ a) (ha1 : a ≤ 9223372036854775807) (hb0 : -9223372036854775808 ≤ b) (hb1 : b ≤ 9223372036854775807) (hr : IsRoot (a * a + b * b) r) :
    Ev (fun k => fix_Hyp.f k a b) (fits r) := by
  obtain ⟨sa0, sa1, sa2⟩ := sq_size ha0 ha1
  obtain ⟨sb0, sb1, sb2⟩ := sq_size hb0 hb1
  unfold fix_Hyp.f
  simp only [size_f ha0 ha1, size_f hb0 hb1, Option.bind_some, mul64_f (show (0 : Int) ≤ (a.natAbs : Int) by omega) (by omega) (show (0 : Int) ≤ (a.natAbs : Int) by omega) (by omega),
    mul64_f (show (0 : Int) ≤ (b.natAbs : Int) by omega) (by omega) (show (0 : Int) ≤ (b.natAbs : Int) by omega) (by omega), sa2, sb2, show c01 0 = true by rfl, if_true]
  generalize a * a = A at *
  generalize b * b = B at *
  have ea : u64add (A % 18446744073709551616) (B % 18446744073709551616) 0 = (A + B) % 18446744073709551616 := by unfold u64add; simp only [Int.toNat_zero]; omega
  have ec : u64car (A % 18446744073709551616) (B % 18446744073709551616) 0 = (A % 18446744073709551616 + B % 18446744073709551616) / 18446744073709551616 := by unfold u64car; simp only [Int.toNat_zero]; omega
  rw [ea, ec]
  have eh : IntKind.u64.wrap (IntKind.u64.wrap (A / 18446744073709551616 + B / 18446744073709551616) + (A % 18446744073709551616 + B % 18446744073709551616) / 18446744073709551616) = (A + B) / 18446744073709551616 := by
    simp only [IntKind.wrap_u64]; omega
  rw [eh]
  refine ev_bind (root_f (N := A + B) (r := r) (by omega) (by omega) (by omega) (by omega) (by omega) hr) ?_
  have hr0 := hr.1
  have hr1 := hr.le_of (x := 18446744073709551616) (by omega) (by omega)
  have h1 := hr.2.1
  have hlt : r < 18446744073709551616 := by
    rcases Int.lt_or_le r 18446744073709551616 with g | g
    · exact g
    · have e : r = 18446744073709551616 := by omega
      rw [e] at h1
      omega
  refine ev_bind (a := fits r) (Ev.shift (Ev.ofEqK (fun k => ?_))) (Ev.pair _)
  rw [number_f k false (by omega) hr0 hlt]
  simp
end Go.Proofs.YthejabcfbbmkeaaDoor.PureG

/- The reference's root, bit by bit; its root of a sum of two squares. -/
set_option linter.unusedVariables false
set_option linter.unusedSimpArgs false
namespace Go.Proofs.YthejabcfbbmkeaaDoor.PureG
open Go.RowKit Go.Proofs.YthejabcfbbmkeaaDoor.PG Go.Proofs.YthejabcfbbmkeaaDoor.Num Go.Proofs.YthejabcfbbmkeaaDoorW.PrintWords Go.Proofs.YthejabcfbbmkeaaDoorW.PrintLast Go.Proofs.YthejabcfbbmkeaaDoorW.PrintMore

theorem two_words {t N hi lo : Int} (l0 : 0 ≤ lo) (l1 : lo < 18446744073709551616) (hN : N = hi * 18446744073709551616 + lo) (ht : 0 ≤ t) :
    (t / 18446744073709551616 < hi → t ≤ N) ∧ (t / 18446744073709551616 = hi → (t % 18446744073709551616 ≤ lo ↔ t ≤ N)) ∧ (¬ t / 18446744073709551616 < hi → ¬ t / 18446744073709551616 = hi → N < t) := by
  refine ⟨fun h => by omega, fun h => by omega, fun h h' => by omega⟩
theorem refroot_l0 {hi lo N root : Int} (h0 : 0 ≤ hi) (l0 : 0 ≤ lo) (l1 : lo < 18446744073709551616) (hN : N = hi * 18446744073709551616 + lo) (hr : IsRoot N root) :
    ∀ (j : Nat) (r c : Int), j ≤ 64 → r = c * 2 ^ j → 0 ≤ c → r + 2 ^ j ≤ 18446744073709551616 → r * r ≤ N → N < (r + 2 ^ j) * (r + 2 ^ j) → Ev (fun k => pylonref01_root.l0 k hi lo r ((j : Int) - 1)) root := by
  intro j
  induction j with
  | zero =>
    intro r c hj hc hc0 hb h1 h2
    refine Ev.shift ?_
    have e : ¬ (((0 : Nat) : Int) - 1 ≥ 0) := by omega
    simp only [pylonref01_root.l0, if_neg e]
    have : root = r := hr.uniq ⟨by simp at hc; omega, h1, by simpa using h2⟩
    rw [this]
    exact Ev.now _
  | succ j ih =>
    intro r c hj hc hc0 hb h1 h2
    have e1 : ((j + 1 : Nat) : Int) - 1 = (j : Int) := by omega
    have e2 : IntKind.u64.wrap (j : Int) = (j : Int) := w64 (by omega) (by omega)
    have e3 : wrap64 ((j : Int) - 1) = (j : Int) - 1 := i64in (by omega) (by omega)
    have hp : (0 : Int) < 2 ^ j := Int.pow_pos (by omega)
    have hp2 : (2 : Int) ^ (j + 1) = 2 * 2 ^ j := by rw [Int.pow_succ]; omega
    have hr0 : 0 ≤ r := by rw [hc]; exact Int.mul_nonneg hc0 (by omega)
    have e4 : shl .u64 1 (j : Int) = 2 ^ j := by
      rw [shl64 (by omega) (by omega), Int.one_mul]
      simp only [Int.toNat_natCast]
      omega
    have e5 : Go.bits .or .u64 r (2 ^ j) = r + 2 ^ j := or_join (j + 1) hr0 (by omega) (by rw [hc]; exact Int.mul_emod_left ..) (by omega) (by omega) (by omega)
    have e6 : r = 2 * c * 2 ^ j := by rw [hc, hp2, Int.mul_comm 2 c, Int.mul_assoc]
    have e7 : r + 2 ^ j = (2 * c + 1) * 2 ^ j := by rw [Int.add_mul, ← e6, Int.one_mul]
    have ht0 : 0 ≤ (r + 2 ^ j) * (r + 2 ^ j) := Int.mul_nonneg (by omega) (by omega)
    obtain ⟨t1, t2, t3⟩ := two_words (t := (r + 2 ^ j) * (r + 2 ^ j)) l0 l1 hN ht0
    have yes : (r + 2 ^ j) * (r + 2 ^ j) ≤ N → Ev (fun k => pylonref01_root.l0 k hi lo (r + 2 ^ j) ((j : Int) - 1)) root := fun h =>
      ih (r + 2 ^ j) (2 * c + 1) (by omega) e7 (by omega) (by omega) h (by rw [hp2] at h2; rw [show r + 2 ^ j + 2 ^ j = r + 2 * 2 ^ j by omega]; exact h2)
    have no : N < (r + 2 ^ j) * (r + 2 ^ j) → Ev (fun k => pylonref01_root.l0 k hi lo r ((j : Int) - 1)) root := fun h => ih r (2 * c) (by omega) e6 (by omega) (by omega) h1 h
    refine Ev.shift ?_
    simp only [pylonref01_root.l0, e1, e2, e3, e4, e5, if_pos (show (j : Int) ≥ 0 by omega), if_pos (show (0 : Int) ≤ (j : Int) by omega), product_f (show 0 ≤ r + 2 ^ j by omega) (show r + 2 ^ j < 18446744073709551616 by omega) (show 0 ≤ r + 2 ^ j by omega) (show r + 2 ^ j < 18446744073709551616 by omega), Option.bind_some]
    by_cases g : (r + 2 ^ j) * (r + 2 ^ j) / 18446744073709551616 < hi
    · simp only [if_pos g]
      exact yes (t1 g)
    · simp only [if_neg g]
      by_cases g2 : (r + 2 ^ j) * (r + 2 ^ j) / 18446744073709551616 = hi
      · simp only [if_pos g2]
        by_cases g3 : (r + 2 ^ j) * (r + 2 ^ j) % 18446744073709551616 ≤ lo
        · simp only [if_pos g3]
          exact yes ((t2 g2).1 g3)
        · simp only [if_neg g3]
          exact no (by have := t2 g2; omega)
      · simp only [if_neg g2]
        exact no (t3 g g2)
theorem refroot_f {hi lo N root : Int} (h0 : 0 ≤ hi) (h1 : hi < 18446744073709551616) (l0 : 0 ≤ lo) (l1 : lo < 18446744073709551616) (hN : N = hi * 18446744073709551616 + lo) (hr : IsRoot N root) : Ev (fun k => pylonref01_root.f k hi lo) root := by
  unfold pylonref01_root.f
  have e : (2 : Int) ^ 64 = 18446744073709551616 := by rfl
  have := refroot_l0 h0 l0 l1 hN hr 64 0 0 (by omega) (by simp) (by omega) (by omega) (by omega) (by rw [e]; omega)
  exact this
theorem refsq_size {a : Int} (h0 : -9223372036854775808 ≤ a) (h1 : a ≤ 9223372036854775807) : 0 ≤ a * a ∧ a * a ≤ 85070591730234615865843651857942052864 ∧ (a.natAbs : Int) * a.natAbs = a * a := by
  have e : (a.natAbs : Int) * a.natAbs = a * a := Int.natAbs_mul_self
  have h2 : (a.natAbs : Int) ≤ 9223372036854775808 := by omega
  have h3 : (a.natAbs : Int) * a.natAbs ≤ 9223372036854775808 * 9223372036854775808 := Int.mul_le_mul h2 h2 (by omega) (by omega)
  have h4 : 0 ≤ (a.natAbs : Int) * a.natAbs := Int.mul_nonneg (by omega) (by omega)
  exact ⟨by omega, by omega, e⟩
theorem refhyp_f {a b r : Int} (ha0 : -9223372036854775808 ≤ a) (ha1 : a ≤ 9223372036854775807) (hb0 : -9223372036854775808 ≤ b) (hb1 : b ≤ 9223372036854775807) (hr : IsRoot (a * a + b * b) r) :
    Ev (fun k => pylonref01_Hyp.f k a b) (fits r) := by
  obtain ⟨sa0, sa1, sa2⟩ := refsq_size ha0 ha1
  obtain ⟨sb0, sb1, sb2⟩ := refsq_size hb0 hb1
  unfold pylonref01_Hyp.f
  simp only [mag_f ha0 ha1, mag_f hb0 hb1, Option.bind_some, product_f (show (0 : Int) ≤ (a.natAbs : Int) by omega) (show (a.natAbs : Int) < 18446744073709551616 by omega) (show (0 : Int) ≤ (a.natAbs : Int) by omega) (show (a.natAbs : Int) < 18446744073709551616 by omega),
    product_f (show (0 : Int) ≤ (b.natAbs : Int) by omega) (show (b.natAbs : Int) < 18446744073709551616 by omega) (show (0 : Int) ≤ (b.natAbs : Int) by omega) (show (b.natAbs : Int) < 18446744073709551616 by omega), sa2, sb2]
  generalize a * a = A at *
  generalize b * b = B at *
  have hr0 := hr.1
  have hr1 := hr.le_of (x := 18446744073709551616) (by omega) (by omega)
  have h1 := hr.2.1
  have hlt : r < 18446744073709551616 := by
    rcases Int.lt_or_le r 18446744073709551616 with g | g
    · exact g
    · have e : r = 18446744073709551616 := by omega
      rw [e] at h1
      omega
  have fin : Ev (fun k => (pylonref01_signed.f k false 0 r).bind fun bt => some (bt.1, bt.2)) (fits r) := by
    refine ev_bind (a := fits r) (Ev.shift (Ev.ofEqK (fun k => ?_))) (Ev.pair _)
    rw [signed_f k false (by omega) hr0 hlt]
    simp
  have e1 : IntKind.u64.wrap (A % 18446744073709551616 + B % 18446744073709551616) = (A + B) % 18446744073709551616 := by simp only [IntKind.wrap_u64]; omega
  have e2 : IntKind.u64.wrap (A / 18446744073709551616 + B / 18446744073709551616) = A / 18446744073709551616 + B / 18446744073709551616 := w64 (by omega) (by omega)
  have e3 : IntKind.u64.wrap (A / 18446744073709551616 + B / 18446744073709551616 + 1) = A / 18446744073709551616 + B / 18446744073709551616 + 1 := w64 (by omega) (by omega)
  rw [e1, e2, e3]
  by_cases g : (A + B) % 18446744073709551616 < A % 18446744073709551616
  · simp only [if_pos g]
    exact ev_bind (refroot_f (N := A + B) (by omega) (by omega) (by omega) (by omega) (by omega) hr) fin
  · simp only [if_neg g]
    exact ev_bind (refroot_f (N := A + B) (by omega) (by omega) (by omega) (by omega) (by omega) hr) fin
end Go.Proofs.YthejabcfbbmkeaaDoor.PureG

/- Texts of numbers: the reference's IsText and fix.Read, each said in plain words. -/
set_option linter.unusedVariables false
set_option linter.unusedSimpArgs false
namespace Go.Proofs.YthejabcfbbmkeaaDoor.PureG
open Go.RowKit Go.Proofs.YthejabcfbbmkeaaDoor.PG Go.Proofs.YthejabcfbbmkeaaDoor.Num Go.Proofs.YthejabcfbbmkeaaDoor.Dig Go.Proofs.YthejabcfbbmkeaaDoorW.PrintWords Go.Proofs.YthejabcfbbmkeaaDoorW.PrintLast Go.Proofs.YthejabcfbbmkeaaDoorW.PrintMore

theorem sz_mk (l : List UInt8) : (ByteArray.mk l.toArray).size = l.length := by simp [ByteArray.size]
theorem bt_mk (l : List UInt8) (i : Int) : bt ⟨l.toArray⟩ i = ((rdOf (0 : UInt8) l i).toNat : Int) := by
  unfold bt rdOf
  by_cases h : i.toNat < l.length
  · rw [dif_pos (by rw [sz_mk]; exact h), List.getD_eq_getElem?_getD, List.getElem?_eq_getElem h]; rfl
  · rw [dif_neg (by rw [sz_mk]; exact h), List.getD_eq_getElem?_getD, List.getElem?_eq_none (by omega)]; rfl
theorem list_mk (l : List UInt8) : (ByteArray.mk l.toArray).toList = l := by rw [ByteArray.toList_eq]
theorem tail_mk (l : List UInt8) : (ByteArray.mk l.toArray).extract 1 (ByteArray.mk l.toArray).size = ⟨l.tail.toArray⟩ := by
  apply ByteArray.ext
  rw [ByteArray.data_extract, sz_mk]
  apply Array.ext'
  cases l with
  | nil => rfl
  | cons a r => simp
/-- The sign's test. -/
theorem sign_mk (l : List UInt8) (h : 0 < l.length) : (bt ⟨l.toArray⟩ 0 == 45) = decide (l.head? = some 45) := by
  cases l with
  | nil => simp at h
  | cons a r =>
    rw [bt_mk]
    have e : rdOf (0 : UInt8) (a :: r) 0 = a := rfl
    rw [e]
    by_cases c : a = 45
    · subst c; simp
    · have : (a.toNat : Int) ≠ 45 := fun h => c (UInt8.toNat_inj.1 (show a.toNat = 45 by omega))
      simp [c, this]
theorem istext_loop (l : List UInt8) (hl : (l.length : Int) ≤ 281474976710656) : ∀ (n : Nat) (i : Int), 0 ≤ i → i ≤ l.length → ((l.length : Int) - i).toNat = n →
    Ev (fun k => pylonref01_IsText.l0 k ⟨l.toArray⟩ i) (decide (digs (l.drop i.toNat))) := by
  intro n
  induction n with
  | zero =>
    intro i h0 h1 hn
    refine Ev.shift ?_
    simp only [pylonref01_IsText.l0, sz_mk, if_neg (show ¬ i < (l.length : Int) by omega)]
    rw [drop_end (by omega), decide_eq_true (show digs [] from fun c hc => by cases hc)]
    exact Ev.now _
  | succ n ih =>
    intro i h0 h1 hn
    have hlt : i < (l.length : Int) := by omega
    have IH := ih (i + 1) (by omega) (by omega) (by omega)
    refine Ev.shift ?_
    simp only [pylonref01_IsText.l0, sz_mk, if_pos hlt, if_pos h0, bt_mk, i64in (x := i + 1) (by omega) (by omega)]
    rw [drop_cons (0 : UInt8) h0 hlt]
    generalize rdOf (0 : UInt8) l i = c at *
    by_cases c1 : (c.toNat : Int) < 48
    · simp only [if_pos c1]
      rw [decide_eq_false (fun h => by have := (digs_cons.1 h).1; omega)]
      exact Ev.now _
    · by_cases c2 : (c.toNat : Int) > 57
      · simp only [if_neg c1, if_pos c2]
        rw [decide_eq_false (fun h => by have := (digs_cons.1 h).1; omega)]
        exact Ev.now _
      · simp only [if_neg c1, if_neg c2]
        rw [decide_eq_decide.2 (show digs (c :: l.drop (i + 1).toNat) ↔ digs (l.drop (i + 1).toNat) from ⟨fun h => (digs_cons.1 h).2, fun h => digs_cons.2 ⟨by omega, h⟩⟩)]
        exact IH
theorem bt0 {l m : List UInt8} {c : UInt8} (h : l = c :: m) : bt ⟨l.toArray⟩ 0 = (c.toNat : Int) := by subst h; rw [bt_mk]; rfl
theorem is48 {c : UInt8} : (c.toNat : Int) = 48 ↔ c = 48 := ⟨fun h => UInt8.toNat_inj.1 (show c.toNat = 48 by omega), fun h => by subst h; rfl⟩
/-- IsText asks whether it is a number's text. -/
theorem istext_f (l : List UInt8) (hl : (l.length : Int) ≤ 281474976710656) : Ev (fun k => pylonref01_IsText.f k ⟨l.toArray⟩) (decide (isNum l)) := by
  have hm := mag_len l
  have j2t : ∀ m : List UInt8, Ev (fun k => pylonref01_IsText.j2 k ⟨m.toArray⟩ true) false := fun m => by
    refine Ev.shift ?_
    simp only [pylonref01_IsText.j2, if_true]
    exact Ev.now _
  have j2f : Ev (fun k => pylonref01_IsText.j2 k ⟨(mag l).toArray⟩ false) (decide (digs (mag l))) := by
    refine Ev.shift ?_
    simp only [pylonref01_IsText.j2, Bool.false_eq_true, if_false]
    have := istext_loop (mag l) (by omega) _ 0 (by omega) (by omega) rfl
    simpa using this
  have key : Ev (fun k => pylonref01_IsText.j1 k ⟨(mag l).toArray⟩ (decide (l.head? = some 45))) (decide (isNum l)) := by
    refine Ev.shift ?_
    simp only [pylonref01_IsText.j1, sz_mk]
    rcases hM : mag l with _ | ⟨c, r⟩
    · simp only [List.length_nil, Int.natCast_zero, if_true]
      rw [decide_eq_false (fun h => h.2.1 hM)]
      exact j2t []
    · rw [hM] at j2f hm
      simp only [List.length_cons] at hm ⊢
      simp only [if_neg (show ¬ (((r.length + 1 : Nat)) : Int) = 0 by omega), if_pos (show (0 : Int) < ((r.length + 1 : Nat) : Int) by omega), bt0 (l := c :: r) rfl]
      by_cases h48 : c = 48
      · simp only [if_pos (is48.2 h48)]
        by_cases h1 : ((r.length + 1 : Nat) : Int) > 1
        · simp only [if_pos h1]
          rw [decide_eq_false (fun h => by
            have := h.2.2 (by rw [hM, h48]; rfl)
            have h3 := congrArg List.length this
            simp only [List.length_cons, List.length_nil] at h3; omega)]
          exact j2t _
        · simp only [if_neg h1]
          have hr : r = [] := List.eq_nil_of_length_eq_zero (by omega)
          by_cases hn : l.head? = some 45
          · simp only [hn, decide_true]
            rw [decide_eq_false (fun h => by
              have := h.2.2 (by rw [hM, h48]; rfl)
              rw [this] at hn; simp at hn)]
            exact j2t _
          · simp only [hn, decide_false]
            have hl2 : l = [48] := by
              have : mag l = l := by unfold mag; rw [if_neg hn]
              rw [← this, hM, hr, h48]
            rw [decide_eq_decide.2 (show isNum l ↔ digs (c :: r) from ⟨fun h => hM ▸ h.1, fun h => ⟨by rw [hM]; exact h, by rw [hM]; simp, fun _ => hl2⟩⟩)]
            exact j2f
      · simp only [if_neg (fun h => h48 (is48.1 h))]
        rw [decide_eq_decide.2 (show isNum l ↔ digs (c :: r) from ⟨fun h => hM ▸ h.1, fun h => ⟨by rw [hM]; exact h, by rw [hM]; simp, fun h2 => by rw [hM] at h2; simp at h2; exact absurd h2 h48⟩⟩)]
        exact j2f
  have j0 : Ev (fun k => pylonref01_IsText.j0 k ⟨l.toArray⟩ (decide (l.head? = some 45))) (decide (isNum l)) := by
    refine Ev.shift ?_
    simp only [pylonref01_IsText.j0]
    by_cases hn : l.head? = some 45
    · have hpos : 0 < l.length := by cases l with
        | nil => simp at hn
        | cons a r => simp
      have hM : mag l = l.tail := by unfold mag; rw [if_pos hn]
      rw [hM] at key
      simp only [hn, decide_true, if_true, if_pos (show (1 : Int) ≤ ((ByteArray.mk l.toArray).size : Int) by rw [sz_mk]; omega), tail_mk] at key ⊢
      exact key
    · have hM : mag l = l := by unfold mag; rw [if_neg hn]
      rw [hM] at key
      simp only [hn, decide_false, Bool.false_eq_true, if_false] at key ⊢
      exact key
  unfold pylonref01_IsText.f
  by_cases hp : 0 < l.length
  · simp only [sz_mk, if_pos (show ((l.length : Nat) : Int) > 0 by omega), if_pos (show (0 : Int) < ((l.length : Nat) : Int) by omega), sign_mk l hp]
    exact j0
  · have e : l = [] := List.eq_nil_of_length_eq_zero (by omega)
    simp only [sz_mk, if_neg (show ¬ ((l.length : Nat) : Int) > 0 by omega)]
    subst e
    exact j0

/-! ### fix.Read -/
/-- What the parse gives. -/
def readE (s : ByteArray) : Int × Int := if Hand.parseOk s = true then (Hand.parseV s, 0) else (0, 5)
theorem readE_num {l : List UInt8} (h : isNum l) : readE ⟨l.toArray⟩ = fits (num l) := by
  have hp := parse_num h
  unfold readE Hand.parseOk Hand.parseV fits
  by_cases c : -9223372036854775808 ≤ num l ∧ num l ≤ 9223372036854775807
  · rw [if_pos c] at hp ⊢
    simp only [hp, if_true]
  · rw [if_neg c] at hp ⊢
    simp only [hp, Bool.false_eq_true, if_false]
theorem read_loop (s : ByteArray) (hs : s.size ≤ 281474976710656) (l : List UInt8) (hl : (l.length : Int) ≤ 281474976710656) : ∀ (n : Nat) (i : Int), 0 ≤ i → i ≤ l.length → ((l.length : Int) - i).toNat = n →
    Ev (fun k => fix_Read.l0 k s ⟨l.toArray⟩ (l.length : Int) i) (if digs (l.drop i.toNat) then readE s else (0, 1)) := by
  intro n
  induction n with
  | zero =>
    intro i h0 h1 hn
    refine Ev.shift ?_
    simp only [fix_Read.l0, sz_mk, if_neg (show ¬ i < (l.length : Int) by omega), if_pos (show Hand.parseFit s = true from decide_eq_true hs)]
    rw [drop_end (by omega), if_pos (show digs [] from fun c hc => by cases hc)]
    simp only [Option.isNone_none, Option.isNone_some, if_true, Bool.false_eq_true, if_false]
    exact Ev.ofEqK fun k => by unfold readE; by_cases c : Hand.parseOk s = true <;> simp [c]
  | succ n ih =>
    intro i h0 h1 hn
    have hlt : i < (l.length : Int) := by omega
    have IH := ih (i + 1) (by omega) (by omega) (by omega)
    refine Ev.shift ?_
    simp only [fix_Read.l0, sz_mk, if_pos hlt, if_pos h0, bt_mk, i64in (x := i + 1) (by omega) (by omega)]
    rw [drop_cons (0 : UInt8) h0 hlt]
    generalize rdOf (0 : UInt8) l i = c at *
    by_cases c1 : (c.toNat : Int) < 48
    · simp only [if_pos c1]
      rw [if_neg (fun h => by have := (digs_cons.1 h).1; omega)]
      exact Ev.now _
    · by_cases c2 : (c.toNat : Int) > 57
      · simp only [if_neg c1, if_pos c2]
        rw [if_neg (fun h => by have := (digs_cons.1 h).1; omega)]
        exact Ev.now _
      · simp only [if_neg c1, if_neg c2]
        have e : (digs (c :: l.drop (i + 1).toNat)) = digs (l.drop (i + 1).toNat) := propext ⟨fun h => (digs_cons.1 h).2, fun h => digs_cons.2 ⟨by omega, h⟩⟩
        simp only [e]
        exact IH
theorem read_f (l : List UInt8) (hl : l.length ≤ 281474976710656) : Ev (fun k => fix_Read.f k ⟨l.toArray⟩) (readA l) := by
  have hm := mag_len l
  have j2t : ∀ m : List UInt8, Ev (fun k => fix_Read.j2 k ⟨l.toArray⟩ ⟨m.toArray⟩ true) (0, 1) := fun m => by
    refine Ev.shift ?_
    simp only [fix_Read.j2, if_true]
    exact Ev.now _
  have j2f : Ev (fun k => fix_Read.j2 k ⟨l.toArray⟩ ⟨(mag l).toArray⟩ false) (if digs (mag l) then readE ⟨l.toArray⟩ else (0, 1)) := by
    refine Ev.shift ?_
    simp only [fix_Read.j2, Bool.false_eq_true, if_false, sz_mk]
    have := read_loop ⟨l.toArray⟩ (by rw [sz_mk]; exact hl) (mag l) (by omega) _ 0 (by omega) (by omega) rfl
    simpa using this
  have key : Ev (fun k => fix_Read.j1 k ⟨l.toArray⟩ ⟨(mag l).toArray⟩) (readA l) := by
    refine Ev.shift ?_
    simp only [fix_Read.j1, sz_mk, list_mk]
    unfold readA
    rcases hM : mag l with _ | ⟨c, r⟩
    · simp only [if_true]
      rw [if_neg (fun h => h.2.1 hM)]
      exact j2t []
    · rw [hM] at j2f hm
      simp only [List.length_cons, reduceCtorEq, if_false] at hm ⊢
      simp only [if_pos (show (0 : Int) < ((r.length + 1 : Nat) : Int) by omega), bt0 (l := c :: r) rfl]
      by_cases h48 : c = 48
      · simp only [if_pos (is48.2 h48)]
        by_cases h1 : l = [48]
        · have hn : isNum l := by rw [h1]; decide
          have hd : digs (c :: r) := hM ▸ hn.1
          have e : (l != ([48] : List UInt8)) = false := by rw [h1]; rfl
          simp only [e]
          rw [if_pos hn, ← readE_num hn]
          rw [if_pos hd] at j2f
          exact j2f
        · have e : (l != ([48] : List UInt8)) = true := by simpa using h1
          simp only [e]
          rw [if_neg (fun h => h1 (h.2.2 (by rw [hM, h48]; rfl)))]
          exact j2t _
      · simp only [if_neg (fun h => h48 (is48.1 h))]
        by_cases hd : digs (c :: r)
        · have hn : isNum l := ⟨by rw [hM]; exact hd, by rw [hM]; simp, fun h2 => by rw [hM] at h2; simp at h2; exact absurd h2 h48⟩
          rw [if_pos hn, ← readE_num hn]
          rw [if_pos hd] at j2f
          exact j2f
        · rw [if_neg (fun h => hd (hM ▸ h.1))]
          rw [if_neg hd] at j2f
          exact j2f
  have j0 : Ev (fun k => fix_Read.j0 k ⟨l.toArray⟩ ⟨l.toArray⟩ (decide (l.head? = some 45))) (readA l) := by
    refine Ev.shift ?_
    simp only [fix_Read.j0]
    by_cases hn : l.head? = some 45
    · have hpos : 0 < l.length := by cases l with
        | nil => simp at hn
        | cons a r => simp
      have hM : mag l = l.tail := by unfold mag; rw [if_pos hn]
      rw [hM] at key
      simp only [hn, decide_true, if_true, if_pos (show (1 : Int) ≤ ((ByteArray.mk l.toArray).size : Int) by rw [sz_mk]; omega), tail_mk] at key ⊢
      exact key
    · have hM : mag l = l := by unfold mag; rw [if_neg hn]
      rw [hM] at key
      simp only [hn, decide_false, Bool.false_eq_true, if_false] at key ⊢
      exact key
  unfold fix_Read.f
  by_cases hp : 0 < l.length
  · simp only [sz_mk, if_pos (show ((l.length : Nat) : Int) > 0 by omega), if_pos (show (0 : Int) < ((l.length : Nat) : Int) by omega), sign_mk l hp]
    exact j0
  · have e : l = [] := List.eq_nil_of_length_eq_zero (by omega)
    simp only [sz_mk, if_neg (show ¬ ((l.length : Nat) : Int) > 0 by omega)]
    subst e
    exact j0
end Go.Proofs.YthejabcfbbmkeaaDoor.PureG

/- The reference's Text and Read, each said in plain words. -/
set_option linter.unusedVariables false
set_option linter.unusedSimpArgs false
namespace Go.Proofs.YthejabcfbbmkeaaDoor.PureG
open Go.RowKit Go.Proofs.YthejabcfbbmkeaaDoor.PG Go.Proofs.YthejabcfbbmkeaaDoor.Num Go.Proofs.YthejabcfbbmkeaaDoor.Dig Go.Proofs.YthejabcfbbmkeaaDoorW.PrintWords Go.Proofs.YthejabcfbbmkeaaDoorW.PrintLast Go.Proofs.YthejabcfbbmkeaaDoorW.PrintMore

theorem enc {d : Int} (h0 : 0 ≤ d) (h1 : d < 10) : Go.Utf8.encode (wrap32 (IntKind.u64.wrap (48 + d))) = ⟨[UInt8.ofNat (48 + d.toNat)].toArray⟩ := by
  have e : wrap32 (IntKind.u64.wrap (48 + d)) = 48 + d := by
    rw [w64 (by omega) (by omega)]; unfold wrap32; omega
  have hv : Go.Utf8.valid (48 + d) = true := by unfold Go.Utf8.valid; simp; omega
  rw [e]
  unfold Go.Utf8.encode
  simp only [hv, if_true]
  rw [if_pos (by omega), show (48 + d).toNat = 48 + d.toNat by omega]
theorem app_mk (l m : List UInt8) : (ByteArray.mk l.toArray) ++ (ByteArray.mk m.toArray) = ⟨(l ++ m).toArray⟩ := by
  apply ByteArray.ext
  rw [ByteArray.data_append]
  simp
def sgn (n : Int) (l : List UInt8) : List UInt8 := if n < 0 then 45 :: l else l
theorem text_end {n : Int} {m : List UInt8} (hm : m ≠ []) (hl : m.length ≤ 1000) : Ev (fun k => pylonref01_Text.l0 k n 0 ⟨m.toArray⟩) ⟨(sgn n m).toArray⟩ := by
  refine Ev.shift ?_
  simp only [pylonref01_Text.l0, show ¬ (0 : Int) > 0 by omega, if_false, list_mk, if_neg hm, sz_mk]
  unfold sgn
  by_cases c : n < 0
  · simp only [if_pos c, if_pos (show 1 + m.length ≤ 9223372036854775807 by omega)]
    have := app_mk [45] m
    simp only [List.cons_append, List.nil_append] at this
    rw [← this]
    exact Ev.now _
  · simp only [if_neg c]
    exact Ev.now _
theorem text_step {n : Int} {u : Nat} {m : List UInt8} {R : ByteArray} (hu : u < 18446744073709551616) (h : u ≠ 0 ∨ m = []) (hl : m.length ≤ 1000) (hN : Ev (fun k => pylonref01_Text.l0 k n ((u / 10 : Nat) : Int) ⟨(UInt8.ofNat (48 + u % 10) :: m).toArray⟩) R) :
    Ev (fun k => pylonref01_Text.l0 k n (u : Int) ⟨m.toArray⟩) R := by
  have e1 : Int.tmod (u : Int) 10 = ((u % 10 : Nat) : Int) := by rw [Int.tmod_eq_emod_of_nonneg (by omega)]; omega
  have e2 : IntKind.u64.wrap (Int.tdiv (u : Int) 10) = ((u / 10 : Nat) : Int) := by rw [Int.tdiv_eq_ediv_of_nonneg (by omega), w64 (by omega) (by omega)]; omega
  have e3 := enc (d := ((u % 10 : Nat) : Int)) (by omega) (by omega)
  rw [Int.toNat_natCast] at e3
  have e4 := app_mk [UInt8.ofNat (48 + u % 10)] m
  simp only [List.cons_append, List.nil_append] at e4
  refine Ev.shift ?_
  simp only [pylonref01_Text.l0, e1, e2, e3, e4, list_mk, sz_mk, List.length_cons, List.length_nil, if_pos (show 0 + 1 + m.length ≤ 9223372036854775807 by omega)]
  by_cases c : u = 0
  · have hm : m = [] := by rcases h with h | h; exact absurd c h; exact h
    simp only [show ¬ (u : Int) > 0 by omega, if_false, if_pos hm]
    exact hN
  · simp only [if_pos (show (u : Int) > 0 by omega)]
    exact hN
theorem dec_len (u : Nat) (h : u < 18446744073709551616) : (Lib.decDigits u).length ≤ 100 := by
  have hv := val_lt (Lib.decDigits u)
  have key : ∀ (n u : Nat), u < 10 ^ n → (Lib.decDigits u).length ≤ n + 1 := by
    intro n
    induction n with
    | zero =>
      intro u hu
      rw [Lib.decDigits, dif_pos (by omega)]; simp
    | succ n ih =>
      intro u hu
      rw [Lib.decDigits]
      by_cases c : u < 10
      · rw [dif_pos c]; simp
      · rw [dif_neg c]
        have := ih (u / 10) (by rw [Nat.pow_succ] at hu; omega)
        simp; omega
  have := key 20 u (by omega)
  omega
theorem text_loop (n : Int) : ∀ (u : Nat), u < 18446744073709551616 → ∀ (m : List UInt8), (u ≠ 0 ∨ m = []) → m.length + (Lib.decDigits u).length ≤ 1000 →
    Ev (fun k => pylonref01_Text.l0 k n (u : Int) ⟨m.toArray⟩) ⟨(sgn n (Lib.decDigits u ++ m)).toArray⟩ := by
  intro u
  induction u using Nat.strongRecOn with
  | _ u ih =>
    intro hu m h hl
    refine text_step hu h (by omega) ?_
    rw [Lib.decDigits] at hl ⊢
    by_cases c : u < 10
    · rw [dif_pos c] at hl ⊢
      rw [show u / 10 = 0 by omega, show u % 10 = u by omega]
      simp only [List.cons_append, List.nil_append, List.length_cons, List.length_nil] at hl ⊢
      exact text_end (by simp) (by simp; omega)
    · rw [dif_neg c] at hl ⊢
      simp only [List.length_append, List.length_cons, List.length_nil] at hl
      rw [List.append_assoc]
      exact ih (u / 10) (by omega) (by omega) (UInt8.ofNat (48 + u % 10) :: m) (.inl (by omega)) (by simp only [List.length_cons]; omega)
theorem reftext_f {n : Int} (h0 : -9223372036854775808 ≤ n) (h1 : n ≤ 9223372036854775807) : Ev (fun k => pylonref01_Text.f k n) ⟨(Lib.itoa n).toArray⟩ := by
  unfold pylonref01_Text.f
  simp only [mag_f h0 h1, Option.bind_some]
  have := text_loop n n.natAbs (by omega) [] (.inr rfl) (by have := dec_len n.natAbs (by omega); simp; omega)
  have e : sgn n (Lib.decDigits n.natAbs ++ []) = Lib.itoa n := by
    unfold sgn Lib.itoa
    rw [List.append_nil]
    by_cases c : n < 0
    · rw [if_pos c, if_pos c]
    · rw [if_neg c, if_neg c, show n.natAbs = n.toNat by omega]
  rw [e] at this
  exact this

/-! ### Read -/
theorem refread_loop (neg : Bool) (l : List UInt8) (hl : (l.length : Int) ≤ 281474976710656) (hd : digs l) : ∀ (n : Nat) (i : Int) (a : Nat), 0 ≤ i → i ≤ l.length → ((l.length : Int) - i).toNat = n → a ≤ 9223372036854775808 →
    Ev (fun k => pylonref01_Read.l0 k ⟨l.toArray⟩ neg (a : Int) i) (fits (if neg = true then -(val a (l.drop i.toNat) : Int) else (val a (l.drop i.toNat) : Int))) := by
  intro n
  induction n with
  | zero =>
    intro i a h0 h1 hn ha
    refine Ev.shift (Ev.shift ?_)
    simp only [pylonref01_Read.l0, sz_mk, if_neg (show ¬ i < (l.length : Int) by omega), signed_f _ neg (hi := 0) (lo := (a : Int)) (by omega) (by omega) (by omega), Option.bind_some]
    rw [drop_end (by omega), val_nil, Int.zero_mul, Int.zero_add]
    exact Ev.pair _
  | succ n ih =>
    intro i a h0 h1 hn ha
    have hlt : i < (l.length : Int) := by omega
    have hc := hd (rdOf (0 : UInt8) l i) (by
      have := drop_cons (0 : UInt8) h0 hlt
      exact List.mem_of_mem_drop (by rw [this]; simp))
    refine Ev.shift ?_
    simp only [pylonref01_Read.l0, sz_mk, if_pos hlt, if_pos h0, bt_mk, i64in (x := i + 1) (by omega) (by omega)]
    rw [drop_cons (0 : UInt8) h0 hlt, val_cons]
    generalize rdOf (0 : UInt8) l i = c at *
    have hs := Dig.step_eq a c
    have IH := ih (i + 1) (Dig.step a c) (by omega) (by omega) (by omega)
    have hv := le_val (l.drop (i + 1).toNat) (Dig.step a c)
    rw [show ((c.toNat : Int) - 48) % 256 = (c.toNat : Int) - 48 by omega]
    by_cases g : (a : Int) > (9223372036854775808 - ((c.toNat : Int) - 48)) / 10
    · simp only [if_pos g]
      unfold fits
      rw [if_neg (by cases neg <;> simp <;> omega)]
      exact Ev.now _
    · simp only [if_neg g]
      rw [w64 (x := (a : Int) * 10) (by omega) (by omega), w64 (x := (a : Int) * 10 + ((c.toNat : Int) - 48)) (by omega) (by omega), show (a : Int) * 10 + ((c.toNat : Int) - 48) = ((Dig.step a c : Nat) : Int) by omega]
      exact IH (by omega)
theorem refread_f (l : List UInt8) (hl : l.length ≤ 281474976710656) : Ev (fun k => pylonref01_Read.f k ⟨l.toArray⟩) (readA l) := by
  have hm := mag_len l
  unfold pylonref01_Read.f readA
  refine Ev.bind (istext_f l (by omega)) ?_
  by_cases hn : isNum l
  · have hp : 0 < l.length := by
      have := List.length_pos_iff.2 hn.2.1
      omega
    have hL := refread_loop (decide (l.head? = some 45)) (mag l) (by omega) hn.1 _ 0 0 (by omega) (by omega) rfl (by omega)
    simp only [Int.toNat_zero, List.drop_zero, decide_eq_true_eq] at hL
    have key : Ev (fun k => pylonref01_Read.j0 k ⟨(mag l).toArray⟩ (decide (l.head? = some 45))) (fits (num l)) := by
      refine Ev.shift ?_
      simp only [pylonref01_Read.j0]
      unfold num
      exact hL
    rw [if_pos hn]
    simp only [decide_eq_true hn, if_true, sz_mk, if_pos (show (0 : Int) < (l.length : Int) by omega), sign_mk l hp]
    by_cases c : l.head? = some 45
    · have hM : mag l = l.tail := by unfold mag; rw [if_pos c]
      have hb : bt ⟨l.toArray⟩ 0 = 45 := by
        have := sign_mk l hp
        rw [decide_eq_true c] at this
        simpa using this
      have ht := tail_mk l
      rw [sz_mk] at ht
      rw [hM] at key
      simp only [if_pos hb, if_pos (show (1 : Int) ≤ (l.length : Int) by omega), ht]
      exact key
    · have hM : mag l = l := by unfold mag; rw [if_neg c]
      have hb : ¬ bt ⟨l.toArray⟩ 0 = 45 := fun h => by
        have := sign_mk l hp
        rw [decide_eq_false c] at this
        simp [h] at this
      rw [hM] at key
      simp only [if_neg hb]
      exact key
  · rw [if_neg hn]
    simp only [decide_eq_false hn, Bool.false_eq_true, if_false]
    exact Ev.now _
end Go.Proofs.YthejabcfbbmkeaaDoor.PureG

/- Sub, Mul, Div, Root of both texts, each said in plain words. -/
set_option linter.unusedVariables false
set_option linter.unusedSimpArgs false
namespace Go.Proofs.YthejabcfbbmkeaaDoor.PureG
open Go.RowKit Go.Proofs.YthejabcfbbmkeaaDoor.PG Go.Proofs.YthejabcfbbmkeaaDoor.Num Go.Proofs.YthejabcfbbmkeaaDoorW.PrintWords Go.Proofs.YthejabcfbbmkeaaDoorW.PrintLast Go.Proofs.YthejabcfbbmkeaaDoorW.PrintMore

theorem sub_f {a b : Int} (a0 : -9223372036854775808 ≤ a) (a1 : a ≤ 9223372036854775807) (b0 : -9223372036854775808 ≤ b) (b1 : b ≤ 9223372036854775807) : fix_Sub.f a b = some (fits (a - b)) := by
  unfold fix_Sub.f fits
  by_cases hz : b = 0
  · subst hz
    rw [show a - 0 = a by omega, i64in a0 a1, if_pos (show -9223372036854775808 ≤ a ∧ a ≤ 9223372036854775807 from ⟨a0, a1⟩), if_pos rfl]
    split <;> rfl
  · rw [if_neg hz]
    by_cases hf : -9223372036854775808 ≤ a - b ∧ a - b ≤ 9223372036854775807
    · rw [if_pos hf, i64in hf.1 hf.2]
      by_cases hb : b > 0
      · rw [decide_eq_true (show a - b < a by omega), decide_eq_true hb]; simp
      · rw [decide_eq_false (show ¬ a - b < a by omega), decide_eq_false hb]; simp
    · rw [if_neg hf]
      by_cases hb : b > 0
      · have e : wrap64 (a - b) = a - b + 18446744073709551616 := by unfold wrap64; omega
        rw [e, decide_eq_false (show ¬ a - b + 18446744073709551616 < a by omega), decide_eq_true hb]
        rw [if_pos (by rfl)]
      · have e : wrap64 (a - b) = a - b - 18446744073709551616 := by unfold wrap64; omega
        rw [e, decide_eq_true (show a - b - 18446744073709551616 < a by omega), decide_eq_false hb]
        rw [if_pos (by rfl)]
theorem refsub_f {a b : Int} (ha : -9223372036854775808 ≤ a ∧ a ≤ 9223372036854775807) (hb : -9223372036854775808 ≤ b ∧ b ≤ 9223372036854775807) : Ev (fun k => pylonref01_Sub.f k a b) (fits (a - b)) := by
  unfold pylonref01_Sub.f
  by_cases c : b ≥ 0
  · simp only [if_pos c]
    rw [i64in (x := -b) (by omega) (by omega)]
    refine Ev.bind (refsum_f (l := [a, -b]) (by simp) (by intro y hy; simp at hy; rcases hy with rfl | rfl <;> omega)) ?_
    simp only [List.sum_cons, List.sum_nil, Int.add_zero]
    rw [show a + -b = a - b by omega]
    exact Ev.pair _
  · simp only [if_neg c]
    rw [i64in (x := b + 1) (by omega) (by omega), i64in (x := -(b + 1)) (by omega) (by omega)]
    refine Ev.bind (refsum_f (l := [a, -(b + 1), 1]) (by simp) (by intro y hy; simp at hy; rcases hy with rfl | rfl | rfl <;> omega)) ?_
    simp only [List.sum_cons, List.sum_nil, Int.add_zero]
    rw [show a + (-(b + 1) + 1) = a - b by omega]
    exact Ev.pair _

theorem mul_one (a b : Int) : mulDivA a b 1 = fits (a * b) := by
  unfold mulDivA mulDiv halfUp
  rw [if_neg (by omega), if_neg (by omega)]
  congr 1
  omega
theorem mul_f {a b : Int} (a0 : -9223372036854775808 ≤ a) (a1 : a ≤ 9223372036854775807) (b0 : -9223372036854775808 ≤ b) (b1 : b ≤ 9223372036854775807) : Ev (fun k => fix_Mul.f k a b) (fits (a * b)) := by
  unfold fix_Mul.f
  have hna : (0 : Int) ≤ (a.natAbs : Int) ∧ (a.natAbs : Int) ≤ 9223372036854775808 := by omega
  have hnb : (0 : Int) ≤ (b.natAbs : Int) ∧ (b.natAbs : Int) ≤ 9223372036854775808 := by omega
  have hs := prod_sign a b
  simp only [size_f a0 a1, size_f b0 b1, Option.bind_some]
  rw [mul64_f hna.1 (by omega) hnb.1 (by omega)]
  have hN0 : 0 ≤ (a.natAbs : Int) * (b.natAbs : Int) := Int.mul_nonneg hna.1 hnb.1
  have e2 : (!((decide (a < 0)) == (decide (b < 0)))) = (decide (a < 0) != decide (b < 0)) := rfl
  rw [e2]
  generalize (decide (a < 0) != decide (b < 0)) = neg at *
  generalize (a.natAbs : Int) * (b.natAbs : Int) = N at *
  refine Ev.shift ?_
  simp only [Option.bind_some, number_f _ neg (hi := N / 18446744073709551616) (lo := N % 18446744073709551616) (by omega) (by omega) (by omega)]
  rw [show N / 18446744073709551616 * 18446744073709551616 + N % 18446744073709551616 = N by omega, hs]
  exact Ev.pair _
theorem refmul_f {a b : Int} (ha : (Lit.int .i64 a).wf = true) (hb : (Lit.int .i64 b).wf = true) : Ev (fun k => pylonref01_Mul.f k a b) (fits (a * b)) := by
  unfold pylonref01_Mul.f
  refine Ev.bind (ref_muldiv_f ha hb (show (Lit.int .i64 1).wf = true by decide)) ?_
  rw [mul_one]
  exact Ev.pair _

/-! ### Div -/
def divA (a b : Int) : Int × Int × Int := if b = 0 then (0, 0, 6) else if a = -9223372036854775808 ∧ b = -1 then (0, 0, 5) else (a / b, a % b, 0)
theorem euclid {a b q r : Int} (h : q * b + r = a) (h0 : 0 ≤ r) (h1 : r < b.natAbs) : a / b = q ∧ a % b = r := by
  rcases Int.lt_trichotomy b 0 with hb | hb | hb
  · exact (Int.ediv_emod_unique' hb).2 ⟨by rw [Int.mul_comm]; omega, h0, by omega⟩
  · omega
  · exact (Int.ediv_emod_unique hb).2 ⟨by rw [Int.mul_comm]; omega, h0, by omega⟩
theorem divs_f {a b : Int} (a0 : -9223372036854775808 ≤ a) (a1 : a ≤ 9223372036854775807) (b0 : -9223372036854775808 ≤ b) (b1 : b ≤ 9223372036854775807) : Ev (fun k => fix_Div.f k a b) (divA a b) := by
  unfold divA
  by_cases h0 : b = 0
  · unfold fix_Div.f
    simp only [if_pos h0]
    exact Ev.now _
  · rw [if_neg h0]
    by_cases h1 : a = -9223372036854775808 ∧ b = -1
    · unfold fix_Div.f
      rw [if_pos h1]
      obtain ⟨rfl, rfl⟩ := h1
      simp only [if_neg h0, if_true, beq_self_eq_true]
      refine Ev.shift ?_
      simp only [fix_Div.j0, if_true]
      exact Ev.now _
    · rw [if_neg h1]
      obtain ⟨q, r, hf, h2, h3, h4, _⟩ := div_f h0 a0 a1 b0 b1 h1
      have := euclid h2 h3 h4
      rw [this.1, this.2]
      exact hf
theorem div_tail (nn neg : Bool) {q R : Int} (hq : 0 ≤ q) (hq1 : q < 18446744073709551616) (hnn : nn = true → neg = true) (hz : nn = false → neg = true → q = 0) :
    Ev (fun k => (pylonref01_signed.f k nn 0 q).bind fun bt => if bt.2 = 0 then some (bt.1, R, 0) else some (0, 0, bt.2))
      (if -9223372036854775808 ≤ (if neg = true then -q else q) ∧ (if neg = true then -q else q) ≤ 9223372036854775807 then ((if neg = true then -q else q), R, 0) else (0, 0, 5)) := by
  refine Ev.shift ?_
  simp only [signed_f _ nn (hi := 0) (lo := q) (by omega) hq hq1, Option.bind_some]
  have e : (if nn = true then -(0 * 18446744073709551616 + q) else 0 * 18446744073709551616 + q) = (if neg = true then -q else q) := by
    cases nn
    · cases neg
      · simp
      · have := hz rfl rfl; simp [this]
    · have := hnn rfl; simp [this]
  rw [e]
  unfold fits
  generalize (if neg = true then -q else q) = Q
  by_cases c : -9223372036854775808 ≤ Q ∧ Q ≤ 9223372036854775807
  · simp only [if_pos c, if_true]; exact Ev.now _
  · simp only [if_neg c, show ¬ (5 : Int) = 0 by omega, if_false]; exact Ev.now _
theorem div_fin {a b Q R : Int} (hb : b ≠ 0) (a0 : -9223372036854775808 ≤ a) (a1 : a ≤ 9223372036854775807) (e : Q * b + R = a) (R0 : 0 ≤ R) (R1 : R < b.natAbs) (hQ0 : -9223372036854775808 ≤ Q) (hQ1 : Q ≤ 9223372036854775808) :
    (if -9223372036854775808 ≤ Q ∧ Q ≤ 9223372036854775807 then (Q, R, (0 : Int)) else (0, 0, 5)) = if a = -9223372036854775808 ∧ b = -1 then (0, 0, 5) else (a / b, a % b, 0) := by
  have hu := euclid e R0 R1
  by_cases c : -9223372036854775808 ≤ Q ∧ Q ≤ 9223372036854775807
  · rw [if_pos c, if_neg, hu.1, hu.2]
    rintro ⟨rfl, rfl⟩
    omega
  · have hQ : Q = 9223372036854775808 := by omega
    subst hQ
    rw [if_neg c, if_pos (by omega)]
theorem refdiv_f {a b : Int} (a0 : -9223372036854775808 ≤ a) (a1 : a ≤ 9223372036854775807) (b0 : -9223372036854775808 ≤ b) (b1 : b ≤ 9223372036854775807) : Ev (fun k => pylonref01_Div.f k a b) (divA a b) := by
  unfold pylonref01_Div.f divA
  by_cases h0 : b = 0
  · simp only [if_pos h0]
    exact Ev.now _
  · have hA : (0 : Int) ≤ (a.natAbs : Int) ∧ (a.natAbs : Int) ≤ 9223372036854775808 := by omega
    have hB : (0 : Int) < (b.natAbs : Int) ∧ (b.natAbs : Int) ≤ 9223372036854775808 := by omega
    simp only [if_neg h0, mag_f a0 a1, mag_f b0 b1, Option.bind_some, if_neg (show ¬ (b.natAbs : Int) = 0 by omega)]
    rw [tmodn hA.1, Int.tdiv_eq_ediv_of_nonneg hA.1]
    have hqr := Int.emod_add_mul_ediv (a.natAbs : Int) (b.natAbs : Int)
    have r0 := Int.emod_nonneg (a.natAbs : Int) (show (b.natAbs : Int) ≠ 0 by omega)
    have r1 := Int.emod_lt_of_pos (a.natAbs : Int) hB.1
    have q0 : 0 ≤ (a.natAbs : Int) / (b.natAbs : Int) := Int.ediv_nonneg hA.1 (by omega)
    have q1 : (a.natAbs : Int) / (b.natAbs : Int) ≤ (a.natAbs : Int) := Int.ediv_le_self _ hA.1
    have q2 : (b.natAbs : Int) ≠ 1 → 2 * ((a.natAbs : Int) / (b.natAbs : Int)) ≤ (a.natAbs : Int) := fun h => by
      have := Int.mul_le_mul_of_nonneg_right (show (2 : Int) ≤ (b.natAbs : Int) by omega) q0
      omega
    have rz : (b.natAbs : Int) = 1 → (a.natAbs : Int) % (b.natAbs : Int) = 0 := fun h => by rw [h] at r1 ⊢; omega
    have mb : (b.natAbs : Int) = if b < 0 then -b else b := by split <;> omega
    have ma : (a.natAbs : Int) = if a < 0 then -a else a := by split <;> omega
    generalize (a.natAbs : Int) / (b.natAbs : Int) = q at *
    generalize hr : (a.natAbs : Int) % (b.natAbs : Int) = r at *
    rw [w64 q0 (by omega)]
    have low : ∀ neg : Bool, neg = (decide (a < 0) != decide (b < 0)) → (a < 0 → r = 0) → Ev (fun k => pylonref01_Div.j0 k b q r neg false) (if a = -9223372036854775808 ∧ b = -1 then (0, 0, 5) else (a / b, a % b, 0)) := by
      intro neg hneg hl
      refine Ev.shift ?_
      simp only [pylonref01_Div.j0, Bool.false_eq_true, if_false]
      rw [i64in (x := r) (by omega) (by omega)]
      rw [← div_fin (Q := if neg = true then -q else q) (R := r) h0 a0 a1 ?eq r0 r1 (by split <;> omega) (by split <;> omega)]
      case eq =>
        rw [hneg]
        by_cases sa : a < 0 <;> by_cases sb : b < 0 <;> simp only [sa, sb, decide_true, decide_false, bne_self_eq_false, Bool.false_eq_true, if_false, if_true, Bool.bne_false, Bool.bne_true, Bool.not_false, Bool.not_true, Bool.true_bne, Bool.false_bne] at * <;> grind
      cases neg
      · simp only [Bool.false_eq_true, if_false]
        have := div_tail false false (q := q) (R := r) q0 (by omega) (by simp) (by simp)
        simpa using this
      · simp only [if_true]
        have := div_tail (q != 0) true (q := q) (R := r) q0 (by omega) (by simp) (by simp)
        simpa using this
    have high : ∀ neg : Bool, neg = (decide (a < 0) != decide (b < 0)) → a < 0 → r ≠ 0 → Ev (fun k => pylonref01_Div.j0 k b q r neg true) (if a = -9223372036854775808 ∧ b = -1 then (0, 0, 5) else (a / b, a % b, 0)) := by
      intro neg hneg sa hr0
      have hb1 : (b.natAbs : Int) ≠ 1 := fun h => hr0 (rz h)
      have hq2 := q2 hb1
      refine Ev.shift ?_
      simp only [pylonref01_Div.j0, if_true, mag_f b0 b1, Option.bind_some]
      rw [w64 (x := q + 1) (by omega) (by omega), w64 (x := (b.natAbs : Int) - r) (by omega) (by omega), i64in (x := (b.natAbs : Int) - r) (by omega) (by omega)]
      rw [← div_fin (Q := if neg = true then -(q + 1) else q + 1) (R := (b.natAbs : Int) - r) h0 a0 a1 ?eq (by omega) (by omega) (by split <;> omega) (by split <;> omega)]
      case eq =>
        rw [hneg]
        by_cases sb : b < 0 <;> simp only [sa, sb, decide_true, decide_false, bne_self_eq_false, Bool.false_eq_true, if_false, if_true, Bool.bne_false, Bool.bne_true, Bool.not_false, Bool.not_true, Bool.true_bne, Bool.false_bne] at * <;> grind
      cases neg
      · simp only [Bool.false_eq_true, if_false]
        have := div_tail false false (q := q + 1) (R := (b.natAbs : Int) - r) (by omega) (by omega) (by simp) (by simp)
        simpa using this
      · simp only [if_true]
        have := div_tail (q + 1 != 0) true (q := q + 1) (R := (b.natAbs : Int) - r) (by omega) (by omega) (by simp) (by simp)
        simpa using this
    by_cases sa : a < 0
    · simp only [if_pos sa]
      by_cases hr0 : r = 0
      · have e : (r != 0) = false := by simp [hr0]
        rw [e]
        exact low _ rfl (fun _ => hr0)
      · have e : (r != 0) = true := by simp [hr0]
        rw [e]
        exact high _ rfl sa hr0
    · simp only [if_neg sa]
      exact low _ rfl (fun h => absurd h sa)

/-! ### Root -/
def rootA (a r : Int) : Int × Int := if a < 0 then (0, 5) else (r, 0)
theorem root_small {a r : Int} (h1 : a ≤ 9223372036854775807) (hr : IsRoot a r) : r ≤ 9223372036854775807 := by
  have := hr.2.1
  rcases Int.lt_or_le 9223372036854775807 r with g | g
  · have := sq_le (a := 9223372036854775808) (b := r) (by omega) (by omega)
    omega
  · exact g
theorem roots_f {a r : Int} (a0 : -9223372036854775808 ≤ a) (a1 : a ≤ 9223372036854775807) (hr : 0 ≤ a → IsRoot a r) : Ev (fun k => fix_Root.f k a) (rootA a r) := by
  unfold fix_Root.f rootA
  by_cases c : a < 0
  · simp only [if_pos c]; exact Ev.now _
  · have h := hr (by omega)
    simp only [if_neg c, w64 (show 0 ≤ a by omega) (by omega)]
    refine Ev.bind (root_f (hi := 0) (lo := a) (N := a) (by omega) (by omega) (by omega) (by omega) (by omega) h) ?_
    rw [i64in (by have := h.1; omega) (root_small a1 h)]
    exact Ev.now _
theorem refroots_f {a r : Int} (a0 : -9223372036854775808 ≤ a) (a1 : a ≤ 9223372036854775807) (hr : 0 ≤ a → IsRoot a r) : Ev (fun k => pylonref01_Root.f k a) (rootA a r) := by
  unfold pylonref01_Root.f rootA
  by_cases c : a < 0
  · simp only [if_pos c]; exact Ev.now _
  · have h := hr (by omega)
    simp only [if_neg c, w64 (show 0 ≤ a by omega) (by omega)]
    refine Ev.bind (refroot_f (hi := 0) (lo := a) (N := a) (by omega) (by omega) (by omega) (by omega) (by omega) h) ?_
    rw [i64in (by have := h.1; omega) (root_small a1 h)]
    exact Ev.now _
theorem half_f {a b : Int} (ha : (Lit.int .i64 a).wf = true) (hb : (Lit.int .i64 b).wf = true) : Ev (fun k => fix_Half.f k a b) (mulDivA a 1 b) := by
  unfold fix_Half.f
  refine Ev.bind (muldiv_f ha (show (Lit.int .i64 1).wf = true by decide) hb) ?_
  exact Ev.pair _
end Go.Proofs.YthejabcfbbmkeaaDoor.PureG
