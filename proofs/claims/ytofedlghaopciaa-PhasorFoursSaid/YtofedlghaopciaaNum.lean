/- Plain arithmetic: words of 64 bits, products and quotients of two words, half up. No program in sight. -/
import Derived.Laws.Bits64
import Derived.Laws.BitsAllLaws
import Derived.Laws.MathBits
import Derived.Test.YtofedlghaopciaaXExt
import Derived.Test.YtofedlghaopciaaWMore
set_option linter.unusedVariables false
set_option linter.unusedSimpArgs false
namespace Go.Proofs.Ytofedlghaopciaa.Num
open Go.RowKit Go.Proofs.YtofedlghaopciaaW.PrintWords Go.Proofs.YtofedlghaopciaaW.PrintMore

theorem Ev.shift {α : Type} {g : Nat → Option α} {r : α} (h : Ev (fun k => g (k + 1)) r) : Ev g r := by
  obtain ⟨K, h⟩ := h
  refine ⟨K + 1, fun k hk => ?_⟩
  obtain ⟨m, rfl⟩ : ∃ m, k = m + 1 := ⟨k - 1, by omega⟩
  exact h m (by omega)
theorem Ev.later {α : Type} {g : Nat → Option α} {r : α} (h : Ev g r) : Ev (fun k => g (k + 1)) r := by
  obtain ⟨K, h⟩ := h
  exact ⟨K, fun k hk => h (k + 1) (by omega)⟩
theorem Ev.pair {α β : Type} (F : α × β) : Ev (fun _ => some (F.1, F.2)) F := Ev.now F
theorem Ev.ofEq {α : Type} {o : Option α} {r : α} (h : o = some r) : Ev (fun _ => o) r := ⟨0, fun _ _ => h⟩
theorem Ev.unique {α : Type} {g : Nat → Option α} {r s : α} (h : Ev g r) (k : Ev g s) : r = s := by
  obtain ⟨K, h⟩ := h
  obtain ⟨L, k⟩ := k
  have a := h (max K L) (Nat.le_max_left _ _)
  have b := k (max K L) (Nat.le_max_right _ _)
  rw [a] at b
  exact Option.some.inj b

theorem w64 {x : Int} (h0 : 0 ≤ x) (h : x < 18446744073709551616) : IntKind.u64.wrap x = x := by rw [IntKind.wrap_u64]; omega
theorem i64in {x : Int} (h0 : -9223372036854775808 ≤ x) (h : x ≤ 9223372036854775807) : wrap64 x = x := by unfold wrap64; omega
theorem wf64 {x : Int} (h : (Lit.int .i64 x).wf = true) : -9223372036854775808 ≤ x ∧ x ≤ 9223372036854775807 := by
  simpa [Lit.wf, IntKind.min, IntKind.max, IntKind.bits, IntKind.signed] using h

theorem and_mask32 {x : Int} (h0 : 0 ≤ x) (h : x < 18446744073709551616) : Go.bits .and .u64 x 4294967295 = x % 4294967296 := by
  rw [u64_and x 4294967295 h0 h (by omega) (by omega)]
  obtain ⟨n, rfl⟩ := Int.eq_ofNat_of_zero_le h0
  have := Nat.and_two_pow_sub_one_eq_mod n 32
  simp only [Int.toNat_natCast]
  rw [show (4294967295 : Int).toNat = 2 ^ 32 - 1 by rfl, this]
  omega
theorem and_one {x : Int} (h0 : 0 ≤ x) (h : x < 18446744073709551616) : Go.bits .and .u64 x 1 = x % 2 := by
  rw [u64_and x 1 h0 h (by omega) (by omega)]
  obtain ⟨n, rfl⟩ := Int.eq_ofNat_of_zero_le h0
  have := Nat.and_two_pow_sub_one_eq_mod n 1
  simp only [Int.toNat_natCast]
  rw [show (1 : Int).toNat = 2 ^ 1 - 1 by rfl, this]
  omega
/-- '|' of two words whose bits lie apart. -/
theorem or_join {x y : Int} (i : Nat) (hx0 : 0 ≤ x) (hx : x < 18446744073709551616) (hm : x % 2 ^ i = 0) (hy0 : 0 ≤ y) (hy1 : y < 18446744073709551616) (hy : y < 2 ^ i) : Go.bits .or .u64 x y = x + y := by
  rw [u64_or x y hx0 hx hy0 hy1]
  obtain ⟨n, rfl⟩ := Int.eq_ofNat_of_zero_le hx0
  obtain ⟨m, rfl⟩ := Int.eq_ofNat_of_zero_le hy0
  simp only [Int.toNat_natCast]
  rw [nat_join i n m (by exact_mod_cast hm) (by exact_mod_cast hy)]
  omega

theorem shr64 {x n : Int} (h0 : 0 ≤ n) (h : n ≤ 64) : shr .u64 x n = x / 2 ^ n.toNat := by
  unfold shr
  rw [Nat.min_eq_left (by simp [IntKind.bits]; omega)]
theorem shl64 {x n : Int} (h0 : 0 ≤ n) (h : n ≤ 64) : shl .u64 x n = (x * 2 ^ n.toNat) % 18446744073709551616 := by
  unfold shl
  rw [Nat.min_eq_left (by simp [IntKind.bits]; omega), IntKind.wrap_u64]

/-! ### The quotient of two words by one: one digit of 32 bits -/
/-- What a guess that is not below the true digit tells: greater than it, or the digit itself. -/
theorem digit_high {U u1 y q rhat yn1 yn0 : Int} (hy : y = yn1 * 4294967296 + yn0) (hq : q * yn1 + rhat = U) (h : q * yn0 > 4294967296 * rhat + u1) : U * 4294967296 + u1 < q * y := by
  have e : q * y = q * yn1 * 4294967296 + q * yn0 := by rw [hy, Int.mul_add, Int.mul_assoc]
  have : q * yn1 = U - rhat := by omega
  rw [e, this]
  omega
theorem digit_low {U u1 y q rhat yn1 yn0 : Int} (hy : y = yn1 * 4294967296 + yn0) (hq : q * yn1 + rhat = U) (h : q * yn0 ≤ 4294967296 * rhat + u1) : q * y ≤ U * 4294967296 + u1 := by
  have e : q * y = q * yn1 * 4294967296 + q * yn0 := by rw [hy, Int.mul_add, Int.mul_assoc]
  have : q * yn1 = U - rhat := by omega
  rw [e, this]
  omega
theorem quot_is {n y q : Int} (hy : 0 < y) (h1 : q * y ≤ n) (h2 : n < (q + 1) * y) : q = n / y := by
  have a := Int.le_ediv_of_mul_le hy h1
  have b := Int.ediv_lt_of_lt_mul hy h2
  omega
theorem digit_lt {U u1 y : Int} (hy : 0 < y) (hU : U < y) (h1 : u1 < 4294967296) : (U * 4294967296 + u1) / y < 4294967296 := by
  refine Int.ediv_lt_of_lt_mul hy ?_
  omega

/-! ### Half up -/
/-- n / d, half up (d above 0). -/
def halfUp (n d : Int) : Int := (2 * n + d) / (2 * d)
theorem halfUp_is {n d q : Int} (hd : 0 < d) (h1 : 2 * (q * d) - d ≤ 2 * n) (h2 : 2 * n < 2 * (q * d) + d) : halfUp n d = q := by
  unfold halfUp
  refine (quot_is (by omega) ?_ ?_).symm
  · have : q * (2 * d) = 2 * (q * d) := by rw [Int.mul_left_comm]
    omega
  · have : (q + 1) * (2 * d) = 2 * (q * d) + 2 * d := by rw [Int.mul_left_comm, Int.add_mul]; omega
    omega
theorem halfUp_spec (n : Int) {d : Int} (hd : 0 < d) : 2 * (halfUp n d * d) - d ≤ 2 * n ∧ 2 * n < 2 * (halfUp n d * d) + d := by
  have h := Int.emod_add_mul_ediv (2 * n + d) (2 * d)
  have h0 := Int.emod_nonneg (2 * n + d) (show 2 * d ≠ 0 by omega)
  have h1 := Int.emod_lt_of_pos (2 * n + d) (show 0 < 2 * d by omega)
  have e : 2 * d * ((2 * n + d) / (2 * d)) = 2 * (halfUp n d * d) := by unfold halfUp; rw [Int.mul_assoc, Int.mul_comm d]
  rw [e] at h
  omega
/-- From a magnitude's quotient and rest. -/
theorem halfUp_mag {N d q r : Int} (hd : 0 < d) (e : N = q * d + r) (h0 : 0 ≤ r) (h1 : r < d) (neg : Bool) :
    halfUp (if neg then -N else N) d = if neg then -(if r > d - r then q + 1 else q) else (if r ≥ d - r then q + 1 else q) := by
  have e1 : (q + 1) * d = q * d + d := by rw [Int.add_mul]; omega
  have e2 : (-q) * d = -(q * d) := Int.neg_mul ..
  have e3 : (-(q + 1)) * d = -(q * d + d) := by rw [Int.neg_mul, e1]
  cases neg <;> simp only [if_true, if_false, Bool.false_eq_true] <;> split <;> refine halfUp_is hd ?_ ?_ <;> omega
theorem halfUp_mono {a b d : Int} (hd : 0 < d) (h : a ≤ b) : halfUp a d ≤ halfUp b d := by
  unfold halfUp
  exact Int.ediv_le_ediv (by omega) (by omega)
theorem halfUp_zero {d : Int} (hd : 0 < d) : halfUp 0 d = 0 := halfUp_is hd (by omega) (by omega)

/-- A product's quotient by c, half up, c not 0. -/
def mulDiv (a b c : Int) : Int := if c < 0 then halfUp (-(a * b)) (-c) else halfUp (a * b) c
/-- As the code answers: the number and the error's number. -/
def fits (n : Int) : Int × Int := if -9223372036854775808 ≤ n ∧ n ≤ 9223372036854775807 then (n, 0) else (0, 5)

/-! ### Rounds, and what follows -/
theorem ev_bind {α β : Type} {g : Nat → Option α} {a : α} {F : Nat → α → Option β} {r : β} (h : Ev g a) (h2 : Ev (fun k => F k a) r) : Ev (fun k => (g k).bind (F k)) r := by
  obtain ⟨K, h⟩ := h
  obtain ⟨L, h2⟩ := h2
  refine ⟨max K L, fun k hk => ?_⟩
  have := h k (by omega)
  show (g k).bind (F k) = _
  rw [this]
  exact h2 k (by omega)
theorem ev_ex {α : Type} {g : Nat → Option α} {r : α} (h : Ev g r) : ∃ k, g k = some r := by
  obtain ⟨K, h⟩ := h
  exact ⟨K, h K (Nat.le_refl _)⟩
theorem Ev.ofEqK {α : Type} {g : Nat → Option α} {r : α} (h : ∀ k, g k = some r) : Ev g r := ⟨0, fun k _ => h k⟩
theorem drop_cons {α : Type} (d : α) {xs : List α} {i : Int} (h0 : 0 ≤ i) (h1 : i < (xs.length : Int)) : xs.drop i.toNat = rdOf d xs i :: xs.drop (i + 1).toNat := by
  have h : i.toNat < xs.length := by omega
  rw [List.drop_eq_getElem_cons h, show (i + 1).toNat = i.toNat + 1 by omega]
  unfold rdOf
  rw [List.getD_eq_getElem?_getD, List.getElem?_eq_getElem h]
  rfl
theorem drop_end {α : Type} {xs : List α} {i : Int} (h : (xs.length : Int) ≤ i) : xs.drop i.toNat = [] := List.drop_eq_nil_of_le (by omega)
/-- '|' of two words whose bits lie apart, the lower one first. -/
theorem or_join' {x y : Int} (i : Nat) (hx0 : 0 ≤ x) (hx : x < 18446744073709551616) (hm : x % 2 ^ i = 0) (hy0 : 0 ≤ y) (hy1 : y < 18446744073709551616) (hy : y < 2 ^ i) : Go.bits .or .u64 y x = x + y := by
  rw [← or_join i hx0 hx hm hy0 hy1 hy, u64_or x y hx0 hx hy0 hy1, u64_or y x hy0 hy1 hx0 hx, Nat.or_comm]

/-! ### Whole square roots -/
/-- r is the whole square root of N. -/
def IsRoot (N r : Int) : Prop := 0 ≤ r ∧ r * r ≤ N ∧ N < (r + 1) * (r + 1)
theorem sq_le {a b : Int} (h0 : 0 ≤ a) (h : a ≤ b) : a * a ≤ b * b := Int.mul_le_mul h h h0 (by omega)
theorem IsRoot.le_of {N r x : Int} (h : IsRoot N r) (hx : 0 ≤ x) (hN : N < x * x) : r ≤ x := by
  rcases Int.lt_or_le x r with g | g
  · have := sq_le hx (Int.le_of_lt g)
    have := h.2.1
    omega
  · exact g
theorem IsRoot.top {N r x : Int} (h : IsRoot N r) (hx : r ≤ x) (hN : x * x ≤ N) : x = r := by
  rcases Int.lt_or_le r x with g | g
  · have := sq_le (a := r + 1) (b := x) (by have := h.1; omega) (by omega)
    have := h.2.2
    omega
  · omega
theorem IsRoot.uniq {N r s : Int} (h : IsRoot N r) (k : IsRoot N s) : r = s := by
  rcases Int.lt_or_le s r with g | g
  · exact k.top (Int.le_of_lt g) h.2.1
  · exact (h.top g k.2.1).symm
theorem IsRoot.pos {N r : Int} (h : IsRoot N r) (hN : 1 ≤ N) : 1 ≤ r := by
  rcases Int.lt_or_le r 1 with g | g
  · have h0 := h.1
    have e : r = 0 := by omega
    have := h.2.2
    rw [e] at this
    omega
  · exact g
theorem root_exists (n : Nat) : ∃ r, IsRoot (n : Int) r := by
  induction n with
  | zero => exact ⟨0, by decide, by decide, by decide⟩
  | succ n ih =>
    obtain ⟨r, h0, h1, h2⟩ := ih
    by_cases g : (r + 1) * (r + 1) ≤ ((n + 1 : Nat) : Int)
    · refine ⟨r + 1, by omega, g, ?_⟩
      have e : (r + 1 + 1) * (r + 1 + 1) = (r + 1) * (r + 1) + (2 * r + 3) := by grind
      rw [e]
      omega
    · exact ⟨r, h0, by omega, by omega⟩
theorem root_of {N : Int} (h : 0 ≤ N) : ∃ r, IsRoot N r := by
  obtain ⟨n, rfl⟩ := Int.eq_ofNat_of_zero_le h
  exact root_exists n
theorem sq_nonneg (a : Int) : 0 ≤ a * a := by
  have := Int.natAbs_mul_self (a := a)
  have h : 0 ≤ (a.natAbs : Int) * a.natAbs := Int.mul_nonneg (by omega) (by omega)
  omega
/-- One of Newton's steps is not below the root. -/
theorem newton {N r x : Int} (hr : IsRoot N r) (hx : 0 < x) : r ≤ (x + N / x) / 2 := by
  rcases Int.lt_or_le ((x + N / x) / 2) r with g | g
  · have h1 : N / x + 1 ≤ 2 * r - x := by omega
    have h2 : (N / x + 1) * x ≤ (2 * r - x) * x := Int.mul_le_mul_of_nonneg_right h1 (Int.le_of_lt hx)
    have h3 := Int.lt_ediv_add_one_mul_self N hx
    have h4 := sq_nonneg (r - x)
    have h5 : (r - x) * (r - x) = r * r - (2 * r - x) * x := by grind
    have := hr.2.1
    omega
  · exact g
end Go.Proofs.Ytofedlghaopciaa.Num
