/- math/bits.Len64 and Div64: what the printed functions compute. -/
import Derived.Test.YthejabcfbbmkeaaDoorFixF
import Derived.Test.YthejabcfbbmkeaaDoorPFx1
set_option linter.unusedVariables false
set_option linter.unusedSimpArgs false
namespace Go.Proofs.YthejabcfbbmkeaaDoor.PureF
open Go.RowKit Go.Proofs.YthejabcfbbmkeaaDoor.PF Go.Proofs.YthejabcfbbmkeaaDoor.Num Go.Proofs.YthejabcfbbmkeaaDoorW.PrintWords Go.Proofs.YthejabcfbbmkeaaDoorW.PrintLast Go.Proofs.YthejabcfbbmkeaaDoorW.PrintMore

theorem bt_get {s : ByteArray} {i : Int} (h : i.toNat < s.size) : bt s i = ((s[i.toNat]'h).toNat : Int) := by
  unfold bt; rw [dif_pos h]
theorem bitLen64 {n b : Nat} (h : n < 2 ^ b) : bitLen n ≤ b := by
  unfold bitLen
  split
  · omega
  · rename_i h0
    have := (Nat.log2_lt h0).2 h
    omega
theorem len_tab (s : ByteArray) (ht : ∀ i : Int, 0 ≤ i → i < 256 → bt s i = ((bitLen i.toNat : Nat) : Int)) (n z : Nat) (h : n < 4294967296) (hz : z ≤ 64) :
    (if (n : Int) ≥ 65536 then (if ((n : Int) / 65536) ≥ 256 then (if 0 ≤ ((((n : Int) / 65536) / 256) % 256) then (if ((((n : Int) / 65536) / 256) % 256) < 256 then (some (wrap64 ((wrap64 ((wrap64 ((z : Int) + 16)) + 8)) + (wrap64 (bt s ((((n : Int) / 65536) / 256) % 256)))))) else (none)) else (none))
      else (if 0 ≤ (((n : Int) / 65536) % 256) then (if (((n : Int) / 65536) % 256) < 256 then (some (wrap64 ((wrap64 ((z : Int) + 16)) + (wrap64 (bt s (((n : Int) / 65536) % 256)))))) else (none)) else (none)))
      else (if (n : Int) ≥ 256 then (if 0 ≤ (((n : Int) / 256) % 256) then (if (((n : Int) / 256) % 256) < 256 then (some (wrap64 ((wrap64 ((z : Int) + 8)) + (wrap64 (bt s (((n : Int) / 256) % 256)))))) else (none)) else (none))
      else (if 0 ≤ ((n : Int) % 256) then (if ((n : Int) % 256) < 256 then (some (wrap64 ((z : Int) + (wrap64 (bt s ((n : Int) % 256)))))) else (none)) else (none)))) = some ((z + bitLen n : Nat) : Int) := by
  by_cases h1 : (n : Int) ≥ 65536
  · rw [if_pos h1]
    by_cases h2 : (n : Int) / 65536 ≥ 256
    · rw [if_pos h2, if_pos (by omega), if_pos (by omega), ht _ (by omega) (by omega)]
      have e : ((n : Int) / 65536 / 256 % 256).toNat = n / 65536 / 256 := by omega
      have l := bitLen64 (n := n / 65536 / 256) (b := 8) (by omega)
      have s1 := bitLen_shift n 16 (by omega)
      have s2 := bitLen_shift (n / 2 ^ 16) 8 (by omega)
      rw [e]
      simp only [Nat.reducePow] at s1 s2
      rw [i64in (x := (z : Int) + 16) (by omega) (by omega), i64in (x := (z : Int) + 16 + 8) (by omega) (by omega), i64in (x := ((bitLen (n / 65536 / 256) : Nat) : Int)) (by omega) (by omega), i64in (x := (z : Int) + 16 + 8 + ((bitLen (n / 65536 / 256) : Nat) : Int)) (by omega) (by omega)]
      refine congrArg some ?_
      omega
    · rw [if_neg h2, if_pos (by omega), if_pos (by omega), ht _ (by omega) (by omega)]
      have e : ((n : Int) / 65536 % 256).toNat = n / 65536 := by omega
      have l := bitLen64 (n := n / 65536) (b := 8) (by omega)
      have s1 := bitLen_shift n 16 (by omega)
      rw [e]
      simp only [Nat.reducePow] at s1
      rw [i64in (x := (z : Int) + 16) (by omega) (by omega), i64in (x := ((bitLen (n / 65536) : Nat) : Int)) (by omega) (by omega), i64in (x := (z : Int) + 16 + ((bitLen (n / 65536) : Nat) : Int)) (by omega) (by omega)]
      refine congrArg some ?_
      omega
  · rw [if_neg h1]
    by_cases h2 : (n : Int) ≥ 256
    · rw [if_pos h2, if_pos (by omega), if_pos (by omega), ht _ (by omega) (by omega)]
      have e : ((n : Int) / 256 % 256).toNat = n / 256 := by omega
      have l := bitLen64 (n := n / 256) (b := 8) (by omega)
      have s1 := bitLen_shift n 8 (by omega)
      rw [e]
      simp only [Nat.reducePow] at s1
      rw [i64in (x := (z : Int) + 8) (by omega) (by omega), i64in (x := ((bitLen (n / 256) : Nat) : Int)) (by omega) (by omega), i64in (x := (z : Int) + 8 + ((bitLen (n / 256) : Nat) : Int)) (by omega) (by omega)]
      refine congrArg some ?_
      omega
    · rw [if_neg h2, if_pos (by omega), if_pos (by omega), ht _ (by omega) (by omega)]
      have e : ((n : Int) % 256).toNat = n := by omega
      have l := bitLen64 (n := n) (b := 8) (by omega)
      rw [e]
      rw [i64in (x := ((bitLen (n) : Nat) : Int)) (by omega) (by omega), i64in (x := (z : Int) + ((bitLen (n) : Nat) : Int)) (by omega) (by omega)]
      refine congrArg some ?_
      omega
set_option maxRecDepth 1000000 in
theorem len_j (k : Nat) (n z : Nat) (h : n < 4294967296) (hz : z ≤ 64) : bits_Len64.j0 (k + 1) n z = some ((z + bitLen n : Nat) : Int) := by
  rw [bits_Len64.j0]
  exact len_tab _ (fun i h0 h1 => (bt_get (show i.toNat < _ by show i.toNat < 256; omega)).trans (congrArg Nat.cast (len8tab_get _ _))) n z h hz
theorem len64_f (k : Nat) (n : Nat) (h : n < 18446744073709551616) : bits_Len64.f (k + 1) n = some ((bitLen n : Nat) : Int) := by
  unfold bits_Len64.f
  by_cases h1 : (n : Int) ≥ 4294967296
  · rw [if_pos h1]
    have e : (n : Int) / 4294967296 = ((n / 4294967296 : Nat) : Int) := by omega
    rw [e, show (32 : Int) = ((32 : Nat) : Int) by rfl, len_j k _ 32 (by omega) (by omega)]
    have s1 := bitLen_shift n 32 (by simp only [Nat.reducePow]; omega)
    simp only [Nat.reducePow] at s1
    rw [s1]
  · rw [if_neg h1, show (0 : Int) = ((0 : Nat) : Int) by rfl, len_j k _ 0 (by omega) (by omega), Nat.zero_add]

/-! ### Div64: the second digit -/
section
variable {y s yn1 yn0 U u0 q1 : Int}
theorem l1_ends (hy : y = yn1 * 4294967296 + yn0) (h0 : 0 ≤ yn0) (h1 : yn0 < 4294967296) (hn0 : 2147483648 ≤ yn1) (hn1 : yn1 < 4294967296) (hU0 : 0 ≤ U) (hU : U < y) (hu0 : 0 ≤ u0) (hu1 : u0 < 4294967296) (hs : 0 ≤ s) :
    ∀ (d : Nat) (rhat q : Int), 4294967296 ≤ rhat + d * yn1 → 0 ≤ rhat → rhat < 4294967296 → q * yn1 + rhat = U → 0 ≤ q → q ≤ 4294967297 → (U * 4294967296 + u0) / y ≤ q →
    Ev (fun k => bits_Div64.l1 k y s yn1 yn0 u0 q1 rhat U q) (IntKind.u64.wrap (IntKind.u64.wrap (q1 * 4294967296) + (U * 4294967296 + u0) / y), shr .u64 (IntKind.u64.wrap (IntKind.u64.wrap (IntKind.u64.wrap (U * 4294967296) + u0) - IntKind.u64.wrap ((U * 4294967296 + u0) / y * y))) s) := by
  have hy0 : 0 < y := by omega
  intro d
  induction d with
  | zero => intro rhat q hd; simp at hd; omega
  | succ d ih =>
    intro rhat q hd hr0 hr1 hq hq0 hq1 hQ
    have hb : yn1 * (d + 1 : Nat) = yn1 * d + yn1 := by rw [Int.natCast_add, Int.mul_add]; simp
    have dec : (U * 4294967296 + u0) / y < q → Ev (fun k => bits_Div64.j4 k y s yn1 yn0 u0 q1 rhat U q true) (IntKind.u64.wrap (IntKind.u64.wrap (q1 * 4294967296) + (U * 4294967296 + u0) / y), shr .u64 (IntKind.u64.wrap (IntKind.u64.wrap (IntKind.u64.wrap (U * 4294967296) + u0) - IntKind.u64.wrap ((U * 4294967296 + u0) / y * y))) s) := by
      intro hlt
      have hQ0 : 0 ≤ (U * 4294967296 + u0) / y := Int.ediv_nonneg (by omega) (by omega)
      refine Ev.shift ?_
      simp only [bits_Div64.j4, if_true]
      have e1 : IntKind.u64.wrap (rhat + yn1) = rhat + yn1 := w64 (by omega) (by omega)
      have e2 : IntKind.u64.wrap (q - 1) = q - 1 := w64 (by omega) (by omega)
      rw [e1, e2]
      by_cases hbr : rhat + yn1 ≥ 4294967296
      · have hle : (q - 1) * yn0 ≤ 4294967296 * 4294967295 := Int.mul_le_mul (by omega) (by omega) h0 (by omega)
        have hlow : (q - 1) * y ≤ U * 4294967296 + u0 := digit_low hy (rhat := rhat + yn1) (by rw [Int.sub_mul]; omega) (by omega)
        have := Int.le_ediv_of_mul_le hy0 hlow
        have e : q - 1 = (U * 4294967296 + u0) / y := by omega
        rw [e]
        simp only [if_pos hbr, if_pos hs]
        exact Ev.now _
      · simp only [if_neg hbr]
        refine ih (rhat + yn1) (q - 1) ?_ (by omega) (by omega) (by rw [Int.sub_mul]; omega) (by omega) (by omega) (by omega)
        rw [Int.mul_comm] at hd
        rw [Int.mul_comm (d : Int)]
        omega
    refine Ev.shift ?_
    simp only [bits_Div64.l1]
    by_cases hB : q ≥ 4294967296
    · simp only [if_pos hB]
      exact dec (by have := digit_lt hy0 hU hu1; omega)
    · simp only [if_neg hB]
      have hm : q * yn0 ≤ 4294967295 * 4294967295 := Int.mul_le_mul (by omega) (by omega) h0 (by omega)
      have hm0 : 0 ≤ q * yn0 := Int.mul_nonneg hq0 h0
      have e1 : IntKind.u64.wrap (q * yn0) = q * yn0 := w64 hm0 (by omega)
      have e2 : IntKind.u64.wrap (4294967296 * rhat) = 4294967296 * rhat := w64 (by omega) (by omega)
      have e3 : IntKind.u64.wrap (4294967296 * rhat + u0) = 4294967296 * rhat + u0 := w64 (by omega) (by omega)
      rw [e1, e2, e3]
      by_cases ht : q * yn0 > 4294967296 * rhat + u0
      · rw [decide_eq_true ht]
        refine dec ?_
        have := digit_high hy hq ht
        have := Int.ediv_lt_of_lt_mul hy0 this
        omega
      · rw [decide_eq_false ht]
        have hlow := digit_low (u1 := u0) hy hq (by omega)
        have := Int.le_ediv_of_mul_le hy0 hlow
        have e : q = (U * 4294967296 + u0) / y := by omega
        refine Ev.shift ?_
        simp only [bits_Div64.j4, Bool.false_eq_true, if_false, if_pos hs]
        rw [e]
        exact Ev.now _
/-! ### The first digit -/
theorem l0_ends {u1 : Int} {r : Int × Int} (hy : y = yn1 * 4294967296 + yn0) (h0 : 0 ≤ yn0) (h1 : yn0 < 4294967296) (hn0 : 2147483648 ≤ yn1) (hn1 : yn1 < 4294967296) (hU0 : 0 ≤ U) (hU : U < y) (hu0 : 0 ≤ u1) (hu1 : u1 < 4294967296)
    (hK : Ev (fun k => bits_Div64.j2 k y s yn1 yn0 U u1 u0 ((U * 4294967296 + u1) / y)) r) :
    ∀ (d : Nat) (rhat q : Int), 4294967296 ≤ rhat + d * yn1 → 0 ≤ rhat → rhat < 4294967296 → q * yn1 + rhat = U → 0 ≤ q → q ≤ 4294967297 → (U * 4294967296 + u1) / y ≤ q →
    Ev (fun k => bits_Div64.l0 k y s yn1 yn0 U u1 u0 q rhat) r := by
  have hy0 : 0 < y := by omega
  intro d
  induction d with
  | zero => intro rhat q hd; simp at hd; omega
  | succ d ih =>
    intro rhat q hd hr0 hr1 hq hq0 hq1 hQ
    have hb : yn1 * (d + 1 : Nat) = yn1 * d + yn1 := by rw [Int.natCast_add, Int.mul_add]; simp
    have dec : (U * 4294967296 + u1) / y < q → Ev (fun k => bits_Div64.j1 k y s yn1 yn0 U u1 u0 q rhat true) r := by
      intro hlt
      have hQ0 : 0 ≤ (U * 4294967296 + u1) / y := Int.ediv_nonneg (by omega) (by omega)
      refine Ev.shift ?_
      simp only [bits_Div64.j1, if_true]
      have e1 : IntKind.u64.wrap (rhat + yn1) = rhat + yn1 := w64 (by omega) (by omega)
      have e2 : IntKind.u64.wrap (q - 1) = q - 1 := w64 (by omega) (by omega)
      rw [e1, e2]
      by_cases hbr : rhat + yn1 ≥ 4294967296
      · have hle : (q - 1) * yn0 ≤ 4294967296 * 4294967295 := Int.mul_le_mul (by omega) (by omega) h0 (by omega)
        have hlow : (q - 1) * y ≤ U * 4294967296 + u1 := digit_low hy (rhat := rhat + yn1) (by rw [Int.sub_mul]; omega) (by omega)
        have := Int.le_ediv_of_mul_le hy0 hlow
        have e : q - 1 = (U * 4294967296 + u1) / y := by omega
        rw [e]
        simp only [if_pos hbr]
        exact hK
      · simp only [if_neg hbr]
        refine ih (rhat + yn1) (q - 1) ?_ (by omega) (by omega) (by rw [Int.sub_mul]; omega) (by omega) (by omega) (by omega)
        rw [Int.mul_comm] at hd
        rw [Int.mul_comm (d : Int)]
        omega
    refine Ev.shift ?_
    simp only [bits_Div64.l0]
    by_cases hB : q ≥ 4294967296
    · simp only [if_pos hB]
      exact dec (by have := digit_lt hy0 hU hu1; omega)
    · simp only [if_neg hB]
      have hm : q * yn0 ≤ 4294967295 * 4294967295 := Int.mul_le_mul (by omega) (by omega) h0 (by omega)
      have hm0 : 0 ≤ q * yn0 := Int.mul_nonneg hq0 h0
      have e1 : IntKind.u64.wrap (q * yn0) = q * yn0 := w64 hm0 (by omega)
      have e2 : IntKind.u64.wrap (4294967296 * rhat) = 4294967296 * rhat := w64 (by omega) (by omega)
      have e3 : IntKind.u64.wrap (4294967296 * rhat + u1) = 4294967296 * rhat + u1 := w64 (by omega) (by omega)
      rw [e1, e2, e3]
      by_cases ht : q * yn0 > 4294967296 * rhat + u1
      · rw [decide_eq_true ht]
        refine dec ?_
        have := digit_high hy hq ht
        have := Int.ediv_lt_of_lt_mul hy0 this
        omega
      · rw [decide_eq_false ht]
        have hlow := digit_low (u1 := u1) hy hq (by omega)
        have := Int.le_ediv_of_mul_le hy0 hlow
        have e : q = (U * 4294967296 + u1) / y := by omega
        refine Ev.shift ?_
        simp only [bits_Div64.j1, Bool.false_eq_true, if_false]
        rw [e]
        exact hK
end
/-- The first guess. -/
theorem guess {U u1 y yn1 yn0 : Int} (hy : y = yn1 * 4294967296 + yn0) (h0 : 0 ≤ yn0) (h1 : yn0 < 4294967296) (hn0 : 2147483648 ≤ yn1) (hU0 : 0 ≤ U) (hU : U < y) (hu0 : 0 ≤ u1) (hu1 : u1 < 4294967296) :
    (U / yn1) * yn1 + (U - U / yn1 * yn1) = U ∧ 0 ≤ U - U / yn1 * yn1 ∧ U - U / yn1 * yn1 < yn1 ∧ 0 ≤ U / yn1 ∧ U / yn1 ≤ 4294967297 ∧ (U * 4294967296 + u1) / y ≤ U / yn1 := by
  have a := Int.emod_add_mul_ediv U yn1
  have b := Int.emod_nonneg U (show yn1 ≠ 0 by omega)
  have c := Int.emod_lt_of_pos U (show 0 < yn1 by omega)
  rw [Int.mul_comm] at a
  have d : 0 ≤ U / yn1 := Int.ediv_nonneg hU0 (by omega)
  refine ⟨by omega, by omega, by omega, d, ?_, ?_⟩
  · have : U / yn1 < 4294967298 := Int.ediv_lt_of_lt_mul (by omega) (by omega)
    omega
  · have : (U * 4294967296 + u1) / y < U / yn1 + 1 := by
      refine Int.ediv_lt_of_lt_mul (by omega) ?_
      have e : (U / yn1 + 1) * y = (U / yn1 + 1) * yn1 * 4294967296 + (U / yn1 + 1) * yn0 := by rw [hy, Int.mul_add, Int.mul_assoc]
      have f : 0 ≤ (U / yn1 + 1) * yn0 := Int.mul_nonneg (by omega) h0
      have g : (U / yn1 + 1) * yn1 = U / yn1 * yn1 + yn1 := by rw [Int.add_mul]; omega
      rw [e]
      omega
    omega
/-- Both digits, of a normed divisor. -/
theorem two_digits {y U u1 u0 : Int} (hy0 : 0 < y) :
    ((U * 4294967296 + u1) / y * 4294967296 + ((U * 4294967296 + u1 - (U * 4294967296 + u1) / y * y) * 4294967296 + u0) / y) * y + ((U * 4294967296 + u1 - (U * 4294967296 + u1) / y * y) * 4294967296 + u0 - ((U * 4294967296 + u1 - (U * 4294967296 + u1) / y * y) * 4294967296 + u0) / y * y) = U * 18446744073709551616 + (u1 * 4294967296 + u0) := by
  generalize (U * 4294967296 + u1) / y = Q1
  generalize ((U * 4294967296 + u1 - Q1 * y) * 4294967296 + u0) / y = Q0
  rw [Int.add_mul, Int.mul_right_comm]
  omega
theorem rest_bounds {n y : Int} (hy0 : 0 < y) : 0 ≤ n - n / y * y ∧ n - n / y * y < y := by
  have a := Int.emod_add_mul_ediv n y
  have b := Int.emod_nonneg n (show y ≠ 0 by omega)
  have c := Int.emod_lt_of_pos n hy0
  rw [Int.mul_comm] at a
  omega
end Go.Proofs.YthejabcfbbmkeaaDoor.PureF
