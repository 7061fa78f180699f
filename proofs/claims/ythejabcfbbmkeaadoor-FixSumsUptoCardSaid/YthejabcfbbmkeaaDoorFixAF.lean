/- Layer 1: what awake answers; fix.Text, fix.Div, fix.Sum, fix.Add. -/
import Derived.Test.YthejabcfbbmkeaaDoorFixNF
import Derived.Test.YthejabcfbbmkeaaDoorPFx2
import Derived.Test.YthejabcfbbmkeaaDoorPFx3
import Derived.Test.YthejabcfbbmkeaaDoorPFx4
import Derived.Laws.Strings
set_option linter.unusedVariables false
set_option linter.unusedSimpArgs false
namespace Go.Proofs.YthejabcfbbmkeaaDoor.PureF
open Go.RowKit Go.Proofs.YthejabcfbbmkeaaDoor.PF Go.Proofs.YthejabcfbbmkeaaDoor.Num Go.Proofs.YthejabcfbbmkeaaDoorW.PrintWords Go.Proofs.YthejabcfbbmkeaaDoorW.PrintLast Go.Proofs.YthejabcfbbmkeaaDoorW.PrintMore

theorem text_f {n : Int} (h0 : -9223372036854775808 ≤ n) (h1 : n ≤ 9223372036854775807) : fix_Text.f n = some ⟨(Lib.itoa n).toArray⟩ := by
  unfold fix_Text.f Hand.textA
  rw [if_pos ⟨h0, h1⟩]
theorem itoa_m7 : Lib.itoa (-7) = [45, 55] := by
  unfold Lib.itoa
  rw [if_pos (by omega), show (-7 : Int).natAbs = 7 by rfl, Lib.decDigits, dif_pos (by omega)]
  rfl
theorem awake_ev : Ev (fun k => pylonlaw01_awake.f k) true := by
  unfold pylonlaw01_awake.f
  refine Ev.bind (muldiv_f (a := 3) (b := 1) (c := 2) (by decide) (by decide) (by decide)) ?_
  have e : mulDivA 3 1 2 = (2, 0) := by decide
  rw [e, text_f (by omega) (by omega), itoa_m7]
  simp only [if_true, Option.bind_some]
  have e2 : (ByteArray.mk #[45, 55]).toList = [45, 55] := by rw [ByteArray.toList_eq]
  show Ev (fun k => some ((ByteArray.mk #[45, 55]).toList == [45, 55])) true
  rw [e2]
  exact Ev.now _
theorem wfi {x : Int} (h0 : -9223372036854775808 ≤ x) (h1 : x ≤ 9223372036854775807) : (Lit.int .i64 x).wf = true := by
  simpa [Lit.wf, IntKind.min, IntKind.max, IntKind.bits, IntKind.signed] using ⟨h0, h1⟩
theorem wf32 {x : Int} (h : (Lit.int .i32 x).wf = true) : -2147483648 ≤ x ∧ x ≤ 2147483647 := by
  simpa [Lit.wf, IntKind.min, IntKind.max, IntKind.bits, IntKind.signed] using h
/-- What Go's quotient and rest are. -/
theorem tdiv_facts (a : Int) {b : Int} (hb : b ≠ 0) : a.tdiv b * b + a.tmod b = a ∧ (0 ≤ a → 0 ≤ a.tmod b) ∧ (a ≤ 0 → a.tmod b ≤ 0) ∧ (a.tmod b).natAbs < b.natAbs ∧ (a.tdiv b).natAbs ≤ a.natAbs := by
  refine ⟨?_, fun h => Int.tmod_nonneg b h, ?_, ?_, ?_⟩
  · have := Int.mul_tdiv_add_tmod a b
    rw [Int.mul_comm] at this; exact this
  · intro h
    have := Int.tmod_nonneg b (show 0 ≤ -a by omega)
    rw [Int.neg_tmod] at this; omega
  · rw [Int.natAbs_tmod]; exact Nat.mod_lt _ (by omega)
  · rw [Int.natAbs_tdiv]; exact Nat.div_le_self _ _
/-- Div: the quotient whose rest is not below 0. -/
theorem div_f {a b : Int} (hb : b ≠ 0) (a0 : -9223372036854775808 ≤ a) (a1 : a ≤ 9223372036854775807) (b0 : -9223372036854775808 ≤ b) (b1 : b ≤ 9223372036854775807) (hn : ¬ (a = -9223372036854775808 ∧ b = -1)) :
    ∃ q r : Int, Ev (fun k => fix_Div.f k a b) (q, r, 0) ∧ q * b + r = a ∧ 0 ≤ r ∧ r < b.natAbs ∧ -9223372036854775808 ≤ q ∧ q ≤ 9223372036854775807 ∧ q.natAbs ≤ a.natAbs + 1 := by
  obtain ⟨h1, h2, h3, h4, h5⟩ := tdiv_facts a hb
  have hq : b = -1 → a.tdiv b = -a := fun h => by subst h; rw [Int.tdiv_neg, Int.tdiv_one]
  have hq1 : b = 1 → a.tdiv b = a := fun h => by subst h; rw [Int.tdiv_one]
  have hr1 : b = 1 ∨ b = -1 → a.tmod b = 0 := by rintro (rfl | rfl) <;> omega
  have hbig : b ≠ 1 → b ≠ -1 → (a.tdiv b).natAbs ≤ 4611686018427387904 := by
    intro c1 c2
    rw [Int.natAbs_tdiv]
    have : a.natAbs / b.natAbs ≤ a.natAbs / 2 := Nat.div_le_div_left (by omega) (by omega)
    exact Nat.le_trans this (by omega)
  generalize hQ : a.tdiv b = q at *
  generalize hR : a.tmod b = r at *
  have hd0 : (-9223372036854775808 : Int) ≤ q ∧ q ≤ 9223372036854775807 := by
    by_cases c1 : b = 1
    · have := hq1 c1; omega
    · by_cases c2 : b = -1
      · have := hq c2; omega
      · have := hbig c1 c2; omega
  have hout : Ev (fun k => fix_Div.j0 k a b false) (if r ≥ 0 then (q, r, 0) else if b > 0 then (q - 1, r + b, 0) else (q + 1, r - b, 0)) := by
    refine Ev.shift ?_
    simp only [fix_Div.j0, Bool.false_eq_true, if_false, if_neg hb, hQ, hR]
    by_cases c : r ≥ 0
    · simp only [if_pos c, i64in hd0.1 hd0.2]; exact Ev.now _
    · have c1 : b ≠ 1 := fun h => by have := hr1 (.inl h); omega
      have c2 : b ≠ -1 := fun h => by have := hr1 (.inr h); omega
      have := hbig c1 c2
      simp only [if_neg c, i64in hd0.1 hd0.2]
      by_cases d : b > 0
      · simp only [if_pos d]
        rw [i64in (x := q - 1) (by omega) (by omega), i64in (x := r + b) (by omega) (by omega)]
        exact Ev.now _
      · simp only [if_neg d]
        rw [i64in (x := q + 1) (by omega) (by omega), i64in (x := r - b) (by omega) (by omega)]
        exact Ev.now _
  have hf : Ev (fun k => fix_Div.f k a b) (if r ≥ 0 then (q, r, 0) else if b > 0 then (q - 1, r + b, 0) else (q + 1, r - b, 0)) := by
    unfold fix_Div.f
    simp only [if_neg hb]
    by_cases c : a = -9223372036854775808
    · simp only [if_pos c]
      rw [show (b == -1) = false by simp; omega]
      exact hout
    · simp only [if_neg c]; exact hout
  by_cases c : r ≥ 0
  · rw [if_pos c] at hf
    exact ⟨q, r, hf, h1, c, by omega, hd0.1, hd0.2, by omega⟩
  · rw [if_neg c] at hf
    have c1 : b ≠ 1 := fun h => by have := hr1 (.inl h); omega
    have c2 : b ≠ -1 := fun h => by have := hr1 (.inr h); omega
    have := hbig c1 c2
    by_cases d : b > 0
    · rw [if_pos d] at hf
      exact ⟨q - 1, r + b, hf, by rw [Int.sub_mul]; omega, by omega, by omega, by omega, by omega, by omega⟩
    · rw [if_neg d] at hf
      exact ⟨q + 1, r - b, hf, by rw [Int.add_mul]; omega, by omega, by omega, by omega, by omega, by omega⟩
theorem add_f {a b : Int} (a0 : -9223372036854775808 ≤ a) (a1 : a ≤ 9223372036854775807) (b0 : -9223372036854775808 ≤ b) (b1 : b ≤ 9223372036854775807) : fix_Add.f a b = some (fits (a + b)) := by
  unfold fix_Add.f fits
  by_cases hf : -9223372036854775808 ≤ a + b ∧ a + b ≤ 9223372036854775807
  · rw [if_pos hf, i64in hf.1 hf.2]
    by_cases hb : b > 0
    · rw [decide_eq_true (show a + b > a by omega), decide_eq_true hb]; simp
    · rw [decide_eq_false (show ¬ a + b > a by omega), decide_eq_false hb]; simp
  · rw [if_neg hf]
    by_cases hb : b > 0
    · have e : wrap64 (a + b) = a + b - 18446744073709551616 := by unfold wrap64; omega
      rw [e, decide_eq_false (show ¬ a + b - 18446744073709551616 > a by omega), decide_eq_true hb]
      rw [if_pos (by rfl), if_neg (by omega)]
    · have e : wrap64 (a + b) = a + b + 18446744073709551616 := by unfold wrap64; omega
      rw [e, decide_eq_true (show a + b + 18446744073709551616 > a by omega), decide_eq_false hb]
      rw [if_pos (by rfl), if_neg (by omega)]
def wfL1 (l : List Int) : Prop := ∀ y ∈ l, -9223372036854775808 ≤ y ∧ y ≤ 9223372036854775807
theorem rdm {p t : List Int} {q i : Int} (hi : i = p.length) : rd (p ++ q :: t) i = q := by
  subst hi; simp [rd]
theorem sum_end {l : List Int} {hi lo s i n : Int} (h : ¬ i < n) (a0 : 0 ≤ hi) (a1 : hi < 18446744073709551616) (b0 : 0 ≤ lo) (b1 : lo < 18446744073709551616)
    (hs : hi * 18446744073709551616 + lo = s ∨ hi * 18446744073709551616 + lo = s + 340282366920938463463374607431768211456) (s0 : -1361129467683753853853498429727072845824 ≤ 8 * s) (s1 : 8 * s ≤ 1361129467683753853853498429727072845823) :
    Ev (fun k => fix_Sum.l0 k hi lo l n i) (fits s) := by
  refine Ev.shift ?_
  simp only [fix_Sum.l0, if_neg h]
  have ew : wrap64 lo = if lo ≤ 9223372036854775807 then lo else lo - 18446744073709551616 := by
    split <;> (unfold wrap64; omega)
  have eu : IntKind.u64.wrap (wrap64 lo / 9223372036854775808) = if lo ≤ 9223372036854775807 then 0 else 18446744073709551615 := by
    rw [ew, IntKind.wrap_u64]; split <;> omega
  rw [eu, ew]
  unfold fits
  by_cases c : lo ≤ 9223372036854775807
  · simp only [if_pos c]
    by_cases d : hi = 0
    · simp only [if_pos d]; rw [if_pos (by omega)]
      have : s = lo := by omega
      rw [this]; exact Ev.now _
    · simp only [if_neg d]; rw [if_neg (by omega)]; exact Ev.now _
  · simp only [if_neg c]
    by_cases d : hi = 18446744073709551615
    · simp only [if_pos d]; rw [if_pos (by omega)]
      have : s = lo - 18446744073709551616 := by omega
      rw [this]; exact Ev.now _
    · simp only [if_neg d]; rw [if_neg (by omega)]; exact Ev.now _
theorem sum_loop : ∀ (t p : List Int) {l : List Int} {hi lo s i : Int}, l = p ++ t → i = p.length → (l.length : Int) ≤ 140737488355328 → wfL1 l →
    0 ≤ hi → hi < 18446744073709551616 → 0 ≤ lo → lo < 18446744073709551616 → (hi * 18446744073709551616 + lo = s ∨ hi * 18446744073709551616 + lo = s + 340282366920938463463374607431768211456) →
    -(9223372036854775808 * i) ≤ s → s ≤ 9223372036854775808 * i → Ev (fun k => fix_Sum.l0 k hi lo l (l.length : Int) i) (fits (s + t.sum))
  | [], p, l, hi, lo, s, i, hl, hi', hn, hw, a0, a1, b0, b1, hs, s0, s1 => by
    have hlen : i = l.length := by subst hl; simpa using hi'
    have := sum_end (l := l) (n := l.length) (i := i) (hi := hi) (lo := lo) (s := s) (by omega) a0 a1 b0 b1 hs (by omega) (by omega)
    simpa using this
  | q :: t, p, l, hi, lo, s, i, hl, hi', hn, hw, a0, a1, b0, b1, hs, s0, s1 => by
    have hq := hw q (by subst hl; simp)
    have hlt : i < (l.length : Int) := by subst hl; simp; omega
    have hrd : rd l i = q := by subst hl; exact rdm hi'
    have ei : wrap64 (i + 1) = i + 1 := i64in (by omega) (by omega)
    have eq : IntKind.u64.wrap q = if 0 ≤ q then q else q + 18446744073709551616 := by rw [IntKind.wrap_u64]; split <;> omega
    have eq2 : IntKind.u64.wrap (q / 9223372036854775808) = if 0 ≤ q then 0 else 18446744073709551615 := by rw [IntKind.wrap_u64]; split <;> omega
    have u0 : 0 ≤ IntKind.u64.wrap q ∧ IntKind.u64.wrap q < 18446744073709551616 := by rw [eq]; split <;> omega
    have ea : u64add lo (IntKind.u64.wrap q) 0 = (lo + IntKind.u64.wrap q) % 18446744073709551616 := by unfold u64add; simp only [Int.toNat_zero]; omega
    have ec : u64car lo (IntKind.u64.wrap q) 0 = (lo + IntKind.u64.wrap q) / 18446744073709551616 := by unfold u64car; simp only [Int.toNat_zero]; omega
    refine Ev.shift ?_
    simp only [fix_Sum.l0, if_pos hlt, if_pos (show 0 ≤ i by omega), hrd, show c01 0 = true by rfl, if_true, ei, ea, ec, eq2]
    have IH := fun (hi lo : Int) x0 x1 x2 x3 x4 => sum_loop t (p ++ [q]) (l := l) (hi := hi) (lo := lo) (s := s + q) (i := i + 1) (by subst hl; simp) (by simp; omega) hn hw x0 x1 x2 x3 x4 (by omega) (by omega)
    rw [show s + (q :: t).sum = s + q + t.sum by rw [List.sum_cons]; omega]
    refine IH _ _ ?_ ?_ ?_ ?_ ?_
    · rw [IntKind.wrap_u64]; omega
    · rw [IntKind.wrap_u64]; omega
    · omega
    · omega
    · rw [eq]
      simp only [IntKind.wrap_u64]
      by_cases c : 0 ≤ q
      · simp only [if_pos c]; omega
      · simp only [if_neg c]; omega
theorem sum_f {l : List Int} (hn : (l.length : Int) ≤ 140737488355328) (hw : wfL1 l) : Ev (fun k => fix_Sum.f k l) (fits l.sum) := by
  have := sum_loop l [] (l := l) (hi := 0) (lo := 0) (s := 0) (i := 0) rfl rfl hn hw (by omega) (by omega) (by omega) (by omega) (by omega) (by omega) (by omega)
  simpa [fix_Sum.f] using this
end Go.Proofs.YthejabcfbbmkeaaDoor.PureF
