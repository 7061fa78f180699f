/- The reference's Sum, Add, Half, SameNumbers: what the printed functions compute. -/
import Derived.Test.YthejabcfbbmkeaaFix4B
import Derived.Test.YthejabcfbbmkeaaPBx7
import Derived.Test.YthejabcfbbmkeaaPBx7
import Derived.Test.YthejabcfbbmkeaaPBx8
set_option linter.unusedVariables false
set_option linter.unusedSimpArgs false
namespace Go.Proofs.Ythejabcfbbmkeaa.PureB
open Go.RowKit Go.Proofs.Ythejabcfbbmkeaa.PB Go.Proofs.Ythejabcfbbmkeaa.Num Go.Proofs.YthejabcfbbmkeaaW.PrintWords Go.Proofs.YthejabcfbbmkeaaW.PrintLast Go.Proofs.YthejabcfbbmkeaaW.PrintMore

theorem rd_mid {p t : List Int} {q i : Int} (hi : i = p.length) : rd (p ++ q :: t) i = q := by
  subst hi; simp [rd]
def wfL (l : List Int) : Prop := ∀ y ∈ l, -9223372036854775808 ≤ y ∧ y ≤ 9223372036854775807
theorem sum_bounds : ∀ {l : List Int}, wfL l → -(9223372036854775808 * (l.length : Int)) ≤ l.sum ∧ l.sum ≤ 9223372036854775808 * (l.length : Int)
  | [], _ => by simp
  | y :: l, h => by
    have a := h y (by simp)
    have b := sum_bounds (l := l) (fun z hz => h z (by simp [hz]))
    simp only [List.sum_cons, List.length_cons]
    omega
/-- The end: the difference of what was summed above 0 and below. -/
theorem refsum_end {l : List Int} {ph pl nh nl i : Int} (hi : (l.length : Int) ≤ i) (a0 : 0 ≤ ph) (a1 : ph < 18446744073709551616) (b0 : 0 ≤ pl) (b1 : pl < 18446744073709551616)
    (c0 : 0 ≤ nh) (c1 : nh < 18446744073709551616) (d0 : 0 ≤ nl) (d1 : nl < 18446744073709551616) :
    Ev (fun k => pylonref01_Sum.l0 k l ph pl nh nl i) (fits ((ph * 18446744073709551616 + pl) - (nh * 18446744073709551616 + nl))) := by
  have J2 : ∀ w : Int, (ph * 18446744073709551616 + pl) ≥ (nh * 18446744073709551616 + nl) → w = (if pl < nl then 1 else 0) → Ev (fun k => pylonref01_Sum.j2 k ph pl nh nl w) (fits ((ph * 18446744073709551616 + pl) - (nh * 18446744073709551616 + nl))) := by
    intro w hge hw
    refine Ev.shift ?_
    simp only [pylonref01_Sum.j2]
    have e1 : IntKind.u64.wrap (IntKind.u64.wrap (ph - nh) - w) = ph - nh - w := by
      rw [w64 (x := ph - nh) (by omega) (by omega), w64 (by split at hw <;> omega) (by split at hw <;> omega)]
    have e2 : IntKind.u64.wrap (pl - nl) = pl - nl + w * 18446744073709551616 := by
      rw [IntKind.wrap_u64]; split at hw <;> omega
    rw [e1, e2]
    refine Ev.shift ?_
    refine Ev.ofEqK fun k => ?_
    rw [signed_f _ false (by split at hw <;> omega) (by split at hw <;> omega) (by split at hw <;> omega)]
    simp only [Option.bind_some, Bool.false_eq_true, if_false]
    rw [show (ph - nh - w) * 18446744073709551616 + (pl - nl + w * 18446744073709551616) = (ph * 18446744073709551616 + pl) - (nh * 18446744073709551616 + nl) by omega]
  have J1 : ∀ b : Bool, b = decide ((ph * 18446744073709551616 + pl) ≥ (nh * 18446744073709551616 + nl)) → Ev (fun k => pylonref01_Sum.j1 k ph pl nh nl b) (fits ((ph * 18446744073709551616 + pl) - (nh * 18446744073709551616 + nl))) := by
    intro b hb
    refine Ev.shift ?_
    simp only [pylonref01_Sum.j1]
    by_cases hge : (ph * 18446744073709551616 + pl) ≥ (nh * 18446744073709551616 + nl)
    · rw [decide_eq_true hge] at hb
      subst hb
      simp only [if_true]
      by_cases h : pl < nl
      · simp only [if_pos h]; exact J2 1 hge (by rw [if_pos h])
      · simp only [if_neg h]; exact J2 0 hge (by rw [if_neg h])
    · rw [decide_eq_false hge] at hb
      subst hb
      simp only [Bool.false_eq_true, if_false]
      have key : ∀ w : Int, w = (if nl < pl then 1 else 0) → Ev (fun k => pylonref01_Sum.j3 k ph pl nh nl w) (fits ((ph * 18446744073709551616 + pl) - (nh * 18446744073709551616 + nl))) := by
        intro w hw
        refine Ev.shift ?_
        simp only [pylonref01_Sum.j3]
        have e1 : IntKind.u64.wrap (IntKind.u64.wrap (nh - ph) - w) = nh - ph - w := by
          rw [w64 (x := nh - ph) (by omega) (by omega), w64 (by split at hw <;> omega) (by split at hw <;> omega)]
        have e2 : IntKind.u64.wrap (nl - pl) = nl - pl + w * 18446744073709551616 := by
          rw [IntKind.wrap_u64]; split at hw <;> omega
        rw [e1, e2]
        refine Ev.shift ?_
        refine Ev.ofEqK fun k => ?_
        rw [signed_f _ true (by split at hw <;> omega) (by split at hw <;> omega) (by split at hw <;> omega)]
        simp only [Option.bind_some, if_true]
        rw [show -((nh - ph - w) * 18446744073709551616 + (nl - pl + w * 18446744073709551616)) = (ph * 18446744073709551616 + pl) - (nh * 18446744073709551616 + nl) by omega]
      by_cases h : nl < pl
      · simp only [if_pos h]; exact key 1 (by rw [if_pos h])
      · simp only [if_neg h]; exact key 0 (by rw [if_neg h])
  refine Ev.shift ?_
  simp only [pylonref01_Sum.l0, if_neg (show ¬ i < (l.length : Int) by omega)]
  by_cases h1 : ph > nh
  · simp only [if_pos h1]; exact J1 true (by rw [decide_eq_true]; omega)
  · simp only [if_neg h1]
    by_cases h2 : ph = nh
    · simp only [if_pos h2]
      refine J1 _ ?_
      by_cases h3 : pl ≥ nl
      · rw [decide_eq_true h3, decide_eq_true]; omega
      · rw [decide_eq_false h3, decide_eq_false]; omega
    · simp only [if_neg h2]; exact J1 false (by rw [decide_eq_false]; omega)
theorem refsum_loop : ∀ (t p : List Int) {l : List Int} {ph pl nh nl i : Int}, l = p ++ t → i = p.length → (l.length : Int) ≤ 140737488355328 → wfL l →
    0 ≤ ph → 0 ≤ pl → pl < 18446744073709551616 → 0 ≤ nh → 0 ≤ nl → nl < 18446744073709551616 → ph ≤ i → nh ≤ i →
    Ev (fun k => pylonref01_Sum.l0 k l ph pl nh nl i) (fits ((ph * 18446744073709551616 + pl) - (nh * 18446744073709551616 + nl) + t.sum))
  | [], p, l, ph, pl, nh, nl, i, hl, hi, hn, hw, a0, b0, b1, c0, d0, d1, ha, hc => by
    have := refsum_end (l := l) (i := i) (ph := ph) (pl := pl) (nh := nh) (nl := nl) (by subst hl; simp; omega) a0 (by subst hl; simp at hn; omega) b0 b1 c0 (by subst hl; simp at hn; omega) d0 d1
    simpa using this
  | q :: t, p, l, ph, pl, nh, nl, i, hl, hi, hn, hw, a0, b0, b1, c0, d0, d1, ha, hc => by
    have hq := hw q (by subst hl; simp)
    have hlt : i < (l.length : Int) := by subst hl; simp; omega
    have hrd : rd l i = q := by subst hl; exact rd_mid hi
    have ei : wrap64 (i + 1) = i + 1 := i64in (by omega) (by omega)
    have step := fun (ph pl nh nl : Int) (x0 : 0 ≤ ph) (x1 : 0 ≤ pl) (x2 : pl < 18446744073709551616) (x3 : 0 ≤ nh) (x4 : 0 ≤ nl) (x5 : nl < 18446744073709551616) (x6 : ph ≤ i + 1) (x7 : nh ≤ i + 1) =>
      refsum_loop t (p ++ [q]) (l := l) (i := i + 1) (ph := ph) (pl := pl) (nh := nh) (nl := nl) (by subst hl; simp) (by simp; omega) hn hw x0 x1 x2 x3 x4 x5 x6 x7
    refine Ev.shift ?_
    simp only [pylonref01_Sum.l0, if_pos hlt, if_pos (show 0 ≤ i by omega), hrd, mag_f hq.1 hq.2, Option.bind_some, ei]
    by_cases h0 : q ≥ 0
    · have em : (q.natAbs : Int) = q := by omega
      simp only [if_pos h0, em, IntKind.wrap_u64]
      by_cases hc1 : (pl + q) % 18446744073709551616 < pl
      · simp only [if_pos hc1, Int.emod_eq_of_lt (show 0 ≤ ph + 1 by omega) (show ph + 1 < 18446744073709551616 by omega)]
        have := step (ph + 1) ((pl + q) % 18446744073709551616) nh nl (by omega) (by omega) (by omega) c0 d0 d1 (by omega) (by omega)
        rw [show (ph * 18446744073709551616 + pl) - (nh * 18446744073709551616 + nl) + (q :: t).sum = ((ph + 1) * 18446744073709551616 + (pl + q) % 18446744073709551616) - (nh * 18446744073709551616 + nl) + t.sum by rw [List.sum_cons]; omega]
        exact this
      · simp only [if_neg hc1]
        have := step ph ((pl + q) % 18446744073709551616) nh nl (by omega) (by omega) (by omega) c0 d0 d1 (by omega) (by omega)
        rw [show (ph * 18446744073709551616 + pl) - (nh * 18446744073709551616 + nl) + (q :: t).sum = (ph * 18446744073709551616 + (pl + q) % 18446744073709551616) - (nh * 18446744073709551616 + nl) + t.sum by rw [List.sum_cons]; omega]
        exact this
    · have em : (q.natAbs : Int) = -q := by omega
      simp only [if_neg h0, em, IntKind.wrap_u64]
      by_cases hc1 : (nl + -q) % 18446744073709551616 < nl
      · simp only [if_pos hc1, Int.emod_eq_of_lt (show 0 ≤ nh + 1 by omega) (show nh + 1 < 18446744073709551616 by omega)]
        have := step ph pl (nh + 1) ((nl + -q) % 18446744073709551616) (by omega) (by omega) (by omega) (by omega) (by omega) (by omega) (by omega) (by omega)
        rw [show (ph * 18446744073709551616 + pl) - (nh * 18446744073709551616 + nl) + (q :: t).sum = (ph * 18446744073709551616 + pl) - ((nh + 1) * 18446744073709551616 + (nl + -q) % 18446744073709551616) + t.sum by rw [List.sum_cons]; omega]
        exact this
      · simp only [if_neg hc1]
        have := step ph pl nh ((nl + -q) % 18446744073709551616) (by omega) (by omega) (by omega) (by omega) (by omega) (by omega) (by omega) (by omega)
        rw [show (ph * 18446744073709551616 + pl) - (nh * 18446744073709551616 + nl) + (q :: t).sum = (ph * 18446744073709551616 + pl) - (nh * 18446744073709551616 + (nl + -q) % 18446744073709551616) + t.sum by rw [List.sum_cons]; omega]
        exact this
theorem refsum_f {l : List Int} (hn : (l.length : Int) ≤ 140737488355328) (hw : wfL l) : Ev (fun k => pylonref01_Sum.f k l) (fits l.sum) := by
  have := refsum_loop l [] (l := l) (i := 0) (ph := 0) (pl := 0) (nh := 0) (nl := 0) rfl rfl hn hw (by omega) (by omega) (by omega) (by omega) (by omega) (by omega) (by omega) (by omega)
  simpa [pylonref01_Sum.f] using this
theorem refadd_f {a b : Int} (ha : -9223372036854775808 ≤ a ∧ a ≤ 9223372036854775807) (hb : -9223372036854775808 ≤ b ∧ b ≤ 9223372036854775807) : Ev (fun k => pylonref01_Add.f k a b) (fits (a + b)) := by
  unfold pylonref01_Add.f
  refine Ev.bind (refsum_f (l := [a, b]) (by simp) (by intro y hy; simp at hy; rcases hy with rfl | rfl <;> assumption)) ?_
  simp only [List.sum_cons, List.sum_nil, Int.add_zero]
  exact Ev.pair _
theorem refhalf_f {a b : Int} (ha : (Lit.int .i64 a).wf = true) (hb : (Lit.int .i64 b).wf = true) : Ev (fun k => pylonref01_Half.f k a b) (mulDivA a 1 b) := by
  unfold pylonref01_Half.f
  refine Ev.bind (ref_muldiv_f ha (show (Lit.int .i64 1).wf = true by decide) hb) ?_
  exact Ev.pair _
theorem same_loop : ∀ (t u p : List Int) {l m : List Int} {i : Int}, l = p ++ t → m = p ++ u → t = u → i = p.length → (l.length : Int) ≤ 140737488355328 →
    Ev (fun k => pylonref01_SameNumbers.l0 k l m (l.length : Int) i) true
  | [], u, p, l, m, i, hl, hm, hu, hi, hn => by
    refine Ev.shift ?_
    simp only [pylonref01_SameNumbers.l0, if_neg (show ¬ i < (l.length : Int) by subst hl; simp; omega)]
    exact Ev.now _
  | q :: t, u, p, l, m, i, hl, hm, hu, hi, hn => by
    subst hu
    have hlt : i < (l.length : Int) := by subst hl; simp; omega
    have hlt2 : i < (m.length : Int) := by subst hm; simp; omega
    have e1 : rd l i = q := by subst hl; exact rd_mid hi
    have e2 : rd m i = q := by subst hm; exact rd_mid hi
    refine Ev.shift ?_
    simp only [pylonref01_SameNumbers.l0, if_pos hlt, if_pos hlt2, if_pos (show 0 ≤ i by omega), e1, e2, if_true, i64in (x := i + 1) (by omega) (by omega)]
    exact same_loop t t (p ++ [q]) (by subst hl; simp) (by subst hm; simp) rfl (by simp; omega) hn
theorem same_f {l : List Int} (hn : (l.length : Int) ≤ 140737488355328) : Ev (fun k => pylonref01_SameNumbers.f k l l) true := by
  unfold pylonref01_SameNumbers.f
  simp only [if_true]
  exact same_loop l l [] rfl rfl rfl rfl hn
end Go.Proofs.Ythejabcfbbmkeaa.PureB
