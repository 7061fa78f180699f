/- Layer 17: Price: the sum of the parts' products, divided by 1000, half up. -/
import Derived.Test.YthejabcfbbmkeaaBlockB
set_option linter.unusedVariables false
set_option linter.unusedSimpArgs false
namespace Go.Proofs.Ythejabcfbbmkeaa.PureB
open Go.RowKit Go.Proofs.Ythejabcfbbmkeaa.PB Go.Proofs.Ythejabcfbbmkeaa.Num Go.Proofs.YthejabcfbbmkeaaW.PrintWords Go.Proofs.YthejabcfbbmkeaaW.PrintLast Go.Proofs.YthejabcfbbmkeaaW.PrintMore

theorem u64sub_is {x y c : Int} (x0 : 0 ≤ x) (y0 : 0 ≤ y) (y1 : y < 18446744073709551616) (c0 : 0 ≤ c) (c1 : c ≤ 1) : u64sub x y c = (x - y - c) % 18446744073709551616 := by unfold u64sub; omega
theorem u64bor_is {x y c : Int} (x0 : 0 ≤ x) (y0 : 0 ≤ y) (c0 : 0 ≤ c) : u64bor x y c = if x < y + c then 1 else 0 := by unfold u64bor; split <;> split <;> omega
theorem u64add_is {x y c : Int} (x0 : 0 ≤ x) (y0 : 0 ≤ y) (c0 : 0 ≤ c) : u64add x y c = (x + y + c) % 18446744073709551616 := by unfold u64add; omega
theorem u64car_is {x y c : Int} (x0 : 0 ≤ x) (y0 : 0 ≤ y) (c0 : 0 ≤ c) : u64car x y c = (x + y + c) / 18446744073709551616 := by unfold u64car; omega
theorem c01_of {c : Int} (h1 : c ≤ 1) : c01 c = true := by unfold c01; exact decide_eq_true (by omega)

/-- Products and their sum. -/
def tR : List Int → List S35 → Int
  | q :: qs, s :: t => q * s.f1 + tR qs t
  | _, _ => 0
def prOf (S : Int) : Int × Int := if -1000000000000000 ≤ halfUp S 1000 ∧ halfUp S 1000 ≤ 1000000000000000 then (halfUp S 1000, 0) else (0, 5)
def priceA (l : List S35) (wh : Int) : Int × Int := if (partsA l wh).2 = 0 then prOf (tR (partsA l wh).1 l) else (0, (partsA l wh).2)

theorem price_j2 {neg : Bool} {Hx Hy Lx Ly : Int} (hx : 0 ≤ Hx) (hx1 : Hx < 18446744073709551616) (hy : 0 ≤ Hy) (lx : 0 ≤ Lx) (lx1 : Lx < 18446744073709551616) (ly : 0 ≤ Ly) (ly1 : Ly < 18446744073709551616)
    (hge : Hy * 18446744073709551616 + Ly ≤ Hx * 18446744073709551616 + Lx) (hm : (Hx * 18446744073709551616 + Lx) - (Hy * 18446744073709551616 + Ly) ≤ 10000000000000000000000) :
    Ev (fun k => block_Price.j2 k neg Hx Hy Lx Ly) (prOf (if neg = true then -((Hx * 18446744073709551616 + Lx) - (Hy * 18446744073709551616 + Ly)) else (Hx * 18446744073709551616 + Lx) - (Hy * 18446744073709551616 + Ly))) := by
  refine Ev.shift ?_
  simp only [block_Price.j2]
  have hb := u64bor_is (x := Lx) (y := Ly) (c := 0) lx ly (by omega)
  generalize u64bor Lx Ly 0 = w at *
  have hw : (w = 1 ∧ Lx < Ly) ∨ (w = 0 ∧ Ly ≤ Lx) := by
    by_cases h : Lx < Ly + 0
    · rw [if_pos h] at hb; omega
    · rw [if_neg h] at hb; omega
  clear hb
  simp only [if_pos (c01_of (show (0 : Int) ≤ 1 by omega)), if_pos (c01_of (show w ≤ 1 by omega))]
  have e1 : u64sub Hx Hy w = Hx - Hy - w := by
    rw [u64sub_is hx hy (by omega) (by omega) (by omega)]
    exact Int.emod_eq_of_lt (by omega) (by omega)
  have e2 : u64sub Lx Ly 0 = Lx - Ly + w * 18446744073709551616 := by
    rw [u64sub_is lx ly (by omega) (by omega) (by omega)]; omega
  rw [e1, e2]
  refine Ev.bind (div64_f (hi := Hx - Hy - w) (lo := Lx - Ly + w * 18446744073709551616) (y := 1000) (by omega) (by omega) (by omega) (by omega) (by omega)) ?_
  rw [show (Hx - Hy - w) * 18446744073709551616 + (Lx - Ly + w * 18446744073709551616) = (Hx * 18446744073709551616 + Lx) - (Hy * 18446744073709551616 + Ly) by omega]
  have hD0 : 0 ≤ (Hx * 18446744073709551616 + Lx) - (Hy * 18446744073709551616 + Ly) := by omega
  generalize (Hx * 18446744073709551616 + Lx) - (Hy * 18446744073709551616 + Ly) = D at *
  have hU := halfUp_mag (N := D) (d := 1000) (q := D / 1000) (r := D % 1000) (by omega) (by omega) (by omega) (by omega) neg
  have hq0 : 0 ≤ D / 1000 := by omega
  have hq1 : D / 1000 ≤ 10000000000000000000 := by omega
  have hr0 : 0 ≤ D % 1000 := by omega
  have hr1 : D % 1000 < 1000 := by omega
  generalize D / 1000 = q at *
  generalize D % 1000 = r at *
  simp only
  have J4 : ∀ v : Int, v = (if neg = true then (if r > 500 then q + 1 else q) else (if r ≥ 500 then q + 1 else q)) → Ev (fun k => block_Price.j4 k neg v) (prOf (if neg = true then -D else D)) := by
    intro v hv
    refine Ev.shift ?_
    simp only [block_Price.j4]
    have hh : halfUp (if neg = true then -D else D) 1000 = (if neg = true then -v else v) := by
      rw [hU, hv]
      cases neg
      · simp only [Bool.false_eq_true, if_false]
        by_cases h : r ≥ 500
        · rw [if_pos h, if_pos (by omega)]
        · rw [if_neg h, if_neg (by omega)]
      · simp only [if_true]
        by_cases h : r > 500
        · rw [if_pos h, if_pos (by omega)]
        · rw [if_neg h, if_neg (by omega)]
    have hv0 : 0 ≤ v := by rw [hv]; split <;> split <;> omega
    have hpr : prOf (if neg = true then -D else D) = if v > 1000000000000000 then (0, 5) else ((if neg = true then -v else v), 0) := by
      unfold prOf
      rw [hh]
      cases neg
      · simp only [Bool.false_eq_true, if_false]
        by_cases hb : v > 1000000000000000
        · rw [if_pos hb, if_neg (by omega)]
        · rw [if_neg hb, if_pos (by omega)]
      · simp only [if_true]
        by_cases hb : v > 1000000000000000
        · rw [if_pos hb, if_neg (by omega)]
        · rw [if_neg hb, if_pos (by omega)]
    rw [hpr]
    by_cases hb : v > 1000000000000000
    · simp only [if_pos hb]
      exact Ev.now _
    · simp only [if_neg hb]
      have ev : wrap64 v = v := i64in (by omega) (by omega)
      cases neg
      · simp only [Bool.false_eq_true, if_false, ev]; exact Ev.now _
      · simp only [if_true, ev, i64in (x := -v) (by omega) (by omega)]; exact Ev.now _
  have J3 : ∀ b : Bool, b = (if neg = true then decide (r > 500) else decide (r ≥ 500)) → Ev (fun k => block_Price.j3 k neg q b) (prOf (if neg = true then -D else D)) := by
    intro b hb
    refine Ev.shift ?_
    simp only [block_Price.j3]
    cases b
    · simp only [Bool.false_eq_true, if_false]
      refine J4 _ ?_
      cases neg
      · simp only [Bool.false_eq_true, if_false] at hb ⊢; rw [if_neg (of_decide_eq_false hb.symm)]
      · simp only [if_true] at hb ⊢; rw [if_neg (of_decide_eq_false hb.symm)]
    · simp only [if_true]
      rw [w64 (by omega) (by omega)]
      refine J4 _ ?_
      cases neg
      · simp only [Bool.false_eq_true, if_false] at hb ⊢; rw [if_pos (of_decide_eq_true hb.symm)]
      · simp only [if_true] at hb ⊢; rw [if_pos (of_decide_eq_true hb.symm)]
  by_cases h1 : r > 500
  · simp only [if_pos h1]
    exact J3 true (by rw [decide_eq_true h1, decide_eq_true (show r ≥ 500 by omega)]; simp)
  · simp only [if_neg h1]
    by_cases h2 : r = 500
    · simp only [if_pos h2]
      exact J3 _ (by rw [decide_eq_false h1, decide_eq_true (show r ≥ 500 by omega)]; cases neg <;> rfl)
    · simp only [if_neg h2]
      exact J3 false (by rw [decide_eq_false h1, decide_eq_false (show ¬ r ≥ 500 by omega)]; simp)
theorem price_end {ps : List Int} {l : List S35} {n i H0 H1 L0 L1 : Int} (hi : ¬ i < n) (a0 : 0 ≤ H0) (a1 : 0 ≤ H1) (b0 : 0 ≤ L0) (b1 : L0 < 18446744073709551616) (c0 : 0 ≤ L1) (c1 : L1 < 18446744073709551616)
    (hA : H0 * 18446744073709551616 + L0 ≤ 10000000000000000000000) (hB : H1 * 18446744073709551616 + L1 ≤ 10000000000000000000000) :
    Ev (fun k => block_Price.l0 k ps l n i H0 H1 L0 L1) (prOf ((H0 * 18446744073709551616 + L0) - (H1 * 18446744073709551616 + L1))) := by
  refine Ev.shift ?_
  simp only [block_Price.l0, if_neg hi]
  have J1 : ∀ b : Bool, b = decide ((H0 * 18446744073709551616 + L0) < (H1 * 18446744073709551616 + L1)) → Ev (fun k => block_Price.j1 k b H0 H1 L0 L1) (prOf ((H0 * 18446744073709551616 + L0) - (H1 * 18446744073709551616 + L1))) := by
    intro b hb
    refine Ev.shift ?_
    simp only [block_Price.j1]
    cases b
    · have := of_decide_eq_false hb.symm
      simp only [Bool.false_eq_true, if_false]
      have := price_j2 (neg := false) (Hx := H0) (Hy := H1) (Lx := L0) (Ly := L1) a0 (by omega) a1 b0 b1 c0 c1 (by omega) (by omega)
      simpa using this
    · have := of_decide_eq_true hb.symm
      simp only [if_true]
      have := price_j2 (neg := true) (Hx := H1) (Hy := H0) (Lx := L1) (Ly := L0) a1 (by omega) a0 c0 c1 b0 b1 (by omega) (by omega)
      simp only [if_true] at this
      rw [show -((H1 * 18446744073709551616 + L1) - (H0 * 18446744073709551616 + L0)) = (H0 * 18446744073709551616 + L0) - (H1 * 18446744073709551616 + L1) by omega] at this
      exact this
  by_cases h1 : H0 < H1
  · simp only [if_pos h1]; exact J1 true (by rw [decide_eq_true]; omega)
  · simp only [if_neg h1]
    by_cases h2 : H0 = H1
    · simp only [if_pos h2]
      refine J1 _ ?_
      by_cases h3 : L0 < L1
      · rw [decide_eq_true h3, decide_eq_true]; omega
      · rw [decide_eq_false h3, decide_eq_false]; omega
    · simp only [if_neg h2]; exact J1 false (by rw [decide_eq_false]; omega)
/-- A product more, in two words. -/
theorem add128 {H L z : Int} (h0 : 0 ≤ H) (l0 : 0 ≤ L) (l1 : L < 18446744073709551616) (z0 : 0 ≤ z) (hm : H * 18446744073709551616 + L + z ≤ 10000000000000000000000) :
    c01 (u64car L (z % 18446744073709551616) 0) = true ∧ ∃ H' L' : Int, u64add H (z / 18446744073709551616) (u64car L (z % 18446744073709551616) 0) = H' ∧ u64add L (z % 18446744073709551616) 0 = L' ∧ 0 ≤ H' ∧ 0 ≤ L' ∧ L' < 18446744073709551616 ∧
      H' * 18446744073709551616 + L' = H * 18446744073709551616 + L + z := by
  have ec := u64car_is (x := L) (y := z % 18446744073709551616) (c := 0) l0 (by omega) (by omega)
  have ea := u64add_is (x := L) (y := z % 18446744073709551616) (c := 0) l0 (by omega) (by omega)
  rw [ec]
  refine ⟨c01_of (by omega), _, _, rfl, rfl, ?_⟩
  rw [ea, u64add_is h0 (by omega) (by omega), Int.emod_eq_of_lt (a := H + z / 18446744073709551616 + (L + z % 18446744073709551616 + 0) / 18446744073709551616) (by omega) (by omega)]
  omega
theorem prod_bounds {q r : Int} (hq : 0 ≤ q) (h0 : -10000000 ≤ r) (h1 : r ≤ 10000000) : -(10000000 * q) ≤ q * r ∧ q * r ≤ 10000000 * q := by
  have a := Int.mul_le_mul_of_nonneg_left h0 hq
  have b := Int.mul_le_mul_of_nonneg_left h1 hq
  rw [Int.mul_neg] at a
  omega
theorem sum_nonneg : ∀ {l : List Int}, (∀ q ∈ l, 0 ≤ q) → 0 ≤ l.sum
  | [], _ => by simp
  | q :: l, h => by
    have := sum_nonneg (l := l) (fun z hz => h z (by simp [hz]))
    have := h q (by simp)
    rw [List.sum_cons]; omega
theorem price_l0 : ∀ (t : List S35) (qs : List Int) (p : List S35) (pq : List Int) {l : List S35} {ps : List Int} {i H0 H1 L0 L1 : Int}, l = p ++ t → ps = pq ++ qs → qs.length = t.length → i = p.length → pq.length = p.length → (l.length : Int) ≤ 64 →
    (∀ q ∈ qs, 0 ≤ q) → (∀ s ∈ t, -10000000 ≤ s.f1 ∧ s.f1 ≤ 10000000) → 0 ≤ H0 → 0 ≤ H1 → 0 ≤ L0 → L0 < 18446744073709551616 → 0 ≤ L1 → L1 < 18446744073709551616 →
    H0 * 18446744073709551616 + L0 + 10000000 * qs.sum ≤ 10000000000000000000000 → H1 * 18446744073709551616 + L1 + 10000000 * qs.sum ≤ 10000000000000000000000 →
    Ev (fun k => block_Price.l0 k ps l (l.length : Int) i H0 H1 L0 L1) (prOf ((H0 * 18446744073709551616 + L0) - (H1 * 18446744073709551616 + L1) + tR qs t))
  | [], qs, p, pq, l, ps, i, H0, H1, L0, L1, hl, hp, hq, hi, hpq, hn, hq0, hr, a0, a1, b0, b1, c0, c1, hA, hB => by
    have : qs = [] := List.length_eq_zero_iff.1 (by simpa using hq)
    subst this
    have := price_end (ps := ps) (l := l) (n := l.length) (i := i) (H0 := H0) (H1 := H1) (L0 := L0) (L1 := L1) (by subst hl; simp; omega) a0 a1 b0 b1 c0 c1 (by simpa using hA) (by simpa using hB)
    simpa [tR] using this
  | s :: t, [], _, _, _, _, _, _, _, _, _, _, _, hq, _, _, _, _, _, _, _, _, _, _, _, _, _ => by simp at hq
  | s :: t, q :: qs, p, pq, l, ps, i, H0, H1, L0, L1, hl, hp, hq, hi, hpq, hn, hq0, hr, a0, a1, b0, b1, c0, c1, hA, hB => by
    have hlt : i < (l.length : Int) := by subst hl; simp; omega
    have hlt2 : i < (ps.length : Int) := by subst hp; simp; omega
    have hrd : rd_T35 l i = s := by subst hl; exact rdT_mid hi
    have hrq : rd ps i = q := by subst hp; exact rd_mid (by omega)
    have ei : wrap64 (i + 1) = i + 1 := i64in (by omega) (by omega)
    have hqq := hq0 q (by simp)
    have hrr := hr s (by simp)
    have hsum := sum_nonneg (l := qs) (fun z hz => hq0 z (by simp [hz]))
    rw [List.sum_cons] at hA hB
    have hpb := prod_bounds hqq hrr.1 hrr.2
    have ewq : IntKind.u64.wrap q = q := w64 (by omega) (by omega)
    have IH := fun (H0 H1 L0 L1 : Int) (a0 : 0 ≤ H0) (a1 : 0 ≤ H1) (b0 : 0 ≤ L0) (b1 : L0 < 18446744073709551616) (c0 : 0 ≤ L1) (c1 : L1 < 18446744073709551616) hA hB =>
      price_l0 t qs (p ++ [s]) (pq ++ [q]) (l := l) (ps := ps) (i := i + 1) (H0 := H0) (H1 := H1) (L0 := L0) (L1 := L1) (by subst hl; simp) (by subst hp; simp) (by simpa using hq) (by simp; omega) (by simp; omega) hn (fun z hz => hq0 z (by simp [hz])) (fun z hz => hr z (by simp [hz])) a0 a1 b0 b1 c0 c1 hA hB
    refine Ev.shift ?_
    simp only [block_Price.l0, if_pos hlt, if_pos (show 0 ≤ i by omega), hrd, hrq, if_pos hlt2, ei, ewq]
    have c00 : c01 0 = true := by decide
    simp only [if_pos c00, tR]
    by_cases hneg : s.f1 < 0
    · have ewr : IntKind.u64.wrap (wrap64 (-s.f1)) = -s.f1 := by rw [i64in (by omega) (by omega), w64 (by omega) (by omega)]
      simp only [if_pos hneg, ewr]
      rw [mul64_f hqq (by omega) (by omega) (by omega)]
      have hz0 : 0 ≤ q * -s.f1 := Int.mul_nonneg hqq (by omega)
      have hz1 : q * -s.f1 = -(q * s.f1) := Int.mul_neg ..
      generalize q * -s.f1 = z at *
      obtain ⟨hc, H', L', e1, e2, d0, d1, d2, d3⟩ := add128 (H := H1) (L := L1) (z := z) a1 c0 c1 hz0 (by omega)
      simp only [Option.bind_some, if_pos hc, e1, e2]
      have := IH H0 H' L0 L' a0 d0 b0 b1 d1 d2 (by omega) (by omega)
      rw [show (H0 * 18446744073709551616 + L0) - (H1 * 18446744073709551616 + L1) + (q * s.f1 + tR qs t) = (H0 * 18446744073709551616 + L0) - (H' * 18446744073709551616 + L') + tR qs t by omega]
      exact this
    · have ewr : IntKind.u64.wrap s.f1 = s.f1 := w64 (by omega) (by omega)
      simp only [if_neg hneg, ewr]
      rw [mul64_f hqq (by omega) (by omega) (by omega)]
      have hz0 : 0 ≤ q * s.f1 := Int.mul_nonneg hqq (by omega)
      generalize q * s.f1 = z at *
      obtain ⟨hc, H', L', e1, e2, d0, d1, d2, d3⟩ := add128 (H := H0) (L := L0) (z := z) a0 b0 b1 hz0 (by omega)
      simp only [Option.bind_some, if_pos hc, e1, e2]
      have := IH H' H1 L' L1 d0 a1 d1 d2 c0 c1 (by omega) (by omega)
      rw [show (H0 * 18446744073709551616 + L0) - (H1 * 18446744073709551616 + L1) + (z + tR qs t) = (H' * 18446744073709551616 + L') - (H1 * 18446744073709551616 + L1) + tR qs t by omega]
      exact this
theorem gB_rates : ∀ {t : List S35} {b : Int}, gB b t = true → ∀ s ∈ t, -10000000 ≤ s.f1 ∧ s.f1 ≤ 10000000
  | [], _, h => by simp [gB] at h
  | [s], _, h => by
    simp only [gB, rateOk, Bool.and_eq_true, decide_eq_true_eq] at h
    intro z hz; simp only [List.mem_singleton] at hz; subst hz; exact h.1
  | s :: r :: t, _, h => by
    simp only [gB, rateOk, Bool.and_eq_true, decide_eq_true_eq] at h
    intro z hz
    rcases List.mem_cons.1 hz with rfl | hz
    · exact h.1
    · exact gB_rates h.2.2.2 z hz
theorem partsA_ok {l : List S35} {wh : Int} (h : (partsA l wh).2 = 0) : goodL l = true ∧ 0 ≤ wh ∧ wh ≤ 500000000000000 ∧ (partsA l wh).1 = pR wh 0 l := by
  unfold partsA at h ⊢
  by_cases hg : goodL l = true
  · rw [if_pos hg] at h ⊢
    by_cases hw : 0 ≤ wh ∧ wh ≤ 500000000000000
    · rw [if_pos hw]; exact ⟨hg, hw.1, hw.2, rfl⟩
    · rw [if_neg hw] at h; simp at h
  · rw [if_neg hg] at h; simp at h
theorem goodL_of {l : List S35} (hg : goodL l = true) : (l.length : Int) ≤ 64 ∧ gB 0 l = true := by
  unfold goodL at hg; simp only [Bool.and_eq_true, decide_eq_true_eq] at hg; exact hg
theorem price_f {l : List S35} {wh : Int} (hn : (l.length : Int) ≤ 140737488355328) (h0 : -9223372036854775808 ≤ wh) (h1 : wh ≤ 9223372036854775807) : Ev (fun k => block_Price.f k l wh) (priceA l wh) := by
  unfold block_Price.f priceA
  refine Ev.bind (parts_f hn h0 h1) ?_
  by_cases h : (partsA l wh).2 = 0
  · simp only [if_pos h]
    obtain ⟨hg, w0, w1, hp⟩ := partsA_ok h
    obtain ⟨hl, hgB⟩ := goodL_of hg
    rw [hp]
    have hs := pR_sum hgB (by omega) (by omega) w0 w1
    have hs1 : (pR wh 0 l).sum ≤ 500000000000000 := by rw [hs.1]; unfold mx; split <;> omega
    have := price_l0 l (pR wh 0 l) [] [] (l := l) (ps := pR wh 0 l) (i := 0) (H0 := 0) (H1 := 0) (L0 := 0) (L1 := 0) rfl rfl (pR_length ..) rfl rfl hl hs.2 (gB_rates hgB) (by omega) (by omega) (by omega) (by omega) (by omega) (by omega) (by omega) (by omega)
    simpa using this
  · simp only [if_neg h]
    exact Ev.now _
/-! ### The reference's -/
theorem halfUp_shift (W R : Int) : halfUp (1000 * W + R) 1000 = W + halfUp R 1000 := by
  have h := halfUp_spec R (d := 1000) (by omega)
  exact halfUp_is (by omega) (by omega) (by omega)
theorem wf_i {x : Int} (h0 : -9223372036854775808 ≤ x) (h1 : x ≤ 9223372036854775807) : (Lit.int .i64 x).wf = true := by
  simpa [Lit.wf, IntKind.min, IntKind.max, IntKind.bits, IntKind.signed] using ⟨h0, h1⟩
theorem refprice_end {ps : List Int} {l : List S35} {n i W R : Int} (hi : ¬ i < n) (w0 : -5000000000000000000 ≤ W) (w1 : W ≤ 5000000000000000000) (r0 : -640000000000 ≤ R) (r1 : R ≤ 640000000000) :
    Ev (fun k => pylonref17_Price.l0 k l ps W R n i) (prOf (1000 * W + R)) := by
  refine Ev.shift ?_
  simp only [pylonref17_Price.l0, if_neg hi]
  have hh := halfUp_spec R (d := 1000) (by omega)
  refine Ev.bind (refhalf_f (a := R) (b := 1000) (wf_i (by omega) (by omega)) (by decide)) ?_
  have e : mulDivA R 1 1000 = (halfUp R 1000, 0) := by
    unfold mulDivA mulDiv
    rw [if_neg (by omega), if_neg (by omega), Int.mul_one]
    unfold fits
    rw [if_pos (by omega)]
  rw [e]
  refine Ev.bind (refadd_f (a := W) (b := halfUp R 1000) (by omega) (by omega)) ?_
  unfold fits prOf
  rw [halfUp_shift]
  simp only [if_pos (show -9223372036854775808 ≤ W + halfUp R 1000 ∧ W + halfUp R 1000 ≤ 9223372036854775807 by omega), if_true]
  generalize W + halfUp R 1000 = v
  by_cases h1 : v > 1000000000000000
  · simp only [if_pos h1]; rw [if_neg (by omega)]; exact Ev.now _
  · simp only [if_neg h1]
    by_cases h2 : v < -1000000000000000
    · simp only [if_pos h2]; rw [if_neg (by omega)]; exact Ev.now _
    · simp only [if_neg h2]; rw [if_pos (by omega)]; exact Ev.now _
theorem refprice_l0 : ∀ (t : List S35) (qs : List Int) (p : List S35) (pq : List Int) {l : List S35} {ps : List Int} {i W R : Int}, l = p ++ t → ps = pq ++ qs → qs.length = t.length → i = p.length → pq.length = p.length → (l.length : Int) ≤ 64 →
    (∀ q ∈ qs, 0 ≤ q) → (∀ s ∈ t, -10000000 ≤ s.f1 ∧ s.f1 ≤ 10000000) → -5000000000000000000 ≤ W - 10000 * qs.sum → W + 10000 * qs.sum ≤ 5000000000000000000 →
    -640000000000 ≤ R - 10000000000 * (t.length : Int) → R + 10000000000 * (t.length : Int) ≤ 640000000000 →
    Ev (fun k => pylonref17_Price.l0 k l ps W R (ps.length : Int) i) (prOf (1000 * W + R + tR qs t))
  | [], qs, p, pq, l, ps, i, W, R, hl, hp, hq, hi, hpq, hn, hq0, hr, w0, w1, r0, r1 => by
    have : qs = [] := List.length_eq_zero_iff.1 (by simpa using hq)
    subst this
    simp only [List.sum_nil, List.length_nil] at w0 w1 r0 r1
    have := refprice_end (ps := ps) (l := l) (n := ps.length) (i := i) (W := W) (R := R) (by subst hp; simp; omega) (by omega) (by omega) (by omega) (by omega)
    simpa [tR] using this
  | s :: t, [], _, _, _, _, _, _, _, _, _, hq, _, _, _, _, _, _, _, _, _ => by simp at hq
  | s :: t, q :: qs, p, pq, l, ps, i, W, R, hl, hp, hq, hi, hpq, hn, hq0, hr, w0, w1, r0, r1 => by
    have hlt : i < (l.length : Int) := by subst hl; simp; omega
    have hlt2 : i < (ps.length : Int) := by
      subst hp; simp; omega
    have hrd : rd_T35 l i = s := by subst hl; exact rdT_mid hi
    have hrq : rd ps i = q := by subst hp; exact rd_mid (by omega)
    have ei : wrap64 (i + 1) = i + 1 := i64in (by omega) (by omega)
    have hqq := hq0 q (by simp)
    have hrr := hr s (by simp)
    have hsum := sum_nonneg (l := qs) (fun z hz => hq0 z (by simp [hz]))
    rw [List.sum_cons] at w0 w1
    rw [List.length_cons] at r0 r1
    have ha := prod_bounds (q := q / 1000) (r := s.f1) (by omega) hrr.1 hrr.2
    have hb := prod_bounds (q := q % 1000) (r := s.f1) (by omega) hrr.1 hrr.2
    have hsplit : 1000 * (q / 1000 * s.f1) + q % 1000 * s.f1 = q * s.f1 := by
      rw [← Int.mul_assoc, ← Int.add_mul, show 1000 * (q / 1000) + q % 1000 = q by omega]
    refine Ev.shift ?_
    simp only [pylonref17_Price.l0, if_pos hlt, if_pos (show 0 ≤ i by omega), hrd, hrq, if_pos hlt2, ei, tmodn hqq, Int.tdiv_eq_ediv_of_nonneg hqq, tR]
    rw [i64in (x := q / 1000) (by omega) (by omega), i64in (x := q / 1000 * s.f1) (by omega) (by omega), i64in (x := q % 1000 * s.f1) (by omega) (by omega)]
    generalize q / 1000 * s.f1 = y at *
    generalize q % 1000 * s.f1 = z at *
    rw [i64in (x := W + y) (by omega) (by omega), i64in (x := R + z) (by omega) (by omega)]
    have IH := refprice_l0 t qs (p ++ [s]) (pq ++ [q]) (l := l) (ps := ps) (i := i + 1) (W := W + y) (R := R + z) (by subst hl; simp) (by subst hp; simp) (by simpa using hq) (by simp; omega) (by simp; omega) hn (fun z hz => hq0 z (by simp [hz])) (fun z hz => hr z (by simp [hz])) (by omega) (by omega) (by omega) (by omega)
    rw [show 1000 * W + R + (q * s.f1 + tR qs t) = 1000 * (W + y) + (R + z) + tR qs t by omega]
    exact IH
theorem refprice_f {l : List S35} {wh : Int} (hn : (l.length : Int) ≤ 140737488355328) : Ev (fun k => pylonref17_Price.f k l wh) (priceA l wh) := by
  unfold pylonref17_Price.f priceA
  refine Ev.bind (refparts_f hn) ?_
  by_cases h : (partsA l wh).2 = 0
  · simp only [if_pos h]
    obtain ⟨hg, w0, w1, hp⟩ := partsA_ok h
    obtain ⟨hl, hgB⟩ := goodL_of hg
    rw [hp]
    have hs := pR_sum hgB (by omega) (by omega) w0 w1
    have hs1 : (pR wh 0 l).sum ≤ 500000000000000 := by rw [hs.1]; unfold mx; split <;> omega
    have := refprice_l0 l (pR wh 0 l) [] [] (l := l) (ps := pR wh 0 l) (i := 0) (W := 0) (R := 0) rfl rfl (pR_length ..) rfl rfl hl hs.2 (gB_rates hgB) (by omega) (by omega) (by omega) (by omega)
    simpa using this
  · simp only [if_neg h]
    exact Ev.now _
end Go.Proofs.Ythejabcfbbmkeaa.PureB
