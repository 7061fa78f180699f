/- BlockCuts holds: a step that is cut in two of the same rate changes no price; whatever the input, the law answers true and its arguments read as before. -/
import Derived.Test.YthejabcfbbmkeaaBlockPB
import Derived.Test.YthejabcfbbmkeaaPBx10
set_option linter.unusedVariables false
namespace Go.Proofs.Ythejabcfbbmkeaa.Pure
open Go.RowKit Go.Proofs.Ythejabcfbbmkeaa.PB Go.Proofs.Ythejabcfbbmkeaa.Num Go.Proofs.Ythejabcfbbmkeaa.PureB Go.Proofs.YthejabcfbbmkeaaW.PrintWords Go.Proofs.YthejabcfbbmkeaaW.PrintLast Go.Proofs.YthejabcfbbmkeaaW.PrintMore
/-- Where step k begins, where it ends. -/
def bel (b : Int) : List S35 → Nat → Int
  | _, 0 => b
  | [], _ + 1 => b
  | s :: t, k + 1 => bel s.f0 t k
def abv : List S35 → Nat → Int
  | [], _ => 500000000000000
  | [_], 0 => 500000000000000
  | s :: _ :: _, 0 => s.f0
  | _ :: t, k + 1 => abv t k
theorem bel_is : ∀ (t : List S35) (b : Int) (k : Nat), k < t.length → bel b t (k + 1) = (t.getD k z35).f0
  | [], _, _, h => by simp at h
  | s :: t, b, 0, _ => by simp [bel]
  | s :: t, b, k + 1, h => by
    have := bel_is t s.f0 k (by simpa using h)
    simpa [bel] using this
theorem abv_in : ∀ (t : List S35) (k : Nat), k + 1 < t.length → abv t k = (t.getD k z35).f0
  | [], _, h => by simp at h
  | [s], k, h => by simp at h
  | s :: r :: t, 0, _ => by simp [abv]
  | s :: r :: t, k + 1, h => by
    have := abv_in (r :: t) k (by simpa using h)
    simpa [abv] using this
theorem abv_last : ∀ (t : List S35) (k : Nat), k + 1 = t.length → abv t k = 500000000000000
  | [], _, h => by simp at h
  | [s], 0, _ => by simp [abv]
  | [s], k + 1, h => by simp at h
  | s :: r :: t, 0, h => by simp at h
  | s :: r :: t, k + 1, h => by
    have := abv_last (r :: t) k (by simpa using h)
    simpa [abv] using this
theorem bel_bounds : ∀ (t : List S35) (b : Int) (k : Nat), gB b t = true → 0 ≤ b → b ≤ 500000000000000 → k < t.length → 0 ≤ bel b t k ∧ bel b t k ≤ 500000000000000 ∧ 0 ≤ abv t k ∧ abv t k ≤ 500000000000000
  | [], _, _, h, _, _, _ => by simp [gB] at h
  | [s], b, 0, _, h0, h1, _ => by simp only [bel, abv]; omega
  | [s], b, k + 1, _, _, _, h => by simp at h
  | s :: r :: t, b, 0, h, h0, h1, _ => by
    simp only [gB, Bool.and_eq_true, decide_eq_true_eq] at h
    simp only [bel, abv]; omega
  | s :: r :: t, b, k + 1, h, h0, h1, hk => by
    simp only [gB, Bool.and_eq_true, decide_eq_true_eq] at h
    have := bel_bounds (r :: t) s.f0 k h.2.2.2 (by omega) h.2.2.1 (by simpa using hk)
    simpa [bel, abv] using this
theorem gB_cons {b : Int} {s : S35} {u : List S35} (hu : u ≠ []) : gB b (s :: u) = (rateOk s && (decide (b < s.f0) && (decide (s.f0 ≤ 500000000000000) && gB s.f0 u))) := by
  cases u with
  | nil => exact absurd rfl hu
  | cons r t => rfl
theorem pR_cons {wh b : Int} {s : S35} {u : List S35} (hu : u ≠ []) : pR wh b (s :: u) = mx 0 (mn wh s.f0 - b) :: pR wh s.f0 u := by
  cases u with
  | nil => exact absurd rfl hu
  | cons r t => rfl
theorem cut_parts {wh b m u : Int} (h1 : b < m) (h2 : m < u) : mx 0 (mn wh m - b) + mx 0 (mn wh u - m) = mx 0 (mn wh u - b) := by
  unfold mx mn; (repeat' split) <;> omega
theorem cut_same (wh m : Int) : ∀ (k : Nat) (t : List S35) (b : Int), k < t.length → gB b t = true → bel b t k < m → m < abv t k →
    gB b (t.take k ++ (⟨m, (t.getD k z35).f1⟩ : S35) :: t.drop k) = true ∧ tR (pR wh b (t.take k ++ (⟨m, (t.getD k z35).f1⟩ : S35) :: t.drop k)) (t.take k ++ (⟨m, (t.getD k z35).f1⟩ : S35) :: t.drop k) = tR (pR wh b t) t
  | _, [], _, h, _, _, _ => by simp at h
  | 0, [s], b, _, hg, h1, h2 => by
    simp only [bel, abv] at h1 h2
    simp only [gB, Bool.and_eq_true] at hg
    have hr : rateOk (⟨m, s.f1⟩ : S35) = true := hg.1
    have c := cut_parts (wh := wh) h1 h2
    simp only [List.take_zero, List.nil_append, List.drop_zero, List.getD_cons_zero, gB, hg.1, hg.2, hr, pR, tR, decide_eq_true (show b < m by omega), decide_eq_true (show m ≤ 500000000000000 by omega), Bool.and_self, true_and]
    rw [← c, Int.add_mul]; omega
  | 0, s :: r :: t, b, _, hg, h1, h2 => by
    simp only [bel, abv] at h1 h2
    simp only [gB, Bool.and_eq_true, decide_eq_true_eq] at hg
    have hr : rateOk (⟨m, s.f1⟩ : S35) = true := hg.1
    have c := cut_parts (wh := wh) h1 h2
    simp only [List.take_zero, List.nil_append, List.drop_zero, List.getD_cons_zero, gB, hg.1, hr, hg.2.2.2, pR, tR, decide_eq_true (show b < m by omega), decide_eq_true (show m ≤ 500000000000000 by omega), decide_eq_true (show m < s.f0 by omega), decide_eq_true hg.2.2.1, Bool.and_self, true_and]
    rw [← c, Int.add_mul]; omega
  | k + 1, [s], b, h, _, _, _ => by simp at h
  | k + 1, s :: r :: t, b, h, hg, h1, h2 => by
    have hg' := hg
    simp only [gB, Bool.and_eq_true, decide_eq_true_eq] at hg
    have IH := cut_same wh m k (r :: t) s.f0 (by simpa using h) hg.2.2.2 (by simpa [bel] using h1) (by simpa [abv] using h2)
    have e : (s :: r :: t).take (k + 1) ++ (⟨m, ((s :: r :: t).getD (k + 1) z35).f1⟩ : S35) :: (s :: r :: t).drop (k + 1) = s :: ((r :: t).take k ++ (⟨m, ((r :: t).getD k z35).f1⟩ : S35) :: (r :: t).drop k) := by simp
    have hne : ((r :: t).take k ++ (⟨m, ((r :: t).getD k z35).f1⟩ : S35) :: (r :: t).drop k) ≠ [] := by simp
    rw [e, gB_cons hne, pR_cons hne, pR_cons (show r :: t ≠ [] by simp)]
    refine ⟨?_, ?_⟩
    · rw [hg.1, IH.1, decide_eq_true hg.2.1, decide_eq_true hg.2.2.1]; rfl
    · simp only [tR]; rw [IH.2]
theorem cut_price {l : List S35} {wh m : Int} {k : Nat} (hg : goodL l = true) (hl : (l.length : Int) ≤ 63) (hk : k < l.length) (h1 : bel 0 l k < m) (h2 : m < abv l k) :
    priceA (l.take k ++ (⟨m, (l.getD k z35).f1⟩ : S35) :: l.drop k) wh = priceA l wh := by
  obtain ⟨_, hgB⟩ := goodL_of hg
  have c := cut_same wh m k l 0 hk hgB h1 h2
  have hlen : ((l.take k ++ (⟨m, (l.getD k z35).f1⟩ : S35) :: l.drop k).length : Int) = l.length + 1 := by
    simp; omega
  have hg2 : goodL (l.take k ++ (⟨m, (l.getD k z35).f1⟩ : S35) :: l.drop k) = true := by
    unfold goodL
    rw [decide_eq_true (by omega), c.1]; rfl
  unfold priceA partsA
  rw [if_pos hg, if_pos hg2]
  by_cases hw : 0 ≤ wh ∧ wh ≤ 500000000000000
  · rw [if_pos hw, if_pos hw]; simp only [if_true]; rw [c.2]
  · rw [if_neg hw, if_neg hw]; simp
section
variable {l : List S35} {A C W : Int}
theorem cuts_j2 (hg : goodL l = true) (hl : (l.length : Int) ≤ 63) (hA0 : 0 ≤ A) (hA : A < l.length) (hW : -9223372036854775808 ≤ W ∧ W ≤ 9223372036854775807) (hC : -9223372036854775808 ≤ C ∧ C ≤ 9223372036854775807) :
    Ev (fun k => pylonlaw17_BlockCuts.j2 k l A C W (bel 0 l A.toNat) (abv l A.toNat)) true := by
  obtain ⟨_, hgB⟩ := goodL_of hg
  have hb := bel_bounds l 0 A.toNat hgB (by omega) (by omega) (by omega)
  have hcp := fun m wh => cut_price (l := l) (wh := wh) (m := m) (k := A.toNat) hg hl (by omega)
  generalize bel 0 l A.toNat = x9 at *
  generalize abv l A.toNat = x10 at *
  refine Ev.shift ?_
  simp only [pylonlaw17_BlockCuts.j2]
  rw [i64in (x := x10 - x9) (by omega) (by omega)]
  by_cases h2 : x10 - x9 < 2
  · simp only [if_pos h2]; exact Ev.now _
  · simp only [if_neg h2]
    rw [i64in (x := x10 - x9 - 1) (by omega) (by omega), w64 (x := x10 - x9 - 1) (by omega) (by omega), i64in (x := x9 + 1) (by omega) (by omega)]
    have hu0 : 0 ≤ IntKind.u64.wrap C := by rw [IntKind.wrap_u64]; omega
    have hm0 := Int.emod_nonneg (IntKind.u64.wrap C) (show x10 - x9 - 1 ≠ 0 by omega)
    have hm1 := Int.emod_lt_of_pos (IntKind.u64.wrap C) (show 0 < x10 - x9 - 1 by omega)
    rw [tmodn hu0]
    generalize IntKind.u64.wrap C % (x10 - x9 - 1) = M at *
    rw [i64in (x := M) (by omega) (by omega), i64in (x := x9 + 1 + M) (by omega) (by omega)]
    obtain ⟨e, he, e0, e1⟩ := energy_f hW.1 hW.2
    have ht : (l.take A.toNat).length = A.toNat := by rw [List.length_take]; omega
    simp only [if_neg (show ¬ x10 - x9 - 1 = 0 by omega), if_pos hA0, if_pos (show A ≤ (l.length : Int) by omega), if_pos hA, he, Option.bind_some, List.nil_append, List.length_nil, if_pos (show 0 + (l.take A.toNat).length < 8796093022208 by omega), if_pos (show (l.take A.toNat).length < 8796093022208 by omega),
      if_pos (show (l.take A.toNat ++ [(⟨x9 + 1 + M, (rd_T35 l A).f1⟩ : S35)]).length + (l.drop A.toNat).length < 8796093022208 by simp; omega), if_pos (show 0 + l.length < 8796093022208 by omega)]
    refine Ev.bind (price_f (l := l) (wh := e) (by omega) (by omega) (by omega)) ?_
    refine Ev.bind (price_f (l := l.take A.toNat ++ [(⟨x9 + 1 + M, (rd_T35 l A).f1⟩ : S35)] ++ l.drop A.toNat) (wh := e) (by simp; omega) (by omega) (by omega)) ?_
    have hp : priceA (l.take A.toNat ++ [(⟨x9 + 1 + M, (rd_T35 l A).f1⟩ : S35)] ++ l.drop A.toNat) e = priceA l e := by
      have := hcp (x9 + 1 + M) e (by omega) (by omega)
      rw [← this]
      simp [rd_T35]
    rw [hp]
    simp only [if_true, beq_self_eq_true]
    exact Ev.now _
theorem cuts_j1 (hg : goodL l = true) (hl : (l.length : Int) ≤ 63) (hA0 : 0 ≤ A) (hA : A < l.length) (hW : -9223372036854775808 ≤ W ∧ W ≤ 9223372036854775807) (hC : -9223372036854775808 ≤ C ∧ C ≤ 9223372036854775807) :
    Ev (fun k => pylonlaw17_BlockCuts.j1 k l A C W (bel 0 l A.toNat) 500000000000000) true := by
  have J := cuts_j2 hg hl hA0 hA hW hC
  refine Ev.shift ?_
  simp only [pylonlaw17_BlockCuts.j1]
  rw [i64in (x := (l.length : Int) - 1) (by omega) (by omega)]
  by_cases h : A < (l.length : Int) - 1
  · simp only [if_pos h, if_pos hA0, if_pos hA]
    rw [abv_in l A.toNat (by omega)] at J
    exact J
  · simp only [if_neg h]
    rw [abv_last l A.toNat (by omega)] at J
    exact J
end
theorem BlockCuts : pylonlaw17_BlockCuts.Pure := by
  intro l a c wh hl ha hc hw
  have hn : (l.length : Int) ≤ 140737488355328 := by have := hl.1; omega
  refine Ev.rounds (g := fun k => pylonlaw17_BlockCuts.f k l a c wh) ?_
  unfold pylonlaw17_BlockCuts.f
  refine Ev.bind awake_ev ?_
  simp only [if_true]
  refine Ev.bind (refgood_f hn) ?_
  have skip : Ev (fun k => pylonlaw17_BlockCuts.j0 k l a c wh true) true := by
    refine Ev.shift ?_
    simp only [pylonlaw17_BlockCuts.j0, if_true]
    exact Ev.now _
  cases hg : goodL l
  · simp only [Bool.false_eq_true, if_false]; exact skip
  · simp only [if_true]
    by_cases h63 : (l.length : Int) > 63
    · rw [decide_eq_true h63]; exact skip
    · rw [decide_eq_false h63]
      have hpos : 0 < (l.length : Int) := by
        cases l with
        | nil => simp [goodL, gB] at hg
        | cons s t => simp only [List.length_cons]; omega
      refine Ev.shift ?_
      simp only [pylonlaw17_BlockCuts.j0, Bool.false_eq_true, if_false]
      rw [w64 (x := (l.length : Int)) (by omega) (by omega)]
      have hu0 : 0 ≤ IntKind.u64.wrap a := by rw [IntKind.wrap_u64]; omega
      have hm0 := Int.emod_nonneg (IntKind.u64.wrap a) (show (l.length : Int) ≠ 0 by omega)
      have hm1 := Int.emod_lt_of_pos (IntKind.u64.wrap a) hpos
      rw [tmodn hu0]
      generalize IntKind.u64.wrap a % (l.length : Int) = A at *
      rw [i64in (x := A) (by omega) (by omega)]
      have J := cuts_j1 (A := A) hg (by omega) hm0 hm1 (wf64 hw) (wf64 hc)
      simp only [if_neg (show ¬ (l.length : Int) = 0 by omega)]
      by_cases h : A > 0
      · rw [i64in (x := A - 1) (by omega) (by omega)]
        simp only [if_pos h, if_pos (show 0 ≤ A - 1 by omega), if_pos (show A - 1 < (l.length : Int) by omega)]
        have e : bel 0 l A.toNat = (rd_T35 l (A - 1)).f0 := by
          have := bel_is l 0 (A.toNat - 1) (by omega)
          rw [show A.toNat - 1 + 1 = A.toNat by omega] at this
          rw [this]; unfold rd_T35; rw [show (A - 1).toNat = A.toNat - 1 by omega]
        rw [e] at J
        exact J
      · simp only [if_neg h]
        rw [show A.toNat = 0 by omega] at J
        simp only [bel] at J
        exact J
end Go.Proofs.Ythejabcfbbmkeaa.Pure
