/- BlockGrows holds: where no rate is below 0, more never costs less; whatever the input, the law answers true and its arguments read as before. -/
import Derived.Test.YthejabcfbbmkeaaBlockPB
import Derived.Test.YthejabcfbbmkeaaPBx10
set_option linter.unusedVariables false
namespace Go.Proofs.Ythejabcfbbmkeaa.Pure
open Go.RowKit Go.Proofs.Ythejabcfbbmkeaa.PB Go.Proofs.Ythejabcfbbmkeaa.Num Go.Proofs.Ythejabcfbbmkeaa.PureB Go.Proofs.YthejabcfbbmkeaaW.PrintWords Go.Proofs.YthejabcfbbmkeaaW.PrintLast Go.Proofs.YthejabcfbbmkeaaW.PrintMore
/-- A step whose rate is not below 0. -/
def up0 (s : S35) : S35 := if s.f1 < 0 then ⟨s.f0, -(s.f1 + 1)⟩ else s
theorem up0_nonneg (s : S35) : 0 ≤ (up0 s).f1 := by
  unfold up0; split
  · simp only; omega
  · omega
theorem tR_grows : ∀ (t : List S35) {b u v : Int}, u ≤ v → (∀ s ∈ t, 0 ≤ s.f1) → tR (pR u b t) t ≤ tR (pR v b t) t ∧ 0 ≤ tR (pR u b t) t
  | [], _, _, _, _, _ => by simp [pR, tR]
  | [s], b, u, v, h, hs => by
    have h1 := hs s (by simp)
    simp only [pR, tR]
    have a : mx 0 (mn u 500000000000000 - b) ≤ mx 0 (mn v 500000000000000 - b) := by unfold mx mn; (repeat' split) <;> omega
    have c : 0 ≤ mx 0 (mn u 500000000000000 - b) := by unfold mx; split <;> omega
    have := Int.mul_le_mul_of_nonneg_right a h1
    have := Int.mul_nonneg c h1
    omega
  | s :: r :: t, b, u, v, h, hs => by
    have h1 := hs s (by simp)
    have IH := tR_grows (r :: t) (b := s.f0) h (fun z hz => hs z (List.mem_cons_of_mem _ hz))
    simp only [pR, tR] at IH ⊢
    have a : mx 0 (mn u s.f0 - b) ≤ mx 0 (mn v s.f0 - b) := by unfold mx mn; (repeat' split) <;> omega
    have c : 0 ≤ mx 0 (mn u s.f0 - b) := by unfold mx; split <;> omega
    have := Int.mul_le_mul_of_nonneg_right a h1
    have := Int.mul_nonneg c h1
    omega
theorem grows_end {L : List S35} {a1 a2 i n : Int} (hi : ¬ i < n) (hn : (L.length : Int) ≤ 140737488355328) (h1 : -9223372036854775808 ≤ a1 ∧ a1 ≤ 9223372036854775807) (h2 : -9223372036854775808 ≤ a2 ∧ a2 ≤ 9223372036854775807) (hr : ∀ s ∈ L, 0 ≤ s.f1) :
    Ev (fun k => pylonlaw17_BlockGrows.l0 k a1 a2 L n i) true := by
  refine Ev.shift ?_
  obtain ⟨e, he, e0, e1⟩ := energy_f h1.1 h1.2
  obtain ⟨d, hd, d0, d1⟩ := energy_f h2.1 h2.2
  simp only [pylonlaw17_BlockGrows.l0, if_neg hi, he, hd, Option.bind_some]
  have b1 : 0 ≤ mn e d ∧ mn e d ≤ 500000000000000 := by unfold mn; split <;> omega
  have b2 : 0 ≤ mx e d ∧ mx e d ≤ 500000000000000 := by unfold mx; split <;> omega
  have b3 : mn e d ≤ mx e d := by unfold mn mx; (repeat' split) <;> omega
  generalize mn e d = u at *
  generalize mx e d = v at *
  refine Ev.bind (price_f hn (by omega) (by omega)) ?_
  refine Ev.bind (price_f hn (by omega) (by omega)) ?_
  refine Ev.bind (refgood_f hn) ?_
  unfold priceA partsA
  cases hg : goodL L
  · simp only [Bool.false_eq_true, if_false, if_neg (show ¬ (2 : Int) = 0 by omega), if_true]
    exact Ev.now _
  · simp only [if_true, if_pos (show 0 ≤ u ∧ u ≤ 500000000000000 from b1), if_pos (show 0 ≤ v ∧ v ≤ 500000000000000 from b2)]
    have hg := tR_grows L (b := 0) b3 hr
    unfold prOf
    have m1 := halfUp_mono (d := 1000) (by omega) hg.1
    have m2 := halfUp_mono (d := 1000) (by omega) hg.2
    rw [halfUp_zero (by omega)] at m2
    generalize halfUp (tR (pR u 0 L) L) 1000 = x at *
    generalize halfUp (tR (pR v 0 L) L) 1000 = y at *
    by_cases hx : -1000000000000000 ≤ x ∧ x ≤ 1000000000000000
    · simp only [if_pos hx, if_true]
      by_cases hy : -1000000000000000 ≤ y ∧ y ≤ 1000000000000000
      · simp only [if_pos hy, if_neg (show ¬ (0 : Int) = 5 by omega), if_true, if_pos (show x ≥ 0 by omega), decide_eq_true m1]
        exact Ev.now _
      · simp only [if_neg hy, if_true]
        exact Ev.now _
    · simp only [if_neg hx, if_neg (show ¬ (-1000000000000000 ≤ y ∧ y ≤ 1000000000000000) by omega), if_neg (show ¬ (5 : Int) = 0 by omega), if_true]
      exact Ev.now _
theorem grows_l0 : ∀ (t p : List S35) {x : List S35} {a1 a2 i : Int}, x = p ++ t → i = p.length → (x.length : Int) ≤ 140737488355328 → (∀ s ∈ t, okS35 s) → (∀ s ∈ p, 0 ≤ s.f1) → (-9223372036854775808 ≤ a1 ∧ a1 ≤ 9223372036854775807) → (-9223372036854775808 ≤ a2 ∧ a2 ≤ 9223372036854775807) →
    Ev (fun k => pylonlaw17_BlockGrows.l0 k a1 a2 x (x.length : Int) i) true
  | [], p, x, a1, a2, i, hx, hi, hn, ht, hp, h1, h2 => by
    subst hx
    exact grows_end (by simp; omega) hn h1 h2 (by simpa using hp)
  | s :: t, p, x, a1, a2, i, hx, hi, hn, ht, hp, h1, h2 => by
    have hlt : i < (x.length : Int) := by subst hx; simp; omega
    have hrd : rd_T35 x i = s := by subst hx; exact rdT_mid hi
    have ei : wrap64 (i + 1) = i + 1 := i64in (by omega) (by omega)
    have hs := wf64 (ht s (by simp)).2
    refine Ev.shift ?_
    simp only [pylonlaw17_BlockGrows.l0, if_pos hlt, if_pos (show 0 ≤ i by omega), hrd, ei]
    by_cases hneg : s.f1 < 0
    · simp only [if_pos hneg]
      rw [i64in (x := s.f1 + 1) (by omega) (by omega), i64in (x := -(s.f1 + 1)) (by omega) (by omega)]
      have hset : x.set i.toNat (⟨s.f0, -(s.f1 + 1)⟩ : S35) = (p ++ [(⟨s.f0, -(s.f1 + 1)⟩ : S35)]) ++ t := by
        subst hx; subst hi; simp
      have hlen : (x.length : Int) = ((x.set i.toNat (⟨s.f0, -(s.f1 + 1)⟩ : S35)).length : Int) := by simp
      have IH := grows_l0 t (p ++ [(⟨s.f0, -(s.f1 + 1)⟩ : S35)]) (x := x.set i.toNat (⟨s.f0, -(s.f1 + 1)⟩ : S35)) (a1 := a1) (a2 := a2) (i := i + 1) hset (by simp; omega) (by rw [← hlen]; exact hn) (fun z hz => ht z (by simp [hz])) (by
        intro z hz
        rcases List.mem_append.1 hz with hz | hz
        · exact hp z hz
        · simp only [List.mem_singleton] at hz; subst hz; show 0 ≤ -(s.f1 + 1); omega) h1 h2
      rw [← hlen] at IH
      exact IH
    · simp only [if_neg hneg]
      exact grows_l0 t (p ++ [s]) (x := x) (i := i + 1) (by subst hx; simp) (by simp; omega) hn (fun z hz => ht z (by simp [hz])) (by
        intro z hz
        rcases List.mem_append.1 hz with hz | hz
        · exact hp z hz
        · simp only [List.mem_singleton] at hz; subst hz; omega) h1 h2
theorem BlockGrows : pylonlaw17_BlockGrows.Pure := by
  intro l a1 a2 hl h1 h2
  have hn : (l.length : Int) ≤ 140737488355328 := by have := hl.1; omega
  refine Ev.rounds (g := fun k => pylonlaw17_BlockGrows.f k l a1 a2) ?_
  unfold pylonlaw17_BlockGrows.f
  refine Ev.bind awake_ev ?_
  simp only [if_true, Option.bind_some, List.nil_append, List.length_nil, if_pos (show 0 + l.length < 8796093022208 by have := hl.1; omega)]
  exact grows_l0 l [] rfl rfl hn hl.2 (by simp) (wf64 h1) (wf64 h2)
end Go.Proofs.Ythejabcfbbmkeaa.Pure
