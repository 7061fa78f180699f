/- FixAll: the code and the reference answer every operation alike. -/
import Derived.Test.YthejabcfbbmkeaaDoorPackG
import Derived.Test.YthejabcfbbmkeaaDoorPGx8
import Derived.Test.YthejabcfbbmkeaaDoorPGx12
import Derived.Test.YthejabcfbbmkeaaDoorPGx13
set_option linter.unusedVariables false
set_option linter.unusedSimpArgs false
namespace Go.Proofs.YthejabcfbbmkeaaDoor.Pure
open Go.RowKit Go.Proofs.YthejabcfbbmkeaaDoor.PG Go.Proofs.YthejabcfbbmkeaaDoor.PureG Go.Proofs.YthejabcfbbmkeaaDoor.Num Go.Proofs.YthejabcfbbmkeaaDoor.Dig Go.Proofs.YthejabcfbbmkeaaDoorW.PrintWords Go.Proofs.YthejabcfbbmkeaaDoorW.PrintLast Go.Proofs.YthejabcfbbmkeaaDoorW.PrintMore
theorem all_one (x : S48) (hx : okS48 x) : ∃ A, Ev (fun k => pylonlaw01_plays.f k x.f0 x.f1 x.f2 x.f3 x.f4 x.f5) A ∧ Ev (fun k => pylonlaw01_wants.f k x.f0 x.f1 x.f2 x.f3 x.f4 x.f5) A := by
  obtain ⟨h0, h1, h2, h3, h4, h5, h6⟩ := hx
  have w1 := wf64 h1
  have w2 := wf64 h2
  have w3 := wf64 h3
  have w5 : ∀ y ∈ x.f5, -9223372036854775808 ≤ y ∧ y ≤ 9223372036854775807 := fun y hy => wf64 (h6 y hy)
  have b2 : ∀ {g1 g2 : Nat → Option (Int × Int)} {A : Int × Int}, Ev g1 A → Ev g2 A →
      ∃ B, Ev (fun k => (g1 k).bind fun bt => (some (bt.1, (0 : Int), (⟨#[]⟩ : ByteArray), bt.2))) B ∧ Ev (fun k => (g2 k).bind fun bt => (some (bt.1, (0 : Int), (⟨#[]⟩ : ByteArray), bt.2))) B :=
    fun e1 e2 => ⟨_, Ev.bind e1 (Ev.now _), Ev.bind e2 (Ev.now _)⟩
  unfold pylonlaw01_plays.f pylonlaw01_wants.f
  by_cases c1 : x.f0 = 1
  · simp only [if_pos c1]
    exact b2 (Ev.ofEqK fun _ => add_f w1.1 w1.2 w2.1 w2.2) (refadd_f w1 w2)
  by_cases c2 : x.f0 = 2
  · simp only [if_neg c1, if_pos c2]
    exact b2 (Ev.ofEqK fun _ => sub_f w1.1 w1.2 w2.1 w2.2) (refsub_f w1 w2)
  by_cases c3 : x.f0 = 3
  · simp only [if_neg c1, if_neg c2, if_pos c3]
    exact b2 (mul_f w1.1 w1.2 w2.1 w2.2) (refmul_f h1 h2)
  by_cases c4 : x.f0 = 4
  · simp only [if_neg c1, if_neg c2, if_neg c3, if_pos c4]
    exact b2 (sum_f (by omega) w5) (refsum_f (by omega) w5)
  by_cases c5 : x.f0 = 5
  · simp only [if_neg c1, if_neg c2, if_neg c3, if_neg c4, if_pos c5]
    exact ⟨_, Ev.bind (divs_f w1.1 w1.2 w2.1 w2.2) (Ev.now _), Ev.bind (refdiv_f w1.1 w1.2 w2.1 w2.2) (Ev.now _)⟩
  by_cases c6 : x.f0 = 6
  · simp only [if_neg c1, if_neg c2, if_neg c3, if_neg c4, if_neg c5, if_pos c6]
    exact b2 (half_f h1 h2) (refhalf_f h1 h2)
  by_cases c7 : x.f0 = 7
  · simp only [if_neg c1, if_neg c2, if_neg c3, if_neg c4, if_neg c5, if_neg c6, if_pos c7]
    exact b2 (muldiv_f h1 h2 h3) (ref_muldiv_f h1 h2 h3)
  by_cases c8 : x.f0 = 8
  · simp only [if_neg c1, if_neg c2, if_neg c3, if_neg c4, if_neg c5, if_neg c6, if_neg c7, if_pos c8]
    obtain ⟨r, hr⟩ : ∃ r, 0 ≤ x.f1 → IsRoot x.f1 r := by
      by_cases c : 0 ≤ x.f1
      · obtain ⟨r, hr⟩ := root_of c
        exact ⟨r, fun _ => hr⟩
      · exact ⟨0, fun h => absurd h c⟩
    exact b2 (roots_f w1.1 w1.2 hr) (refroots_f w1.1 w1.2 hr)
  by_cases c9 : x.f0 = 9
  · simp only [if_neg c1, if_neg c2, if_neg c3, if_neg c4, if_neg c5, if_neg c6, if_neg c7, if_neg c8, if_pos c9]
    obtain ⟨r, hr⟩ := root_of (N := x.f1 * x.f1 + x.f2 * x.f2) (by have := sq_nonneg x.f1; have := sq_nonneg x.f2; omega)
    exact b2 (hyp_f w1.1 w1.2 w2.1 w2.2 hr) (refhyp_f w1.1 w1.2 w2.1 w2.2 hr)
  by_cases c10 : x.f0 = 10
  · simp only [if_neg c1, if_neg c2, if_neg c3, if_neg c4, if_neg c5, if_neg c6, if_neg c7, if_neg c8, if_neg c9, if_pos c10]
    exact ⟨_, Ev.bind (Ev.ofEqK fun _ => text_f w1.1 w1.2) (Ev.now _), Ev.bind (reftext_f w1.1 w1.2) (Ev.now _)⟩
  by_cases c11 : x.f0 = 11
  · simp only [if_neg c1, if_neg c2, if_neg c3, if_neg c4, if_neg c5, if_neg c6, if_neg c7, if_neg c8, if_neg c9, if_neg c10, if_pos c11]
    have hl : x.f4.data.toList.length ≤ 281474976710656 := by
      have : x.f4.data.toList.length = x.f4.size := rfl
      omega
    exact b2 (read_f x.f4.data.toList hl) (refread_f x.f4.data.toList hl)
  simp only [if_neg c1, if_neg c2, if_neg c3, if_neg c4, if_neg c5, if_neg c6, if_neg c7, if_neg c8, if_neg c9, if_neg c10, if_neg c11]
  exact ⟨_, Ev.now _, Ev.now _⟩
theorem all_loop (l : List S48) (hl : (l.length : Int) ≤ 140737488351232) (hw : ∀ y ∈ l, okS48 y) : ∀ (n : Nat) (i : Int), 0 ≤ i → i ≤ l.length → ((l.length : Int) - i).toNat = n →
    Ev (fun k => pylonlaw01_FixAll.l0 k l (l.length : Int) i) true := by
  intro n
  induction n with
  | zero =>
    intro i h0 h1 hn
    refine Ev.shift ?_
    simp only [pylonlaw01_FixAll.l0, if_neg (show ¬ i < (l.length : Int) by omega)]
    exact Ev.now _
  | succ n ih =>
    intro i h0 h1 hn
    have hlt : i < (l.length : Int) := by omega
    have IH := ih (i + 1) (by omega) (by omega) (by omega)
    refine Ev.shift ?_
    simp only [pylonlaw01_FixAll.l0, if_pos hlt, if_pos h0, i64in (x := i + 1) (by omega) (by omega)]
    have hm : rd_T48 l i ∈ l := by
      unfold rd_T48
      rw [List.getD_eq_getElem?_getD, List.getElem?_eq_getElem (show i.toNat < l.length by omega)]
      exact List.getElem_mem _
    obtain ⟨A, p1, p2⟩ := all_one (rd_T48 l i) (hw _ hm)
    refine Ev.bind p1 (Ev.bind p2 ?_)
    simp only [beq_self_eq_true, Bool.not_true, Bool.or_false, Bool.false_eq_true, if_false]
    exact IH
theorem FixAll : pylonlaw01_FixAll.Pure := by
  intro l hw
  apply ev_ex
  unfold pylonlaw01_FixAll.f
  refine Ev.bind awake_ev ?_
  simp only [if_true]
  exact all_loop l (by omega) hw.2 _ 0 (by omega) (by omega) rfl
end Go.Proofs.YthejabcfbbmkeaaDoor.Pure
