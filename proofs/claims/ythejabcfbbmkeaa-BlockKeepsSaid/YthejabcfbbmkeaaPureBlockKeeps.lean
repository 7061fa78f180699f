/- BlockKeeps holds: what is handed in stays as it is, spare room too, and the answers are new memory; whatever the input, the law answers true and its arguments read as before. -/
import Derived.Test.YthejabcfbbmkeaaBlockPB
import Derived.Test.YthejabcfbbmkeaaPBx11
set_option linter.unusedVariables false
namespace Go.Proofs.Ythejabcfbbmkeaa.Pure
open Go.RowKit Go.Proofs.Ythejabcfbbmkeaa.PB Go.Proofs.Ythejabcfbbmkeaa.Num Go.Proofs.Ythejabcfbbmkeaa.PureB Go.Proofs.YthejabcfbbmkeaaW.PrintWords Go.Proofs.YthejabcfbbmkeaaW.PrintLast Go.Proofs.YthejabcfbbmkeaaW.PrintMore
theorem steps_loop : ∀ (t p : List S35) {l : List S35} {i : Int}, l = p ++ t → i = p.length → (l.length : Int) ≤ 140737488355328 → Ev (fun k => pylonref08_SameSteps.l0 k l l (l.length : Int) i) true
  | [], p, l, i, hl, hi, hn => by
    refine Ev.shift ?_
    simp only [pylonref08_SameSteps.l0, if_neg (show ¬ i < (l.length : Int) by subst hl; simp; omega)]
    exact Ev.now _
  | s :: t, p, l, i, hl, hi, hn => by
    have hlt : i < (l.length : Int) := by subst hl; simp; omega
    refine Ev.shift ?_
    simp only [pylonref08_SameSteps.l0, if_pos hlt, if_pos (show 0 ≤ i by omega), beq_self_eq_true, Bool.not_true, Bool.or_self, Bool.false_eq_true, if_false, i64in (x := i + 1) (by omega) (by omega)]
    exact steps_loop t (p ++ [s]) (by subst hl; simp) (by simp; omega) hn
theorem keeps_l1 {l room b : List _} (hn : (l.length : Int) ≤ 140737488355328) (hb : (b.length : Int) ≤ 140737488355328) (hroom : room = l ++ [(⟨77, 0⟩ : S35)]) : ∀ (d : Nat) (x : List Int) (j : Int), j + d = 20 → 0 ≤ j → x.length + d ≤ 1000 → Ev (fun k => pylonlaw17_BlockKeeps.l1 k l room l x b b j) true
  | 0, x, j, hj, h0, hx => by
    refine Ev.shift ?_
    simp only [pylonlaw17_BlockKeeps.l1, if_neg (show ¬ j < 20 by omega)]
    refine Ev.bind (show Ev (fun k => pylonref08_SameSteps.f k l l) true from ?_) ?_
    · unfold pylonref08_SameSteps.f
      simp only [if_true]
      exact steps_loop l [] rfl rfl hn
    · have e : rd_T35 room (l.length : Int) = (⟨77, 0⟩ : S35) := by subst hroom; exact rdT_mid rfl
      simp only [if_true, if_pos (show (0 : Int) ≤ (l.length : Int) by omega), if_pos (show (l.length : Int) < (room.length : Int) by subst hroom; simp; omega), e]
      refine Ev.bind (same_f hb) ?_
      exact Ev.now _
  | d + 1, x, j, hj, h0, hx => by
    refine Ev.shift ?_
    simp only [pylonlaw17_BlockKeeps.l1, if_pos (show j < 20 by omega), if_pos (show x.length < 17592186044416 by omega), i64in (x := j + 1) (by omega) (by omega)]
    exact keeps_l1 hn hb hroom d (x ++ [-7]) (j + 1) (by omega) (by omega) (by simp; omega)
theorem keeps_l0 {l room b : List _} (hn : (l.length : Int) ≤ 140737488355328) (hb : (b.length : Int) ≤ 140737488355328) (hroom : room = l ++ [(⟨77, 0⟩ : S35)]) : ∀ (d : Nat) (x : List Int) (i n : Int), n = x.length → i + d = n → 0 ≤ i → x.length ≤ 900 → Ev (fun k => pylonlaw17_BlockKeeps.l0 k l room l x b b n i) true
  | 0, x, i, n, hxn, hi, h0, hx => by
    refine Ev.shift ?_
    simp only [pylonlaw17_BlockKeeps.l0, if_neg (show ¬ i < n by omega)]
    exact keeps_l1 hn hb hroom 20 x 0 (by omega) (by omega) (by omega)
  | d + 1, x, i, n, hxn, hi, h0, hx => by
    refine Ev.shift ?_
    simp only [pylonlaw17_BlockKeeps.l0, if_pos (show i < n by omega), if_pos h0, if_pos (show i < (x.length : Int) by omega), i64in (x := i + 1) (by omega) (by omega)]
    exact keeps_l0 hn hb hroom d (x.set i.toNat (-7)) (i + 1) n (by simp; omega) (by omega) (by omega) (by simp; omega)
theorem partsA_len (l : List S35) (wh : Int) : (partsA l wh).1.length ≤ 64 := by
  unfold partsA
  by_cases hg : goodL l = true
  · rw [if_pos hg]
    have := (goodL_of hg).1
    split
    · simp only [pR_length]; omega
    · simp
  · rw [if_neg hg]; simp
theorem BlockKeeps : pylonlaw17_BlockKeeps.Pure := by
  intro l wh hl hw
  have w := wf64 hw
  have hn : (l.length : Int) ≤ 140737488355328 := by have := hl.1; omega
  refine Ev.rounds (g := fun k => pylonlaw17_BlockKeeps.f k l wh) ?_
  unfold pylonlaw17_BlockKeeps.f
  refine Ev.bind awake_ev ?_
  have hlen : l.length < 8796093022208 := by have := hl.1; omega
  have ht : (l ++ [(⟨77, 0⟩ : S35)]).take ((l.length : Int) : Int).toNat = l := by simp
  simp only [if_true, Option.bind_some, List.nil_append, List.length_nil, if_pos (show 0 + l.length < 8796093022208 by omega), if_pos hlen, if_pos (show (0 : Int) ≤ (l.length : Int) by omega), if_pos (show (l.length : Int) ≤ ((l ++ [(⟨77, 0⟩ : S35)]).length : Int) by simp; omega), ht]
  refine Ev.bind (good_f hn) ?_
  refine Ev.bind (price_f hn w.1 w.2) ?_
  refine Ev.bind (parts_f hn w.1 w.2) ?_
  refine Ev.bind (parts_f hn w.1 w.2) ?_
  refine Ev.bind (refparts_f hn) ?_
  have := partsA_len l wh
  exact keeps_l0 hn (by omega) rfl (partsA l wh).1.length (partsA l wh).1 0 _ rfl (by omega) (by omega) (by omega)
end Go.Proofs.Ythejabcfbbmkeaa.Pure
