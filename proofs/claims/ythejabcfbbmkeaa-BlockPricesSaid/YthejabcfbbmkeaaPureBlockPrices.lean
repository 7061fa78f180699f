/- BlockPrices holds: Good, Parts and Price of any steps are the reference's; whatever the input, the law answers true and its arguments read as before. -/
import Derived.Test.YthejabcfbbmkeaaBlockPB
import Derived.Test.YthejabcfbbmkeaaPBx8
set_option linter.unusedVariables false
namespace Go.Proofs.Ythejabcfbbmkeaa.Pure
open Go.RowKit Go.Proofs.Ythejabcfbbmkeaa.PB Go.Proofs.Ythejabcfbbmkeaa.Num Go.Proofs.Ythejabcfbbmkeaa.PureB Go.Proofs.YthejabcfbbmkeaaW.PrintWords Go.Proofs.YthejabcfbbmkeaaW.PrintLast Go.Proofs.YthejabcfbbmkeaaW.PrintMore
theorem BlockPrices : pylonlaw17_BlockPrices.Pure := by
  intro l wh hl hw
  have w := wf64 hw
  have hn : (l.length : Int) ≤ 140737488355328 := by have := hl.1; omega
  refine Ev.rounds (g := fun k => pylonlaw17_BlockPrices.f k l wh) ?_
  unfold pylonlaw17_BlockPrices.f
  refine Ev.bind awake_ev ?_
  simp only [if_true]
  refine Ev.bind (refparts_f hn) ?_
  refine Ev.bind (refprice_f hn) ?_
  simp only [Option.bind_some, List.nil_append, List.length_nil, if_pos (show 0 + l.length < 8796093022208 by have := hl.1; omega)]
  refine Ev.bind (parts_f hn w.1 w.2) ?_
  refine Ev.bind (price_f hn w.1 w.2) ?_
  refine Ev.bind (good_f hn) ?_
  refine Ev.bind (refgood_f hn) ?_
  simp only [beq_self_eq_true, if_true]
  have hp : (((partsA l wh).1).length : Int) ≤ 140737488355328 := by
    unfold partsA; split
    · split
      · simp only [pR_length]; exact hn
      · simp
    · simp
  refine Ev.bind (same_f hp) ?_
  exact Ev.now _
end Go.Proofs.Ythejabcfbbmkeaa.Pure
