/- FixBack: a number's text reads back as the number, and bears a sign for what is below 0. -/
import Derived.Test.YthejabcfbbmkeaaDoorFixTG
import Derived.Test.YthejabcfbbmkeaaDoorPGx6
set_option linter.unusedVariables false
set_option linter.unusedSimpArgs false
namespace Go.Proofs.YthejabcfbbmkeaaDoor.Pure
open Go.RowKit Go.Proofs.YthejabcfbbmkeaaDoor.PG Go.Proofs.YthejabcfbbmkeaaDoor.PureG Go.Proofs.YthejabcfbbmkeaaDoor.Num Go.Proofs.YthejabcfbbmkeaaDoor.Dig Go.Proofs.YthejabcfbbmkeaaDoorW.PrintWords Go.Proofs.YthejabcfbbmkeaaDoorW.PrintLast Go.Proofs.YthejabcfbbmkeaaDoorW.PrintMore
theorem FixBack : pylonlaw01_FixBack.Pure := by
  intro n hw
  have h := wf64 hw
  apply ev_ex
  unfold pylonlaw01_FixBack.f
  refine Ev.bind awake_ev ?_
  rw [text_f h.1 h.2]
  simp only [if_true, Option.bind_some]
  have hlen := itoa_len n h.1 h.2
  refine Ev.bind (read_f (Lib.itoa n) (by omega)) ?_
  rw [readA_itoa h.1 h.2]
  simp only [if_true]
  refine Ev.bind (istext_f (Lib.itoa n) (by omega)) ?_
  have hp : 0 < (Lib.itoa n).length := by
    have h2 := (itoa_num n).1.2.1
    have h3 := mag_len (Lib.itoa n)
    have := List.length_pos_iff.2 h2
    omega
  have e : (decide (n < 0) == decide ((Lib.itoa n).head? = some 45)) = true := by
    by_cases c : n < 0
    · rw [decide_eq_true c, decide_eq_true ((itoa_head n).2 c)]; rfl
    · rw [decide_eq_false c, decide_eq_false (fun x => c ((itoa_head n).1 x))]; rfl
  simp only [decide_eq_true (itoa_num n).1, if_true, sz_mk, if_pos (show (0 : Int) < ((Lib.itoa n).length : Int) by omega), sign_mk _ hp, e]
  exact Ev.now _
end Go.Proofs.YthejabcfbbmkeaaDoor.Pure
