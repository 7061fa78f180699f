/- FixNames holds: the numbers of errors and limits are those of the document, and an Errno is an error; the law answers true. -/
import Derived.Test.YthejabcfbbmkeaaDoorFixAF
import Derived.Test.YthejabcfbbmkeaaDoorPFx3
set_option linter.unusedVariables false
namespace Go.Proofs.YthejabcfbbmkeaaDoor.Pure
open Go.RowKit Go.Proofs.YthejabcfbbmkeaaDoor.PF Go.Proofs.YthejabcfbbmkeaaDoor.Num Go.Proofs.YthejabcfbbmkeaaDoor.PureF Go.Proofs.YthejabcfbbmkeaaDoorW.PrintWords Go.Proofs.YthejabcfbbmkeaaDoorW.PrintLast Go.Proofs.YthejabcfbbmkeaaDoorW.PrintMore
theorem errno_f {n : Int} (h0 : 0 ≤ n) (h1 : n ≤ 9) : ∃ s : ByteArray, api_Errno_Error.f n = some s ∧ s.toList ≠ [] := by
  refine ⟨Hand.errPre ++ ⟨(Lib.itoa n).toArray⟩, ?_, ?_⟩
  · unfold api_Errno_Error.f Hand.errnoA
    rw [if_pos ⟨by omega, by omega⟩]
  · rw [ByteArray.toList_eq]
    intro h
    have := congrArg List.length h
    rw [show (Hand.errPre ++ (⟨(Lib.itoa n).toArray⟩ : ByteArray)).data = Hand.errPre.data ++ (Lib.itoa n).toArray by simp [ByteArray.data_append]] at this
    simp [Hand.errPre] at this
theorem names_l0 : ∀ (d : Nat) (i : Int), i + d = 10 → 0 ≤ i → Ev (fun k => pylonlaw01_FixNames.l0 k [0, 1, 2, 3, 4, 5, 6, 7, 8, 9] 10 i) true
  | 0, i, hi, h0 => by
    refine Ev.shift ?_
    simp only [pylonlaw01_FixNames.l0, if_neg (show ¬ i < 10 by omega)]
    refine Ev.bind awake_ev ?_
    simp only [if_true]
    exact Ev.now _
  | d + 1, i, hi, h0 => by
    have hr : rd [0, 1, 2, 3, 4, 5, 6, 7, 8, 9] i = i := by
      have : i = 0 ∨ i = 1 ∨ i = 2 ∨ i = 3 ∨ i = 4 ∨ i = 5 ∨ i = 6 ∨ i = 7 ∨ i = 8 ∨ i = 9 := by omega
      rcases this with rfl | rfl | rfl | rfl | rfl | rfl | rfl | rfl | rfl | rfl <;> rfl
    obtain ⟨s, hs, hne⟩ := errno_f h0 (show i ≤ 9 by omega)
    refine Ev.shift ?_
    simp only [pylonlaw01_FixNames.l0, if_pos (show i < 10 by omega), if_pos h0, if_pos (show i < (([0, 1, 2, 3, 4, 5, 6, 7, 8, 9] : List Int).length : Int) by simp; omega), hr, if_true, hs, Option.bind_some, if_neg hne, i64in (x := i + 1) (by omega) (by omega)]
    exact names_l0 d (i + 1) (by omega) (by omega)
theorem FixNames : pylonlaw01_FixNames.Pure := by
  refine Ev.rounds (g := fun k => pylonlaw01_FixNames.f k) ?_
  unfold pylonlaw01_FixNames.f
  simp only [Option.bind_some]
  exact names_l0 10 0 (by omega) (by omega)
end Go.Proofs.YthejabcfbbmkeaaDoor.Pure
