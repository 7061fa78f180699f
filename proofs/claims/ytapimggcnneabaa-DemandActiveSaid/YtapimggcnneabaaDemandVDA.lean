/- The reference's way from floats to whole numbers. -/
import Derived.Test.YtapimggcnneabaaDemandDA
import Derived.Test.YtapimggcnneabaaPDAx5
set_option linter.unusedVariables false
set_option linter.unusedSimpArgs false
namespace Go.Proofs.Ytapimggcnneabaa.PureDA
open Go.RowKit Go.Proofs.Ytapimggcnneabaa.PDA Go.Proofs.Ytapimggcnneabaa.Num Go.Proofs.Ytapimggcnneabaa.Flt Go.Proofs.YtapimggcnneabaaW.PrintWords Go.Proofs.YtapimggcnneabaaW.PrintLast Go.Proofs.YtapimggcnneabaaW.PrintMore

/-! ### The reference's way to whole numbers -/
section
variable {M : Int} (hM0 : 0 ≤ M) (hM : M < 9007199254740992)
theorem rwhole_yes (hM0 : 0 ≤ M) (hM : M < 9007199254740992) {x : Nat} {n : Int} (h : Is x n) (hn : n.natAbs ≤ M.toNat) : pylonref02_whole.f x M = some (n, true) := by
  have a := of_int (n := M) (by omega)
  obtain ⟨o, e⟩ := h.toint (by omega) (by omega)
  unfold pylonref02_whole.f
  rw [h.fge a.neg, h.fle a, decide_eq_true (by omega), decide_eq_true (by omega), o, e, (of_int (n := n) (by omega)).feq h, decide_eq_true rfl]
  rfl
theorem rwhole_no (hM0 : 0 ≤ M) (hM : M < 9007199254740992) {x : Nat} (h : ¬ ∃ n, Is x n ∧ n.natAbs ≤ M.toNat) : ∃ m, pylonref02_whole.f x M = some (m, false) := by
  have a := of_int (n := M) (by omega)
  unfold pylonref02_whole.f
  by_cases h1 : fge x (fneg (floatOfInt .f64 M)) = true
  · by_cases h2 : fle x (floatOfInt .f64 M) = true
    · obtain ⟨o, e⟩ := not_whole hM0 hM a.neg a h1 h2 h
      rw [if_pos h1, if_pos h2, if_pos o, e]
      exact ⟨_, rfl⟩
    · rw [if_pos h1, if_neg h2]
      exact ⟨_, rfl⟩
  · rw [if_neg h1]
    exact ⟨_, rfl⟩
theorem within_yes (hM0 : 0 ≤ M) (hM : M < 9007199254740992) {z : Cx} {A B : Int} (s : Small M.toNat z A B) : pylonref02_Within.f z M = some (A, B, true) := by
  unfold pylonref02_Within.f
  rw [rwhole_yes hM0 hM s.1.1 s.1.2, rwhole_yes hM0 hM s.2.1 s.2.2]
  rfl
theorem within_no (hM0 : 0 ≤ M) (hM : M < 9007199254740992) {z : Cx} (h : ¬ GoodC M.toNat z) : ∃ a b, pylonref02_Within.f z M = some (a, b, false) := by
  unfold pylonref02_Within.f
  by_cases g : ∃ n, Is z.re n ∧ n.natAbs ≤ M.toNat
  · obtain ⟨n, n1, n2⟩ := g
    obtain ⟨m, e⟩ := rwhole_no hM0 hM (x := z.im) (fun ⟨b, b1, b2⟩ => h ⟨n, b, ⟨n1, n2⟩, b1, b2⟩)
    rw [rwhole_yes hM0 hM n1 n2, e]
    exact ⟨_, _, rfl⟩
  · obtain ⟨m, e⟩ := rwhole_no hM0 hM g
    have : ∃ p, pylonref02_whole.f z.im M = some p := by
      by_cases g2 : ∃ n, Is z.im n ∧ n.natAbs ≤ M.toNat
      · obtain ⟨n, n1, n2⟩ := g2
        exact ⟨_, rwhole_yes hM0 hM n1 n2⟩
      · obtain ⟨m, e⟩ := rwhole_no hM0 hM g2
        exact ⟨_, e⟩
    obtain ⟨p, e2⟩ := this
    rw [e, e2]
    exact ⟨_, _, rfl⟩
end

end Go.Proofs.Ytapimggcnneabaa.PureDA
