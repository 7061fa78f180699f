/- Slots at which a window begins. -/
import Derived.Test.YtapimggcnneabaaDemandWDK
set_option linter.unusedVariables false
set_option linter.unusedSimpArgs false
namespace Go.Proofs.Ytapimggcnneabaa.PureDK
open Go.RowKit Go.Proofs.Ytapimggcnneabaa.PDK Go.Proofs.Ytapimggcnneabaa.Num Go.Proofs.Ytapimggcnneabaa.Flt Go.Proofs.YtapimggcnneabaaW.PrintWords Go.Proofs.YtapimggcnneabaaW.PrintLast Go.Proofs.YtapimggcnneabaaW.PrintMore

theorem aligned {st mi t0 s : Int} (h : Len st) (k : Len mi) (a0 : 0 ≤ t0) (a1 : t0 ≤ 253402300799) (ha : t0 % (60 * st) = 0) (s0 : 0 ≤ s) (s1 : s ≤ 40010) :
    wrap64 (s + wrap64 (Int.tdiv (mx st mi) st)) = s + nn st mi ∧ ¬ wrap64 (60 * mx st mi) = 0 ∧ (Int.tmod (wrap64 (t0 + wrap64 (wrap64 (60 * st) * s))) (wrap64 (60 * mx st mi)) = 0 ↔ (t0 / (60 * st) + s) % nn st mi = 0) := by
  rcases h with rfl | rfl | rfl <;> rcases k with rfl | rfl | rfl
  · refine ⟨by rw [show wrap64 (Int.tdiv (mx 15 15) 15) = 1 by decide +kernel, show nn 15 15 = 1 by decide +kernel, i64in (by omega) (by omega)], by decide +kernel, ?_⟩
    rw [show wrap64 (60 * mx 15 15) = 900 by decide +kernel, show wrap64 (60 * 15) = 900 by decide +kernel, show nn 15 15 = 1 by decide +kernel, i64in (x := 900 * s) (by omega) (by omega), i64in (by omega) (by omega), Int.tmod_eq_emod_of_nonneg (by omega)]
    omega
  · refine ⟨by rw [show wrap64 (Int.tdiv (mx 15 30) 15) = 2 by decide +kernel, show nn 15 30 = 2 by decide +kernel, i64in (by omega) (by omega)], by decide +kernel, ?_⟩
    rw [show wrap64 (60 * mx 15 30) = 1800 by decide +kernel, show wrap64 (60 * 15) = 900 by decide +kernel, show nn 15 30 = 2 by decide +kernel, i64in (x := 900 * s) (by omega) (by omega), i64in (by omega) (by omega), Int.tmod_eq_emod_of_nonneg (by omega)]
    omega
  · refine ⟨by rw [show wrap64 (Int.tdiv (mx 15 60) 15) = 4 by decide +kernel, show nn 15 60 = 4 by decide +kernel, i64in (by omega) (by omega)], by decide +kernel, ?_⟩
    rw [show wrap64 (60 * mx 15 60) = 3600 by decide +kernel, show wrap64 (60 * 15) = 900 by decide +kernel, show nn 15 60 = 4 by decide +kernel, i64in (x := 900 * s) (by omega) (by omega), i64in (by omega) (by omega), Int.tmod_eq_emod_of_nonneg (by omega)]
    omega
  · refine ⟨by rw [show wrap64 (Int.tdiv (mx 30 15) 30) = 1 by decide +kernel, show nn 30 15 = 1 by decide +kernel, i64in (by omega) (by omega)], by decide +kernel, ?_⟩
    rw [show wrap64 (60 * mx 30 15) = 1800 by decide +kernel, show wrap64 (60 * 30) = 1800 by decide +kernel, show nn 30 15 = 1 by decide +kernel, i64in (x := 1800 * s) (by omega) (by omega), i64in (by omega) (by omega), Int.tmod_eq_emod_of_nonneg (by omega)]
    omega
  · refine ⟨by rw [show wrap64 (Int.tdiv (mx 30 30) 30) = 1 by decide +kernel, show nn 30 30 = 1 by decide +kernel, i64in (by omega) (by omega)], by decide +kernel, ?_⟩
    rw [show wrap64 (60 * mx 30 30) = 1800 by decide +kernel, show wrap64 (60 * 30) = 1800 by decide +kernel, show nn 30 30 = 1 by decide +kernel, i64in (x := 1800 * s) (by omega) (by omega), i64in (by omega) (by omega), Int.tmod_eq_emod_of_nonneg (by omega)]
    omega
  · refine ⟨by rw [show wrap64 (Int.tdiv (mx 30 60) 30) = 2 by decide +kernel, show nn 30 60 = 2 by decide +kernel, i64in (by omega) (by omega)], by decide +kernel, ?_⟩
    rw [show wrap64 (60 * mx 30 60) = 3600 by decide +kernel, show wrap64 (60 * 30) = 1800 by decide +kernel, show nn 30 60 = 2 by decide +kernel, i64in (x := 1800 * s) (by omega) (by omega), i64in (by omega) (by omega), Int.tmod_eq_emod_of_nonneg (by omega)]
    omega
  · refine ⟨by rw [show wrap64 (Int.tdiv (mx 60 15) 60) = 1 by decide +kernel, show nn 60 15 = 1 by decide +kernel, i64in (by omega) (by omega)], by decide +kernel, ?_⟩
    rw [show wrap64 (60 * mx 60 15) = 3600 by decide +kernel, show wrap64 (60 * 60) = 3600 by decide +kernel, show nn 60 15 = 1 by decide +kernel, i64in (x := 3600 * s) (by omega) (by omega), i64in (by omega) (by omega), Int.tmod_eq_emod_of_nonneg (by omega)]
    omega
  · refine ⟨by rw [show wrap64 (Int.tdiv (mx 60 30) 60) = 1 by decide +kernel, show nn 60 30 = 1 by decide +kernel, i64in (by omega) (by omega)], by decide +kernel, ?_⟩
    rw [show wrap64 (60 * mx 60 30) = 3600 by decide +kernel, show wrap64 (60 * 60) = 3600 by decide +kernel, show nn 60 30 = 1 by decide +kernel, i64in (x := 3600 * s) (by omega) (by omega), i64in (by omega) (by omega), Int.tmod_eq_emod_of_nonneg (by omega)]
    omega
  · refine ⟨by rw [show wrap64 (Int.tdiv (mx 60 60) 60) = 1 by decide +kernel, show nn 60 60 = 1 by decide +kernel, i64in (by omega) (by omega)], by decide +kernel, ?_⟩
    rw [show wrap64 (60 * mx 60 60) = 3600 by decide +kernel, show wrap64 (60 * 60) = 3600 by decide +kernel, show nn 60 60 = 1 by decide +kernel, i64in (x := 3600 * s) (by omega) (by omega), i64in (by omega) (by omega), Int.tmod_eq_emod_of_nonneg (by omega)]
    omega

end Go.Proofs.Ytapimggcnneabaa.PureDK
