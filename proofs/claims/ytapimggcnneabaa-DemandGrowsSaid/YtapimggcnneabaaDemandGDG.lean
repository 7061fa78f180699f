/- Package pylonlaw16: a run that is made good. -/
import Derived.Test.YtapimggcnneabaaDemandWDG
import Derived.Test.YtapimggcnneabaaPDGx4
set_option linter.unusedVariables false
set_option linter.unusedSimpArgs false
namespace Go.Proofs.Ytapimggcnneabaa.PureDG
open Go.RowKit Go.Proofs.Ytapimggcnneabaa.PDG Go.Proofs.Ytapimggcnneabaa.Num Go.Proofs.Ytapimggcnneabaa.Flt Go.Proofs.YtapimggcnneabaaW.PrintWords Go.Proofs.YtapimggcnneabaaW.PrintLast Go.Proofs.YtapimggcnneabaaW.PrintMore

theorem umod (a : Int) {m : Int} (h0 : 0 < m) (h1 : m ≤ 9000000000000000000) : 0 ≤ wrap64 (Int.tmod (IntKind.u64.wrap a) m) ∧ wrap64 (Int.tmod (IntKind.u64.wrap a) m) < m := by
  have u0 : 0 ≤ IntKind.u64.wrap a := by rw [IntKind.wrap_u64]; exact Int.emod_nonneg _ (by omega)
  rw [Int.tmod_eq_emod_of_nonneg u0]
  have a0 := Int.emod_nonneg (IntKind.u64.wrap a) (show m ≠ 0 by omega)
  have a1 := Int.emod_lt_of_pos (IntKind.u64.wrap a) h0
  rw [i64in (by omega) (by omega)]
  exact ⟨a0, a1⟩
theorem rd3 {i : Int} (h0 : 0 ≤ i) (h1 : i < 3) : Len (rd [15, 30, 60] i) := by
  have h : i = 0 ∨ i = 1 ∨ i = 2 := by omega
  rcases h with rfl | rfl | rfl
  · exact .inl rfl
  · exact .inr (.inl rfl)
  · exact .inr (.inr rfl)
theorem good_f (a0 a1 a2 a3 a4 : Int) {m : Int} (m0 : 0 ≤ m) (m1 : m ≤ 500) : ∃ t0 st mi f t, pylonlaw16_good.f a0 a1 a2 a3 a4 m = some (t0, st, mi, f, t) ∧ OkW t0 st mi f t ∧ t ≤ m := by
  obtain ⟨b0, b1⟩ := umod a0 (m := 1000000) (by omega) (by omega)
  obtain ⟨c0, c1⟩ := umod a1 (m := 3) (by omega) (by omega)
  obtain ⟨d0, d1⟩ := umod a2 (m := 3) (by omega) (by omega)
  obtain ⟨e0, e1⟩ := umod a3 (m := m + 1) (by omega) (by omega)
  have w1 : wrap64 (m + 1) = m + 1 := i64in (by omega) (by omega)
  have w2 : IntKind.u64.wrap (m + 1) = m + 1 := w64 (by omega) (by omega)
  unfold pylonlaw16_good.f
  simp only [Option.bind_some, w1, w2]
  generalize wrap64 (Int.tmod (IntKind.u64.wrap a0) 1000000) = T at *
  generalize wrap64 (Int.tmod (IntKind.u64.wrap a1) 3) = I at *
  generalize wrap64 (Int.tmod (IntKind.u64.wrap a2) 3) = J at *
  generalize wrap64 (Int.tmod (IntKind.u64.wrap a3) (m + 1)) = F at *
  have w3 : wrap64 (m + 1 - F) = m + 1 - F := i64in (by omega) (by omega)
  have w4 : IntKind.u64.wrap (m + 1 - F) = m + 1 - F := w64 (by omega) (by omega)
  obtain ⟨f0, f1⟩ := umod a4 (m := m + 1 - F) (by omega) (by omega)
  simp only [w3, w4]
  generalize wrap64 (Int.tmod (IntKind.u64.wrap a4) (m + 1 - F)) = G at *
  have hs := rd3 c0 c1
  have hm := rd3 d0 d1
  generalize rd [15, 30, 60] I = st at *
  generalize rd [15, 30, 60] J = mi at *
  have hl : (([15, 30, 60] : List Int).length : Int) = 3 := rfl
  simp only [hl, if_pos c0, if_pos c1, if_pos d0, if_pos d1, if_neg (show ¬ m + 1 = 0 by omega), if_neg (show ¬ m + 1 - F = 0 by omega)]
  have w5 : wrap64 (60 * st) = 60 * st := by rcases hs with rfl | rfl | rfl <;> decide +kernel
  have w6 : wrap64 (F + G) = F + G := i64in (by omega) (by omega)
  have w7 : wrap64 (T * (60 * st)) = T * (60 * st) := by rcases hs with rfl | rfl | rfl <;> exact i64in (by omega) (by omega)
  rw [w5, w6, w7]
  refine ⟨_, _, _, _, _, rfl, ⟨hs, hm, ?_, ?_, ?_, e0, by omega, by omega⟩, by omega⟩
  · rcases hs with rfl | rfl | rfl <;> omega
  · rcases hs with rfl | rfl | rfl <;> omega
  · exact Int.mul_emod_left ..
theorem wins_get {n : Int} : ∀ (c : Nat) (s : Int) (i : Nat), i < c → (wins c s n)[i]? = some ⟨s + i * n, s + i * n + n⟩ := by
  intro c
  induction c with
  | zero => intro s i h; omega
  | succ c ih =>
    intro s i h
    cases i with
    | zero => simp [wins]
    | succ i =>
      have := ih (s + n) i (by omega)
      show (wins c (s + n) n)[i]? = _
      rw [this]
      have e : ((i + 1 : Nat) : Int) * n = i * n + n := by rw [Int.natCast_add, Int.add_mul]; simp
      rw [e, show s + n + (i : Int) * n = s + ((i : Int) * n + n) by omega]
theorem rd_wins {c : Nat} {s n i : Int} (h0 : 0 ≤ i) (h1 : i < c) : rd_T90 (wins c s n) i = ⟨s + i * n, s + i * n + n⟩ := by
  obtain ⟨j, rfl⟩ := Int.eq_ofNat_of_zero_le h0
  unfold rd_T90
  rw [List.getD_eq_getElem?_getD, Int.toNat_natCast, wins_get c s j (by omega)]
  rfl
end Go.Proofs.Ytapimggcnneabaa.PureDG
