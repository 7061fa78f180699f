/- Lists of plain numbers. -/
import Derived.Test.YtapimggcnneabaaDemandPDK
import Derived.Test.YtapimggcnneabaaPDKx6
set_option linter.unusedVariables false
set_option linter.unusedSimpArgs false
namespace Go.Proofs.Ytapimggcnneabaa.PureDK
open Go.RowKit Go.Proofs.Ytapimggcnneabaa.PDK Go.Proofs.Ytapimggcnneabaa.Num Go.Proofs.Ytapimggcnneabaa.Flt Go.Proofs.YtapimggcnneabaaW.PrintWords Go.Proofs.YtapimggcnneabaaW.PrintLast Go.Proofs.YtapimggcnneabaaW.PrintMore

/-! ### Lists of plain numbers -/
def conv (s : S77) : Cx := cx s.f0 s.f1
theorem bits_conv {l : List S77} (h : ∀ y ∈ l, okS77 y) : ∀ z ∈ l.map conv, Bits z := by
  intro z hz
  obtain ⟨y, hy, rfl⟩ := List.mem_map.mp hz
  exact ⟨wf_lt (h y hy).1, wf_lt (h y hy).2⟩
theorem numbers_l0 {l : List S77} (hl : (l.length : Int) ≤ 140737488355328) : ∀ (d : Nat) (i : Int), 0 ≤ i → (l.length : Int) - i = d →
    Ev (fun k => pylonlaw16_numbers.l0 k l ((l.take i.toNat).map conv ++ List.replicate d (cx 0 0)) (l.length : Int) i) (l.map conv) := by
  intro d
  induction d with
  | zero =>
    intro i i0 hd
    refine Ev.shift ?_
    simp only [pylonlaw16_numbers.l0, if_neg (show ¬ i < (l.length : Int) by omega)]
    rw [List.take_of_length_le (by omega)]
    simp only [List.replicate_zero, List.append_nil]
    exact Ev.now _
  | succ d ih =>
    intro i i0 hd
    have hi : i < (l.length : Int) := by omega
    have ei : wrap64 (i + 1) = i + 1 := i64in (by omega) (by omega)
    have hlen : ((l.take i.toNat).map conv).length = i.toNat := by rw [List.length_map, List.length_take]; omega
    have hi2 : i < ((((l.take i.toNat).map conv ++ List.replicate (d + 1) (cx 0 0)).length : Nat) : Int) := by
      rw [List.length_append, hlen, List.length_replicate]; omega
    have hs : ((l.take i.toNat).map conv ++ List.replicate (d + 1) (cx 0 0)).set i.toNat (conv (rd_T77 l i)) = (l.take (i + 1).toNat).map conv ++ List.replicate d (cx 0 0) := by
      have := set_mid ((l.take i.toNat).map conv) (cx 0 0) (conv (rd_T77 l i)) d
      rw [hlen] at this
      rw [this, show (i + 1).toNat = i.toNat + 1 by omega, List.take_add_one]
      have hg : l[i.toNat]? = some (rd_T77 l i) := by
        unfold rd_T77
        rw [List.getD_eq_getElem?_getD, List.getElem?_eq_getElem (show i.toNat < l.length by omega)]
        rfl
      rw [hg]
      simp
    have := ih (i + 1) (by omega) (by omega)
    refine Ev.shift ?_
    simp only [pylonlaw16_numbers.l0, if_pos hi, if_pos i0, pylonlaw16_Z_c.f, Option.bind_some, if_pos hi2, ei]
    rw [← hs] at this
    exact this
theorem numbers_f {l : List S77} (hl : l.length * 16 ≤ 140737488351232) : Ev (fun k => pylonlaw16_numbers.f k l) (l.map conv) := by
  unfold pylonlaw16_numbers.f
  simp only [Int.toNat_natCast, if_pos (show (0 : Int) ≤ (l.length : Int) by omega), if_pos (show l.length ≤ 17592186044416 by omega)]
  have := numbers_l0 (l := l) (by omega) l.length 0 (by omega) (by omega)
  simpa using this

end Go.Proofs.Ytapimggcnneabaa.PureDK
