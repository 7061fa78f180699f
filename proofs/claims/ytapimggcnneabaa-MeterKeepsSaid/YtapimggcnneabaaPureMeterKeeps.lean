/- MeterKeeps holds: no call changes what another holds. -/
import Derived.Test.YtapimggcnneabaaMeterRRMK
import Derived.Test.YtapimggcnneabaaMeterTMK
import Derived.Test.YtapimggcnneabaaPMKx5
set_option linter.unusedVariables false
set_option linter.unusedSimpArgs false
namespace Go.Proofs.Ytapimggcnneabaa.Pure
open Go.RowKit Go.Proofs.Ytapimggcnneabaa.PMK Go.Proofs.Ytapimggcnneabaa.PureMK Go.Proofs.Ytapimggcnneabaa.Num Go.Proofs.Ytapimggcnneabaa.Flt Go.Proofs.YtapimggcnneabaaW.PrintWords Go.Proofs.YtapimggcnneabaaW.PrintLast Go.Proofs.YtapimggcnneabaaW.PrintMore
theorem sread_l0 {l : List S25} (hl : (l.length : Int) ≤ 140737488355328) : ∀ (d : Nat) (i : Int), 0 ≤ i → (l.length : Int) - i = d → Ev (fun k => pylonref11_SameReads.l0 k l l (l.length : Int) i) true := by
  intro d
  induction d with
  | zero =>
    intro i i0 hd
    refine Ev.shift ?_
    simp only [pylonref11_SameReads.l0, if_neg (show ¬ i < (l.length : Int) by omega)]
    exact Ev.now _
  | succ d ih =>
    intro i i0 hd
    have hi : i < (l.length : Int) := by omega
    have ei : wrap64 (i + 1) = i + 1 := i64in (by omega) (by omega)
    refine Ev.shift ?_
    simp only [pylonref11_SameReads.l0, if_pos hi, if_pos i0, ei, beq_self_eq_true, Bool.not_true, Bool.or_false, Bool.false_eq_true, if_false]
    exact ih (i + 1) (by omega) (by omega)
theorem sread_f {l : List S25} (hl : (l.length : Int) ≤ 140737488355328) : Ev (fun k => pylonref11_SameReads.f k l l) true := by
  unfold pylonref11_SameReads.f
  simp only [if_true]
  exact sread_l0 hl l.length 0 (by omega) (by omega)
theorem total_ev {xs : List Cx} (hb : ∀ z ∈ xs, Bits z) : ∃ R, Ev (fun k => meter_Total.f k xs) R := by
  by_cases h : codeOf xs = 0
  · obtain ⟨z, e, _⟩ := total_ok hb h
    exact ⟨_, e⟩
  · exact ⟨_, total_no hb h⟩
theorem energy_ev {xs : List Cx} (hb : ∀ z ∈ xs, Bits z) : ∃ R, Ev (fun k => meter_Energy.f k xs) R := by
  by_cases h : codeOf xs = 0
  · exact ⟨_, energy_ok hb h⟩
  · exact ⟨_, energy_no hb h⟩
theorem rd_last {b : List Cx} (z : Cx) : rdOf (cx 0 0) (b ++ [z]) (b.length : Int) = z := by
  unfold rdOf
  rw [List.getD_eq_getElem?_getD, Int.toNat_natCast, List.getElem?_concat_length]
  rfl
theorem rd_last25 {b : List S25} (z : S25) : rd_T25 (b ++ [z]) (b.length : Int) = z := by
  unfold rd_T25
  rw [List.getD_eq_getElem?_getD, Int.toNat_natCast, List.getElem?_concat_length]
  rfl
theorem keeps_l1 {b w : List Cx} (hb : ∀ z ∈ b, Bits z) (hl : b.length ≤ 40000) (hs : Ev (fun k => pylonref12_SameSeries.f k b w) true) : ∀ (d : Nat) (i : Int) (x : List Cx), 0 ≤ i → 20 - i = d → x.length ≤ 40000 + i.toNat →
    Ev (fun k => pylonlaw12_MeterKeeps.l1 k x b w i) true := by
  intro d
  induction d with
  | zero =>
    intro i x i0 hd hx
    obtain ⟨T, hT⟩ := total_ev hb
    obtain ⟨E, hE⟩ := energy_ev hb
    refine Ev.shift ?_
    have n1 : (b ++ [cx 4617315517961601024 0]).length = b.length + 1 := by simp
    have tk : (b ++ [cx 4617315517961601024 0]).take b.length = b := by simp
    simp only [pylonlaw12_MeterKeeps.l1, if_neg (show ¬ i < 20 by omega), Option.bind_some, List.nil_append, List.length_nil, if_pos (show 0 + b.length < 8796093022208 by omega), if_pos (show b.length < 8796093022208 by omega), if_pos (show (0 : Int) ≤ (b.length : Int) by omega), n1, if_pos (show (b.length : Int) ≤ ((b.length + 1 : Nat) : Int) by omega), Int.toNat_natCast, tk, if_pos (show (b.length : Int) < ((b.length + 1 : Nat) : Int) by omega), rd_last]
    refine ev_bind hT (ev_bind hE (ev_bind hs ?_))
    simp only [if_true]
    refine ev_bind hs ?_
    simp only [if_true]
    exact Ev.ofEq (by decide +kernel)
  | succ d ih =>
    intro i x i0 hd hx
    have ei : wrap64 (i + 1) = i + 1 := i64in (by omega) (by omega)
    refine Ev.shift ?_
    simp only [pylonlaw12_MeterKeeps.l1, if_pos (show i < 20 by omega), if_pos (show x.length < 8796093022208 by omega), ei]
    exact ih (i + 1) _ (by omega) (by omega) (by rw [List.length_append]; simp only [List.length_cons, List.length_nil]; omega)
theorem keeps_l0 {b w : List Cx} (hb : ∀ z ∈ b, Bits z) (hl : b.length ≤ 40000) (hs : Ev (fun k => pylonref12_SameSeries.f k b w) true) {n : Nat} (hn : n ≤ 40000) : ∀ (d : Nat) (i : Int) (x : List Cx), 0 ≤ i → (n : Int) - i = d → x.length = n →
    Ev (fun k => pylonlaw12_MeterKeeps.l0 k x b w (n : Int) i) true := by
  intro d
  induction d with
  | zero =>
    intro i x i0 hd hx
    refine Ev.shift ?_
    simp only [pylonlaw12_MeterKeeps.l0, if_neg (show ¬ i < (n : Int) by omega)]
    exact keeps_l1 hb hl hs 20 0 x (by omega) (by omega) (by omega)
  | succ d ih =>
    intro i x i0 hd hx
    have ei : wrap64 (i + 1) = i + 1 := i64in (by omega) (by omega)
    refine Ev.shift ?_
    simp only [pylonlaw12_MeterKeeps.l0, if_pos (show i < (n : Int) by omega), if_pos i0, if_pos (show i < (x.length : Int) by omega), ei]
    exact ih (i + 1) _ (by omega) (by omega) (by rw [List.length_set]; exact hx)
theorem MeterKeeps : pylonlaw12_MeterKeeps.Pure := by
  intro l m t hl _ _
  refine ev_ex (r := true) ?_
  have hl1 := hl.1
  have hA := sameA m t l
  obtain ⟨b1, b2⟩ := seriesA_bits m t l
  have hS := series_f m t l
  unfold pylonlaw12_MeterKeeps.f
  refine ev_bind awake_ev ?_
  have n1 : (l ++ [(⟨77, 0, 0, 0, 0⟩ : S25)]).length = l.length + 1 := by simp
  have tk : (l ++ [(⟨77, 0, 0, 0, 0⟩ : S25)]).take l.length = l := by simp
  simp only [if_true, Option.bind_some, List.nil_append, List.length_nil, if_pos (show 0 + l.length < 3518437208883 by omega), if_pos (show l.length < 3518437208883 by omega), if_pos (show (0 : Int) ≤ (l.length : Int) by omega), n1, if_pos (show (l.length : Int) ≤ ((l.length + 1 : Nat) : Int) by omega), Int.toNat_natCast, tk, if_pos (show (l.length : Int) < ((l.length + 1 : Nat) : Int) by omega), rd_last25]
  refine ev_bind hS (ev_bind hS (ev_bind (rseries_f m t l) (ev_bind hA ?_)))
  simp only [if_true]
  refine ev_bind (sread_f (by omega)) ?_
  simp only [if_true]
  refine Ev.shift ?_
  simp only [pylonlaw12_MeterKeeps.j0, show ((77 : Int) != 77) = false from rfl, Bool.false_eq_true, if_false]
  exact keeps_l0 b2 b1 hA b1 _ 0 _ (by omega) (Int.sub_zero _) rfl
end Go.Proofs.Ytapimggcnneabaa.Pure
