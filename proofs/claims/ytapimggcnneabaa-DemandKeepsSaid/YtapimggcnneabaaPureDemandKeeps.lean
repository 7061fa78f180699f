/- DemandKeeps holds: what is handed in stays as it is, spare room too; answers are new memory. -/
import Derived.Test.YtapimggcnneabaaDemandWRDK
import Derived.Test.YtapimggcnneabaaDemandNDK
import Derived.Test.YtapimggcnneabaaPDKx7
set_option linter.unusedVariables false
set_option linter.unusedSimpArgs false
namespace Go.Proofs.Ytapimggcnneabaa.Pure
open Go.RowKit Go.Proofs.Ytapimggcnneabaa.PDK Go.Proofs.Ytapimggcnneabaa.PureDK Go.Proofs.Ytapimggcnneabaa.Num Go.Proofs.Ytapimggcnneabaa.Flt Go.Proofs.YtapimggcnneabaaW.PrintWords Go.Proofs.YtapimggcnneabaaW.PrintLast Go.Proofs.YtapimggcnneabaaW.PrintMore
theorem is_5 : Is 4617315517961601024 5 := is_const (by decide) (by decide +kernel)
section
variable {s room : List Cx} {b : List S90}
theorem keeps_l2 (hr : room = s ++ [cx 4617315517961601024 0]) (hb : (b.length : Int) ≤ 140737488355328) : ∀ (d : Nat) (j : Int) (a : List S90), 20 - j = d → 0 ≤ j → a.length + d ≤ 1000000 →
    Ev (fun k => pylonlaw16_DemandKeeps.l2 k s room a b b j) true := by
  intro d
  induction d with
  | zero =>
    intro j a hd j0 ha
    have hlen : (s.length : Int) < (room.length : Int) := by rw [hr, List.length_append]; simp only [List.length_cons, List.length_nil]; omega
    have hrd : rdOf (cx 0 0) room (s.length : Int) = cx 4617315517961601024 0 := by
      unfold rdOf
      rw [hr, Int.toNat_natCast, List.getD_eq_getElem?_getD, List.getElem?_append_right (Nat.le_refl _), Nat.sub_self]
      rfl
    have hc : ceq 4617315517961601024 0 4617315517961601024 0 = true := by rw [ceq_is is_5 is_zero is_5 is_zero]; rfl
    refine Ev.shift ?_
    simp only [pylonlaw16_DemandKeeps.l2, if_neg (show ¬ j < 20 by omega), if_pos (show (0 : Int) ≤ (s.length : Int) by omega), if_pos hlen, hrd, hc, if_true]
    exact ev_bind (same_f hb) (Ev.now _)
  | succ d ih =>
    intro j a hd j0 ha
    have ej : wrap64 (j + 1) = j + 1 := i64in (by omega) (by omega)
    refine Ev.shift ?_
    simp only [pylonlaw16_DemandKeeps.l2, if_pos (show j < 20 by omega), if_pos (show a.length < 8796093022208 by omega), ej]
    exact ih (j + 1) _ (by omega) (by omega) (by rw [List.length_append]; simp only [List.length_cons, List.length_nil]; omega)
theorem keeps_l1 (hr : room = s ++ [cx 4617315517961601024 0]) (hb : (b.length : Int) ≤ 140737488355328) {L : Nat} (hL : L ≤ 40000) : ∀ (d : Nat) (i : Int) (a : List S90), 0 ≤ i → (L : Int) - i = d → a.length = L →
    Ev (fun k => pylonlaw16_DemandKeeps.l1 k s room a b b (L : Int) i) true := by
  intro d
  induction d with
  | zero =>
    intro i a i0 hd ha
    refine Ev.shift ?_
    simp only [pylonlaw16_DemandKeeps.l1, if_neg (show ¬ i < (L : Int) by omega)]
    exact keeps_l2 hr hb 20 0 a (by omega) (by omega) (by omega)
  | succ d ih =>
    intro i a i0 hd ha
    have ei : wrap64 (i + 1) = i + 1 := i64in (by omega) (by omega)
    refine Ev.shift ?_
    simp only [pylonlaw16_DemandKeeps.l1, if_pos (show i < (L : Int) by omega), if_pos i0, if_pos (show i < (a.length : Int) by omega), ei]
    exact ih (i + 1) _ (by omega) (by omega) (by rw [List.length_set]; exact ha)
theorem keeps_l0 (hs : (s.length : Int) ≤ 140737488355328) {t0 st mi f t : Int} (hK : Ev (fun k => (demand_Whole.f k t0 st mi f t).bind fun bt195 => ((demand_Whole.f k t0 st mi f t).bind fun bt199 => ((pylonref16_Whole.f k t0 st mi f t).bind fun bt203 => (pylonlaw16_DemandKeeps.l1 k s room bt195.1 bt199.1 bt203.1 (bt195.1.length : Int) 0)))) true) :
    ∀ (d : Nat) (i : Int), 0 ≤ i → (s.length : Int) - i = d → Ev (fun k => pylonlaw16_DemandKeeps.l0 k s room s (s.length : Int) i t0 st mi f t) true := by
  intro d
  induction d with
  | zero =>
    intro i i0 hd
    refine Ev.shift ?_
    simp only [pylonlaw16_DemandKeeps.l0, if_neg (show ¬ i < (s.length : Int) by omega)]
    exact hK
  | succ d ih =>
    intro i i0 hd
    have ei : wrap64 (i + 1) = i + 1 := i64in (by omega) (by omega)
    refine Ev.shift ?_
    simp only [pylonlaw16_DemandKeeps.l0, if_pos (show i < (s.length : Int) by omega), if_pos i0, ei]
    have := ih (i + 1) (by omega) (by omega)
    by_cases h : ceq (rdOf (cx 0 0) s i).re (rdOf (cx 0 0) s i).im (rdOf (cx 0 0) s i).re (rdOf (cx 0 0) s i).im = true
    · simp only [if_pos h]; exact this
    · simp only [if_neg h]; exact this
end
theorem DemandKeeps : pylonlaw16_DemandKeeps.Pure := by
  intro l t0 st mi f t hl _ _ _ _ _
  refine ev_ex (r := true) ?_
  have hlen : (l.map conv).length = l.length := List.length_map ..
  have hb := bits_conv hl.2
  have hn := numbers_f hl.1
  unfold pylonlaw16_DemandKeeps.f
  refine ev_bind awake_ev ?_
  simp only [if_true]
  refine ev_bind hn ?_
  generalize l.map conv = s at *
  have ht : (s ++ [cx 4617315517961601024 0]).take s.length = s := by rw [List.take_append_of_le_length (Nat.le_refl _), List.take_length]
  have hlr : (((s ++ [cx 4617315517961601024 0]).length : Nat) : Int) = s.length + 1 := by rw [List.length_append]; simp
  simp only [Option.bind_some, List.nil_append, List.length_nil, if_pos (show 0 + s.length < 8796093022208 by omega), if_pos (show s.length < 8796093022208 by omega), if_pos (show (0 : Int) ≤ (s.length : Int) by omega), hlr, if_pos (show (s.length : Int) ≤ (s.length : Int) + 1 by omega), Int.toNat_natCast, ht]
  refine ev_bind (peak_f hb t0 st mi f t) ?_
  have key : ∃ R : List S90 × Int, Ev (fun k => demand_Whole.f k t0 st mi f t) R ∧ Ev (fun k => pylonref16_Whole.f k t0 st mi f t) R ∧ R.1.length ≤ 40000 := by
    by_cases h : OkW t0 st mi f t
    · exact ⟨_, whole_f _ _ _ _ _ h, refwhole_f _ _ _ _ _ h, theWins_len h⟩
    · exact ⟨_, whole_no _ _ _ _ _ h, refwhole_no _ _ _ _ _ h, by simp⟩
  obtain ⟨R, e1, e2, hR⟩ := key
  refine keeps_l0 (by omega) (ev_bind e1 (ev_bind e1 (ev_bind e2 ?_))) s.length 0 (by omega) (by omega)
  exact keeps_l1 rfl (by omega) hR R.1.length 0 R.1 (by omega) (by omega) rfl
end Go.Proofs.Ytapimggcnneabaa.Pure
