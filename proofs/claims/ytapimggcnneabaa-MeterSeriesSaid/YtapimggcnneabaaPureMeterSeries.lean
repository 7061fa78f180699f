/- MeterSeries holds: a series is its reads' points, in order; the slots and flags of reads never show. -/
import Derived.Test.YtapimggcnneabaaMeterSMS
import Derived.Test.YtapimggcnneabaaPMSx2
set_option linter.unusedVariables false
set_option linter.unusedSimpArgs false
namespace Go.Proofs.Ytapimggcnneabaa.Pure
open Go.RowKit Go.Proofs.Ytapimggcnneabaa.PMS Go.Proofs.Ytapimggcnneabaa.PureMS Go.Proofs.Ytapimggcnneabaa.Num Go.Proofs.Ytapimggcnneabaa.Flt Go.Proofs.YtapimggcnneabaaW.PrintWords Go.Proofs.YtapimggcnneabaaW.PrintLast Go.Proofs.YtapimggcnneabaaW.PrintMore
/-- Another slot and flag. -/
def slo (a b : Int) (r : S25) : S25 := ⟨a, r.f1, r.f2, r.f3, b⟩
theorem pt_slo (m t a b : Int) (r : S25) : pt m t (slo a b r) = pt m t r := rfl
theorem serA_slo (m t a b : Int) : ∀ (l : List S25) (acc : List Cx), serA m t (l.map (slo a b)) acc = serA m t l acc
  | [], _ => rfl
  | r :: l, acc => by
    show (if (pt m t (slo a b r)).2 = 0 then serA m t (l.map (slo a b)) (acc ++ [(pt m t (slo a b r)).1]) else ([], (pt m t (slo a b r)).2)) = _
    rw [pt_slo, serA_slo m t a b l]
    rfl
theorem seriesA_slo (m t a b : Int) (l : List S25) : seriesA m t (l.map (slo a b)) = seriesA m t l := by
  unfold seriesA
  rw [List.length_map, serA_slo]
theorem rd_of {m : List S25} {i : Int} {v : S25} (h : m[i.toNat]? = some v) : rd_T25 m i = v := by
  unfold rd_T25
  rw [List.getD_eq_getElem?_getD, h]
  rfl
theorem get_of {l : List S25} {i : Int} (hi : i.toNat < l.length) : l[i.toNat]? = some (rd_T25 l i) := by
  unfold rd_T25
  rw [List.getD_eq_getElem?_getD, List.getElem?_eq_getElem hi]
  rfl
/-- The places up to i are told anew. -/
def mid (a b : Int) (l : List S25) (i : Int) : List S25 := (l.take i.toNat).map (slo a b) ++ l.drop i.toNat
section
variable {a b : Int} {l : List S25}
theorem mid_len (i : Int) : (mid a b l i).length = l.length := by
  unfold mid
  rw [List.length_append, List.length_map, List.length_take, List.length_drop]
  omega
theorem mid_at {i : Int} (i0 : 0 ≤ i) (hi : i < (l.length : Int)) : (mid a b l i)[i.toNat]? = some (rd_T25 l i) := by
  unfold mid
  have e : ((l.take i.toNat).map (slo a b)).length = i.toNat := by rw [List.length_map, List.length_take]; omega
  rw [List.getElem?_append_right (by omega), e, Nat.sub_self, List.getElem?_drop, Nat.add_zero]
  exact get_of (by omega)
theorem mid_next {i : Int} (i0 : 0 ≤ i) (hi : i < (l.length : Int)) : (mid a b l i).set i.toNat (slo a b (rd_T25 l i)) = mid a b l (i + 1) := by
  unfold mid
  have e : ((l.take i.toNat).map (slo a b)).length = i.toNat := by rw [List.length_map, List.length_take]; omega
  have hd := drop25 i0 hi
  rw [List.set_append_right _ _ (by omega), e, Nat.sub_self, hd, List.set_cons_zero, show (i + 1).toNat = i.toNat + 1 by omega, List.take_add_one, get_of (show i.toNat < l.length by omega)]
  simp
end
theorem mser_l1 {l : List S25} {m t : Int} (hl : l.length ≤ 40000) (hg : ∀ r ∈ l, OkR m t r) : ∀ (d : Nat) (i : Int), 0 ≤ i → (l.length : Int) - i = d →
    Ev (fun k => pylonlaw12_MeterSeries.l1 k l m t (l.map (fun r => (pt m t r).1)) (l.length : Int) i) true := by
  intro d
  have hlen : (l.map (fun r => (pt m t r).1)).length = l.length := List.length_map ..
  induction d with
  | zero =>
    intro i i0 hd
    refine Ev.shift ?_
    simp only [pylonlaw12_MeterSeries.l1, if_neg (show ¬ i < (l.length : Int) by omega), hlen, beq_self_eq_true]
    exact Ev.now _
  | succ d ih =>
    intro i i0 hd
    have hi : i < (l.length : Int) := by omega
    have ei : wrap64 (i + 1) = i + 1 := i64in (by omega) (by omega)
    have hz : rd_T25 l i ∈ l := by
      have := drop25 i0 hi
      exact List.mem_of_mem_drop (i := i.toNat) (by rw [this]; exact List.mem_cons_self)
    have hr : rdOf (cx 0 0) (l.map (fun r => (pt m t r).1)) i = (pt m t (rd_T25 l i)).1 := by
      unfold rdOf
      rw [List.getD_eq_getElem?_getD, List.getElem?_map, get_of (show i.toNat < l.length by omega)]
      rfl
    have h := hg _ hz
    have nx := ih (i + 1) (by omega) (by omega)
    refine Ev.shift ?_
    simp only [pylonlaw12_MeterSeries.l1, if_pos hi, if_pos i0]
    refine ev_bind (Ev.shift (Ev.ofEqK (fun k => pt_f m t (rd_T25 l i) k _ _))) ?_
    simp only [if_pos (pt_ok h).1, hlen, if_pos hi, hr, pt_self h, if_true, ei]
    exact nx
theorem mser_l0 {l : List S25} {m t a b : Int} (hl : l.length * 40 ≤ 140737488351232) : ∀ (d : Nat) (i : Int), 0 ≤ i → (l.length : Int) - i = d →
    Ev (fun k => pylonlaw12_MeterSeries.l0 k l m t a b (mid a b l i) (l.length : Int) i) true := by
  intro d
  induction d with
  | zero =>
    intro i i0 hd
    have hi : mid a b l i = l.map (slo a b) := by
      unfold mid
      rw [List.take_of_length_le (by omega), List.drop_eq_nil_of_le (by omega), List.append_nil]
    have e1 := series_f m t l
    have e2 := series_f m t (l.map (slo a b))
    rw [seriesA_slo] at e2
    refine Ev.shift ?_
    simp only [pylonlaw12_MeterSeries.l0, if_neg (show ¬ i < (l.length : Int) by omega), hi, Option.bind_some, List.nil_append, List.length_nil, if_pos (show 0 + l.length < 3518437208883 by omega)]
    refine ev_bind e1 (ev_bind e2 ?_)
    simp only [if_true]
    rcases seriesA_is m t l with ⟨h4, hg, e⟩ | ⟨c, hc, e⟩ <;> rw [e]
    · refine ev_bind (same_f (by rw [List.length_map]; omega) (pts_self hg)) ?_
      refine Ev.shift ?_
      simp only [pylonlaw12_MeterSeries.j1, Bool.not_true, Bool.false_eq_true, if_false, if_true]
      exact mser_l1 h4 hg l.length 0 (by omega) (by omega)
    · refine ev_bind (same_f (l := []) (by simp) (fun z hz => by cases hz)) ?_
      refine Ev.shift ?_
      simp only [pylonlaw12_MeterSeries.j1, Bool.not_true, Bool.false_eq_true, if_false, if_neg hc]
      exact Ev.ofEq (by simp)
  | succ d ih =>
    intro i i0 hd
    have hi : i < (l.length : Int) := by omega
    have ei : wrap64 (i + 1) = i + 1 := i64in (by omega) (by omega)
    have nx := ih (i + 1) (by omega) (by omega)
    have hat := mid_at (a := a) (b := b) (l := l) i0 hi
    have hnx := mid_next (a := a) (b := b) (l := l) i0 hi
    have hlen := mid_len (a := a) (b := b) (l := l) i
    refine Ev.shift ?_
    simp only [pylonlaw12_MeterSeries.l0, if_pos hi, if_pos i0, hlen, rd_of hat, ei, Option.bind_some]
    generalize mid a b l i = w at *
    have hlt : i.toNat < w.length := by omega
    have s1 : ∀ v : S25, (w.set i.toNat v)[i.toNat]? = some v := fun v => by rw [List.getElem?_set_self hlt]
    simp only [rd_of (s1 _), List.set_set]
    have e : slo a b (rd_T25 l i) = ⟨a, (rd_T25 l i).f1, (rd_T25 l i).f2, (rd_T25 l i).f3, b⟩ := rfl
    rw [e] at hnx
    rw [hnx]
    exact nx
theorem MeterSeries : pylonlaw12_MeterSeries.Pure := by
  intro l m t a b hl _ _ _ _
  refine ev_ex (r := true) ?_
  unfold pylonlaw12_MeterSeries.f
  refine ev_bind awake_ev ?_
  have hl1 := hl.1
  simp only [if_true, Option.bind_some, List.nil_append, List.length_nil, if_pos (show 0 + l.length < 3518437208883 by omega)]
  have := mser_l0 (l := l) (m := m) (t := t) (a := a) (b := b) hl1 l.length 0 (by omega) (by omega)
  have e : mid a b l 0 = l := by unfold mid; simp
  rw [e] at this
  exact this
end Go.Proofs.Ytapimggcnneabaa.Pure
