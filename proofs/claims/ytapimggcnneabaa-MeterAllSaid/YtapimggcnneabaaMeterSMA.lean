/- Package meter: a series of points. -/
import Derived.Test.YtapimggcnneabaaMeterAMA
import Derived.Test.YtapimggcnneabaaPMAx1
set_option linter.unusedVariables false
set_option linter.unusedSimpArgs false
namespace Go.Proofs.Ytapimggcnneabaa.PureMA
open Go.RowKit Go.Proofs.Ytapimggcnneabaa.PMA Go.Proofs.Ytapimggcnneabaa.Num Go.Proofs.Ytapimggcnneabaa.Flt Go.Proofs.YtapimggcnneabaaW.PrintWords Go.Proofs.YtapimggcnneabaaW.PrintLast Go.Proofs.YtapimggcnneabaaW.PrintMore

def OkR (m t : Int) (r : S25) : Prop := OkP r.f1 r.f2 r.f3 m t
/-- The point of a read. -/
noncomputable def pt (m t : Int) (r : S25) : Cx × Int := Classical.choose (point_f r.f1 r.f2 r.f3 m t)
theorem pt_f (m t : Int) (r : S25) : ∀ (k : Nat) (s g : Int), meter_Point.f (k + 1) s r.f1 r.f2 r.f3 g m t = some (pt m t r) := (Classical.choose_spec (point_f r.f1 r.f2 r.f3 m t)).1
theorem pt_ok {m t : Int} {r : S25} (h : OkR m t r) : (pt m t r).2 = 0 ∧ Is (pt m t r).1.re (rot t ((r.f1 - r.f2) * m) (r.f3 * m)).1 ∧ Is (pt m t r).1.im (rot t ((r.f1 - r.f2) * m) (r.f3 * m)).2 ∧ (pt m t r).1.re < 18446744073709551616 ∧ (pt m t r).1.im < 18446744073709551616 :=
  (Classical.choose_spec (point_f r.f1 r.f2 r.f3 m t)).2.1 h
theorem pt_no {m t : Int} {r : S25} (h : ¬ OkR m t r) : pt m t r = (cx 0 0, if 1 ≤ m ∧ m ≤ 1000 ∧ 0 ≤ t ∧ t ≤ 3 then 5 else 8) := (Classical.choose_spec (point_f r.f1 r.f2 r.f3 m t)).2.2 h
theorem pt_err {m t : Int} {r : S25} (h : ¬ OkR m t r) : ¬ (pt m t r).2 = 0 := by
  rw [pt_no h]
  simp only
  split <;> decide
theorem pt_self {m t : Int} {r : S25} (h : OkR m t r) : ceq (pt m t r).1.re (pt m t r).1.im (pt m t r).1.re (pt m t r).1.im = true := by
  obtain ⟨_, a, b, _⟩ := pt_ok h
  rw [ceq_is a b a b, decide_eq_true rfl, decide_eq_true rfl]
  rfl
/-- What Series answers. -/
noncomputable def serA (m t : Int) : List S25 → List Cx → List Cx × Int
  | [], acc => (acc, 0)
  | r :: l, acc => if (pt m t r).2 = 0 then serA m t l (acc ++ [(pt m t r).1]) else ([], (pt m t r).2)
theorem drop25 {l : List S25} {i : Int} (h0 : 0 ≤ i) (h1 : i < (l.length : Int)) : l.drop i.toNat = rd_T25 l i :: l.drop (i + 1).toNat := by
  have h : i.toNat < l.length := by omega
  rw [List.drop_eq_getElem_cons h, show (i + 1).toNat = i.toNat + 1 by omega]
  unfold rd_T25
  rw [List.getD_eq_getElem?_getD, List.getElem?_eq_getElem h]
  rfl
theorem series_l0 {l : List S25} {m t : Int} (hl : l.length ≤ 40000) : ∀ (d : Nat) (i : Int) (acc : List Cx), 0 ≤ i → (l.length : Int) - i = d → acc.length + d ≤ 100000 →
    Ev (fun k => meter_Series.l0 k m t acc l (l.length : Int) i) (serA m t (l.drop i.toNat) acc) := by
  intro d
  induction d with
  | zero =>
    intro i acc i0 hd ha
    refine Ev.shift ?_
    simp only [meter_Series.l0, if_neg (show ¬ i < (l.length : Int) by omega)]
    rw [List.drop_eq_nil_of_le (by omega)]
    exact Ev.now _
  | succ d ih =>
    intro i acc i0 hd ha
    have hi : i < (l.length : Int) := by omega
    have ei : wrap64 (i + 1) = i + 1 := i64in (by omega) (by omega)
    have e := drop25 i0 hi
    have nx := ih (i + 1) (acc ++ [(pt m t (rd_T25 l i)).1]) (by omega) (by omega) (by rw [List.length_append]; simp only [List.length_cons, List.length_nil]; omega)
    rw [e]
    unfold serA
    refine Ev.shift ?_
    refine Ev.shift ?_
    simp only [meter_Series.l0, if_pos hi, if_pos i0, pt_f, Option.bind_some, ei, if_pos (show acc.length < 8796093022208 by omega)]
    by_cases h : (pt m t (rd_T25 l i)).2 = 0
    · simp only [if_pos h]
      exact Ev.later nx
    · simp only [if_neg h]
      exact Ev.now _
noncomputable def seriesA (m t : Int) (l : List S25) : List Cx × Int := if (l.length : Int) > 40000 then ([], 9) else serA m t l []
theorem series_f (m t : Int) (l : List S25) : Ev (fun k => meter_Series.f k l m t) (seriesA m t l) := by
  unfold meter_Series.f seriesA
  by_cases h : (l.length : Int) > 40000
  · simp only [if_pos h]
    exact Ev.now _
  · simp only [if_neg h, if_pos (show (0 : Int) ≤ (l.length : Int) by omega), Int.toNat_natCast, if_pos (show l.length ≤ 17592186044416 by omega), List.replicate_zero]
    have := series_l0 (l := l) (m := m) (t := t) (by omega) l.length 0 [] (by omega) (by omega) (by simp; omega)
    simpa using this
open Classical in
/-- All reads are good: their points, in order; else nothing. -/
theorem serA_is (m t : Int) : ∀ (l : List S25) (acc : List Cx), ((∀ r ∈ l, OkR m t r) → serA m t l acc = (acc ++ l.map (fun r => (pt m t r).1), 0)) ∧ ((¬ ∀ r ∈ l, OkR m t r) → ∃ c, c ≠ 0 ∧ serA m t l acc = ([], c))
  | [], acc => ⟨fun _ => by simp [serA], fun h => (h (fun r hr => by cases hr)).elim⟩
  | r :: l, acc => by
    obtain ⟨a, b⟩ := serA_is m t l (acc ++ [(pt m t r).1])
    unfold serA
    by_cases h : OkR m t r
    · rw [if_pos (pt_ok h).1]
      refine ⟨fun g => ?_, fun g => b (fun n => g (fun q hq => ?_))⟩
      · rw [a (fun q hq => g q (List.mem_cons_of_mem _ hq))]
        simp
      · rcases List.mem_cons.mp hq with rfl | hq
        · exact h
        · exact n q hq
    · rw [if_neg (pt_err h)]
      exact ⟨fun g => (h (g r List.mem_cons_self)).elim, fun _ => ⟨_, pt_err h, rfl⟩⟩
theorem seriesA_is (m t : Int) (l : List S25) : (l.length ≤ 40000 ∧ (∀ r ∈ l, OkR m t r) ∧ seriesA m t l = (l.map (fun r => (pt m t r).1), 0)) ∨ ∃ c, c ≠ 0 ∧ seriesA m t l = ([], c) := by
  unfold seriesA
  by_cases h : (l.length : Int) > 40000
  · rw [if_pos h]
    exact .inr ⟨9, by decide, rfl⟩
  · rw [if_neg h]
    obtain ⟨a, b⟩ := serA_is m t l []
    by_cases g : ∀ r ∈ l, OkR m t r
    · refine .inl ⟨by omega, g, ?_⟩
      have := a g
      rwa [List.nil_append] at this
    · exact .inr (b g)
/-- Two lists of points, each equal to itself by '=='. -/
theorem same_l0 {l : List Cx} (hl : (l.length : Int) ≤ 140737488355328) (hs : ∀ z ∈ l, ceq z.re z.im z.re z.im = true) : ∀ (d : Nat) (i : Int), 0 ≤ i → (l.length : Int) - i = d → Ev (fun k => pylonref12_SameSeries.l0 k l l (l.length : Int) i) true := by
  intro d
  induction d with
  | zero =>
    intro i i0 hd
    refine Ev.shift ?_
    simp only [pylonref12_SameSeries.l0, if_neg (show ¬ i < (l.length : Int) by omega)]
    exact Ev.now _
  | succ d ih =>
    intro i i0 hd
    have hi : i < (l.length : Int) := by omega
    have ei : wrap64 (i + 1) = i + 1 := i64in (by omega) (by omega)
    have e := drop_cons (cx 0 0) i0 hi
    have hz : rdOf (cx 0 0) l i ∈ l := List.mem_of_mem_drop (i := i.toNat) (by rw [e]; exact List.mem_cons_self)
    refine Ev.shift ?_
    simp only [pylonref12_SameSeries.l0, if_pos hi, if_pos i0, ei, hs _ hz, if_true]
    exact ih (i + 1) (by omega) (by omega)
theorem same_f {l : List Cx} (hl : (l.length : Int) ≤ 140737488355328) (hs : ∀ z ∈ l, ceq z.re z.im z.re z.im = true) : Ev (fun k => pylonref12_SameSeries.f k l l) true := by
  unfold pylonref12_SameSeries.f
  simp only [if_true]
  exact same_l0 hl hs l.length 0 (by omega) (by omega)
theorem pts_self {m t : Int} {l : List S25} (h : ∀ r ∈ l, OkR m t r) : ∀ z ∈ l.map (fun r => (pt m t r).1), ceq z.re z.im z.re z.im = true := by
  intro z hz
  obtain ⟨r, hr, rfl⟩ := List.mem_map.mp hz
  exact pt_self (h r hr)
theorem awake_ev : Ev (fun k => pylonlaw12_awake.f k) true := Ev.shift (Ev.ofEqK awake_ok)
end Go.Proofs.Ytapimggcnneabaa.PureMA
