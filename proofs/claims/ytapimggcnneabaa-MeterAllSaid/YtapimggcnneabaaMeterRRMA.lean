/- Package meter: the document's series of points. -/
import Derived.Test.YtapimggcnneabaaMeterSMA
import Derived.Test.YtapimggcnneabaaPMAx1
import Derived.Test.YtapimggcnneabaaPMAx3
set_option linter.unusedVariables false
set_option linter.unusedSimpArgs false
namespace Go.Proofs.Ytapimggcnneabaa.PureMA
open Go.RowKit Go.Proofs.Ytapimggcnneabaa.PMA Go.Proofs.Ytapimggcnneabaa.Num Go.Proofs.Ytapimggcnneabaa.Flt Go.Proofs.YtapimggcnneabaaW.PrintWords Go.Proofs.YtapimggcnneabaaW.PrintLast Go.Proofs.YtapimggcnneabaaW.PrintMore

instance (i e v m t : Int) : Decidable (OkP i e v m t) := by unfold OkP; infer_instance
/-- What the document says of a point. -/
noncomputable def rp (i e v m t : Int) : Cx := cx (floatOfInt .f64 (rot t ((i - e) * m) (v * m)).1) (floatOfInt .f64 (rot t ((i - e) * m) (v * m)).2)
theorem turned_end {t : Int} {A B : Int} (n : Int) (h : ¬ n < t) : Ev (fun k => pylonref12_turned.l0 k t n A B) (A, B) := by
  refine Ev.shift ?_
  simp only [pylonref12_turned.l0, if_neg h]
  exact Ev.now _
theorem turned_step {t : Int} {A B : Int} {R : Int × Int} (n : Int) (h : n < t) (n1 : wrap64 (n + 1) = n + 1) (b1 : wrap64 (-B) = -B) (e : Ev (fun k => pylonref12_turned.l0 k t (n + 1) (-B) A) R) : Ev (fun k => pylonref12_turned.l0 k t n A B) R := by
  refine Ev.shift ?_
  simp only [pylonref12_turned.l0, if_pos h, n1, b1]
  exact e
theorem turned_f {t A B : Int} (t0 : 0 ≤ t) (t1 : t ≤ 3) (hA : A.natAbs ≤ 10000000000) (hB : B.natAbs ≤ 10000000000) : Ev (fun k => pylonref12_turned.f k A B t) (rot t A B) := by
  have wA : wrap64 (-A) = -A := i64in (by omega) (by omega)
  have wB : wrap64 (-B) = -B := i64in (by omega) (by omega)
  have wA2 : wrap64 (- -A) = - -A := i64in (by omega) (by omega)
  have wB2 : wrap64 (- -B) = - -B := i64in (by omega) (by omega)
  unfold pylonref12_turned.f
  have ht : t = 0 ∨ t = 1 ∨ t = 2 ∨ t = 3 := by omega
  rcases ht with rfl | rfl | rfl | rfl
  · exact turned_end 0 (by decide)
  · exact turned_step 0 (by decide) (by decide +kernel) wB (turned_end _ (by decide))
  · exact turned_step 0 (by decide) (by decide +kernel) wB (turned_step _ (by decide) (by decide +kernel) wA (turned_end _ (by decide)))
  · have := turned_step 0 (by decide) (by decide +kernel) wB (turned_step _ (by decide) (by decide +kernel) wA (turned_step (A := -A) (B := -B) (t := 3) _ (by decide) (by decide +kernel) wB2 (turned_end _ (by decide))))
    rw [Int.neg_neg] at this
    exact this
theorem rpoint_f (s i e v g m t : Int) : Ev (fun k => pylonref12_Point.f k s i e v g m t) (if OkP i e v m t then (rp i e v m t, 0) else (cx 0 0, if 1 ≤ m ∧ m ≤ 1000 ∧ 0 ≤ t ∧ t ≤ 3 then 5 else 8)) := by
  have j0y : ∀ b : Bool, b = true → ¬ (1 ≤ m ∧ m ≤ 1000 ∧ 0 ≤ t ∧ t ≤ 3) → Ev (fun k => pylonref12_Point.j0 k m t b s i e v g) (if OkP i e v m t then (rp i e v m t, 0) else (cx 0 0, if 1 ≤ m ∧ m ≤ 1000 ∧ 0 ≤ t ∧ t ≤ 3 then 5 else 8)) := by
    intro b hb hn
    rw [if_neg (fun h : OkP i e v m t => hn h.1), if_neg hn]
    refine Ev.shift ?_
    simp only [pylonref12_Point.j0, if_pos hb]
    exact Ev.now _
  unfold pylonref12_Point.f
  by_cases m0 : m < 1
  · simp only [if_pos m0]
    exact j0y _ rfl (by omega)
  simp only [if_neg m0]
  by_cases m1 : m > 1000
  · simp only [if_pos m1]
    exact j0y _ rfl (by omega)
  simp only [if_neg m1]
  by_cases t0 : t < 0
  · simp only [if_pos t0]
    exact j0y _ rfl (by omega)
  simp only [if_neg t0]
  by_cases t1 : t > 3
  · exact j0y _ (decide_eq_true t1) (by omega)
  have j1y : ∀ b : Bool, b = true → ¬ OkP i e v m t → Ev (fun k => pylonref12_Point.j1 k m t b s i e v g) (if OkP i e v m t then (rp i e v m t, 0) else (cx 0 0, if 1 ≤ m ∧ m ≤ 1000 ∧ 0 ≤ t ∧ t ≤ 3 then 5 else 8)) := by
    intro b hb hn
    rw [if_neg hn, if_pos (by omega)]
    refine Ev.shift ?_
    simp only [pylonref12_Point.j1, if_pos hb]
    exact Ev.now _
  refine Ev.shift ?_
  simp only [pylonref12_Point.j0, decide_eq_false t1, Bool.false_eq_true, if_false]
  by_cases i0 : i < 0
  · simp only [if_pos i0]
    exact j1y _ rfl (by unfold OkP; omega)
  simp only [if_neg i0]
  by_cases i1 : i > 10000000
  · simp only [if_pos i1]
    exact j1y _ rfl (by unfold OkP; omega)
  simp only [if_neg i1]
  by_cases e0 : e < 0
  · simp only [if_pos e0]
    exact j1y _ rfl (by unfold OkP; omega)
  simp only [if_neg e0]
  by_cases e1 : e > 10000000
  · simp only [if_pos e1]
    exact j1y _ rfl (by unfold OkP; omega)
  simp only [if_neg e1]
  by_cases v0 : v < (-10000000)
  · simp only [if_pos v0]
    exact j1y _ rfl (by unfold OkP; omega)
  simp only [if_neg v0]
  by_cases v1 : v > 10000000
  · exact j1y _ (decide_eq_true v1) (by unfold OkP; omega)
  have bX : ((i - e) * m).natAbs ≤ 10000000 * 1000 := by
    rw [Int.natAbs_mul]
    exact Nat.mul_le_mul (by omega) (by omega)
  have bY : (v * m).natAbs ≤ 10000000 * 1000 := by
    rw [Int.natAbs_mul]
    exact Nat.mul_le_mul (by omega) (by omega)
  rw [if_pos (show OkP i e v m t by unfold OkP; omega)]
  refine Ev.shift ?_
  simp only [pylonref12_Point.j1, decide_eq_false v1, Bool.false_eq_true, if_false, i64in (x := i - e) (by omega) (by omega), i64in (x := (i - e) * m) (by omega) (by omega), i64in (x := v * m) (by omega) (by omega)]
  refine ev_bind (turned_f (by omega) (by omega) (by omega) (by omega)) ?_
  simp only [pylonref02_Made.f, Option.bind_some]
  exact Ev.now _
/-- What the document's series is. -/
noncomputable def rser (m t : Int) : List S25 → List Cx → List Cx × Int
  | [], acc => (acc, 0)
  | r :: l, acc => if OkP r.f1 r.f2 r.f3 m t then rser m t l (acc ++ [rp r.f1 r.f2 r.f3 m t]) else ([], if 1 ≤ m ∧ m ≤ 1000 ∧ 0 ≤ t ∧ t ≤ 3 then 5 else 8)
theorem rseries_l0 {l : List S25} {m t : Int} (hl : l.length ≤ 40000) : ∀ (d : Nat) (i : Int) (acc : List Cx), 0 ≤ i → (l.length : Int) - i = d → acc.length + d ≤ 100000 →
    Ev (fun k => pylonref12_Series.l0 k l m t acc (l.length : Int) i) (rser m t (l.drop i.toNat) acc) := by
  intro d
  induction d with
  | zero =>
    intro i acc i0 hd ha
    refine Ev.shift ?_
    simp only [pylonref12_Series.l0, if_neg (show ¬ i < (l.length : Int) by omega)]
    rw [List.drop_eq_nil_of_le (by omega)]
    exact Ev.now _
  | succ d ih =>
    intro i acc i0 hd ha
    have hi : i < (l.length : Int) := by omega
    have ei : wrap64 (i + 1) = i + 1 := i64in (by omega) (by omega)
    have e := drop25 i0 hi
    have nx := ih (i + 1) (acc ++ [rp (rd_T25 l i).f1 (rd_T25 l i).f2 (rd_T25 l i).f3 m t]) (by omega) (by omega) (by rw [List.length_append]; simp only [List.length_cons, List.length_nil]; omega)
    rw [e]
    unfold rser
    refine Ev.shift ?_
    simp only [pylonref12_Series.l0, if_pos hi, if_pos i0, ei, if_pos (show acc.length < 8796093022208 by omega)]
    refine ev_bind (rpoint_f _ _ _ _ _ _ _) ?_
    by_cases h : OkP (rd_T25 l i).f1 (rd_T25 l i).f2 (rd_T25 l i).f3 m t
    · simp only [if_pos h, if_true]
      exact nx
    · simp only [if_neg h]
      have hc : ¬ (if 1 ≤ m ∧ m ≤ 1000 ∧ 0 ≤ t ∧ t ≤ 3 then (5 : Int) else 8) = 0 := by split <;> decide
      simp only [if_neg hc]
      exact Ev.now _
noncomputable def rseriesA (m t : Int) (l : List S25) : List Cx × Int := if (l.length : Int) > 40000 then ([], 9) else rser m t l []
theorem rseries_f (m t : Int) (l : List S25) : Ev (fun k => pylonref12_Series.f k l m t) (rseriesA m t l) := by
  unfold pylonref12_Series.f rseriesA
  by_cases h : (l.length : Int) > 40000
  · simp only [if_pos h]
    exact Ev.now _
  · simp only [if_neg h]
    have := rseries_l0 (l := l) (m := m) (t := t) (by omega) l.length 0 [] (by omega) (by omega) (by simp; omega)
    simpa using this
theorem rser_is (m t : Int) : ∀ (l : List S25) (acc : List Cx), ((∀ r ∈ l, OkR m t r) → (rser m t l acc).1 = acc ++ l.map (fun r => rp r.f1 r.f2 r.f3 m t)) ∧ ((¬ ∀ r ∈ l, OkR m t r) → (rser m t l acc).1 = [])
  | [], acc => ⟨fun _ => by simp [rser], fun h => (h (fun r hr => by cases hr)).elim⟩
  | r :: l, acc => by
    obtain ⟨a, b⟩ := rser_is m t l (acc ++ [rp r.f1 r.f2 r.f3 m t])
    unfold rser
    by_cases h : OkP r.f1 r.f2 r.f3 m t
    · rw [if_pos h]
      refine ⟨fun g => ?_, fun g => b (fun n => g (fun q hq => ?_))⟩
      · rw [a (fun q hq => g q (List.mem_cons_of_mem _ hq))]
        simp
      · rcases List.mem_cons.mp hq with rfl | hq
        · exact h
        · exact n q hq
    · rw [if_neg h]
      exact ⟨fun g => (h (g r List.mem_cons_self)).elim, fun _ => rfl⟩
theorem serA_err (m t : Int) : ∀ (l : List S25) (acc : List Cx), (¬ ∀ r ∈ l, OkR m t r) → (serA m t l acc).1 = [] := by
  intro l acc h
  obtain ⟨c, _, e⟩ := (serA_is m t l acc).2 h
  rw [e]
/-- The two series: both empty, or point by point. -/
theorem both (m t : Int) (l : List S25) : ((seriesA m t l).1 = [] ∧ (rseriesA m t l).1 = []) ∨ (l.length ≤ 40000 ∧ (∀ r ∈ l, OkR m t r) ∧ (seriesA m t l).1 = l.map (fun r => (pt m t r).1) ∧ (rseriesA m t l).1 = l.map (fun r => rp r.f1 r.f2 r.f3 m t)) := by
  unfold seriesA rseriesA
  by_cases h : (l.length : Int) > 40000
  · rw [if_pos h, if_pos h]
    exact .inl ⟨rfl, rfl⟩
  · rw [if_neg h, if_neg h]
    by_cases g : ∀ r ∈ l, OkR m t r
    · refine .inr ⟨by omega, g, ?_, ?_⟩
      · rw [(serA_is m t l []).1 g, List.nil_append]
      · rw [(rser_is m t l []).1 g, List.nil_append]
    · exact .inl ⟨serA_err m t l [] g, (rser_is m t l []).2 g⟩
theorem err_all (m t : Int) : ∀ (l : List S25) (acc bcc : List Cx), (serA m t l acc).2 = (rser m t l bcc).2
  | [], _, _ => rfl
  | r :: l, acc, bcc => by
    unfold serA rser
    by_cases h : OkP r.f1 r.f2 r.f3 m t
    · rw [if_pos h, if_pos (pt_ok (r := r) h).1]
      exact err_all m t l _ _
    · rw [if_neg h, if_neg (pt_err (r := r) h), pt_no (r := r) h]
/-- The two series answer alike. -/
theorem err_same (m t : Int) (l : List S25) : (seriesA m t l).2 = (rseriesA m t l).2 := by
  unfold seriesA rseriesA
  by_cases h : (l.length : Int) > 40000
  · rw [if_pos h, if_pos h]
  · rw [if_neg h, if_neg h]
    exact err_all m t l [] []
theorem rot_le (t : Int) {A B : Int} {n : Nat} (hA : A.natAbs ≤ n) (hB : B.natAbs ≤ n) : (rot t A B).1.natAbs ≤ n ∧ (rot t A B).2.natAbs ≤ n := by
  unfold rot
  split
  · exact ⟨hA, hB⟩
  · split
    · exact ⟨by show (-B).natAbs ≤ n; omega, hA⟩
    · split
      · exact ⟨by show (-A).natAbs ≤ n; omega, by show (-B).natAbs ≤ n; omega⟩
      · exact ⟨hB, by show (-A).natAbs ≤ n; omega⟩
theorem pt_rp {m t : Int} {r : S25} (h : OkR m t r) : ceq (pt m t r).1.re (pt m t r).1.im (rp r.f1 r.f2 r.f3 m t).re (rp r.f1 r.f2 r.f3 m t).im = true := by
  obtain ⟨_, a, b, _⟩ := pt_ok h
  obtain ⟨⟨m0, m1, t0, t1⟩, i0, i1, e0, e1, v0, v1⟩ := id h
  have bX : ((r.f1 - r.f2) * m).natAbs ≤ 10000000 * 1000 := by
    rw [Int.natAbs_mul]
    exact Nat.mul_le_mul (by omega) (by omega)
  have bY : (r.f3 * m).natAbs ≤ 10000000 * 1000 := by
    rw [Int.natAbs_mul]
    exact Nat.mul_le_mul (by omega) (by omega)
  obtain ⟨c, d⟩ := rot_le t bX bY
  show ceq _ _ (floatOfInt .f64 _) (floatOfInt .f64 _) = true
  rw [ceq_is a b (of_int (by omega)) (of_int (by omega)), decide_eq_true rfl, decide_eq_true rfl]
  rfl
theorem rdmap {α : Type} (d : α) (f : S25 → α) {l : List S25} {i : Int} (h : i.toNat < l.length) : rdOf d (l.map f) i = f (rd_T25 l i) := by
  unfold rdOf rd_T25
  rw [List.getD_eq_getElem?_getD, List.getD_eq_getElem?_getD, List.getElem?_map, List.getElem?_eq_getElem h]
  rfl
/-- Two lists of points, told by one list. -/
theorem same2_l0 {l : List S25} {f g : S25 → Cx} (hl : (l.length : Int) ≤ 140737488355328) (hs : ∀ r ∈ l, ceq (f r).re (f r).im (g r).re (g r).im = true) : ∀ (d : Nat) (i : Int), 0 ≤ i → (l.length : Int) - i = d → Ev (fun k => pylonref12_SameSeries.l0 k (l.map f) (l.map g) (l.length : Int) i) true := by
  intro d
  have n1 : (l.map f).length = l.length := List.length_map ..
  have n2 : (l.map g).length = l.length := List.length_map ..
  induction d with
  | zero =>
    intro i i0 hd
    refine Ev.shift ?_
    simp only [pylonref12_SameSeries.l0, if_neg (show ¬ i < (l.length : Int) by omega)]
    exact Ev.now _
  | succ d ih =>
    intro i i0 hd
    have hi : i < (l.length : Int) := by omega
    have ei : wrap64 (i + 1) = i + 1 := i64in (by omega) (by omega)
    have e := drop25 i0 hi
    have hz : rd_T25 l i ∈ l := List.mem_of_mem_drop (i := i.toNat) (by rw [e]; exact List.mem_cons_self)
    refine Ev.shift ?_
    simp only [pylonref12_SameSeries.l0, if_pos hi, if_pos i0, ei, n1, n2, rdmap _ _ (show i.toNat < l.length by omega), hs _ hz, if_true]
    exact ih (i + 1) (by omega) (by omega)
theorem same2_f {l : List S25} {f g : S25 → Cx} (hl : (l.length : Int) ≤ 140737488355328) (hs : ∀ r ∈ l, ceq (f r).re (f r).im (g r).re (g r).im = true) : Ev (fun k => pylonref12_SameSeries.f k (l.map f) (l.map g)) true := by
  unfold pylonref12_SameSeries.f
  simp only [List.length_map, if_true]
  exact same2_l0 hl hs l.length 0 (by omega) (by omega)
theorem sameA (m t : Int) (l : List S25) : Ev (fun k => pylonref12_SameSeries.f k (seriesA m t l).1 (rseriesA m t l).1) true := by
  rcases both m t l with ⟨e1, e2⟩ | ⟨hl, hg, e1, e2⟩ <;> rw [e1, e2]
  · exact same2_f (l := []) (f := fun _ => cx 0 0) (g := fun _ => cx 0 0) (by simp) (fun z hz => by cases hz)
  · exact same2_f (by omega) (fun r hr => pt_rp (hg r hr))
theorem seriesA_bits (m t : Int) (l : List S25) : (seriesA m t l).1.length ≤ 40000 ∧ ∀ z ∈ (seriesA m t l).1, z.re < 18446744073709551616 ∧ z.im < 18446744073709551616 := by
  rcases both m t l with ⟨e1, _⟩ | ⟨hl, hg, e1, _⟩ <;> rw [e1]
  · exact ⟨by simp, fun z hz => by cases hz⟩
  · refine ⟨by rw [List.length_map]; exact hl, fun z hz => ?_⟩
    obtain ⟨r, hr, rfl⟩ := List.mem_map.mp hz
    obtain ⟨_, _, _, a, b⟩ := pt_ok (hg r hr)
    exact ⟨a, b⟩
end Go.Proofs.Ytapimggcnneabaa.PureMA
