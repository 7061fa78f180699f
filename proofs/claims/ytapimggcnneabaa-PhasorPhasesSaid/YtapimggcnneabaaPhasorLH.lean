/- Package phasor: lists of numbers, the power of several phases. -/
import Derived.Test.YtapimggcnneabaaPHx1
import Derived.Test.YtapimggcnneabaaPHx2
import Derived.Test.YtapimggcnneabaaPhasorH
import Derived.Test.YtapimggcnneabaaFltTop
set_option linter.unusedVariables false
set_option linter.unusedSimpArgs false
namespace Go.Proofs.Ytapimggcnneabaa.PureH
open Go.RowKit Go.Proofs.Ytapimggcnneabaa.PH Go.Proofs.Ytapimggcnneabaa.Num Go.Proofs.Ytapimggcnneabaa.Flt Go.Proofs.YtapimggcnneabaaW.PrintWords Go.Proofs.YtapimggcnneabaaW.PrintLast Go.Proofs.YtapimggcnneabaaW.PrintMore

/-- The whole number that bits stand for. -/
noncomputable def val (x : Nat) : Int := by
  classical
  exact if h : ∃ n, Is x n then Classical.choose h else 0
theorem val_of {x : Nat} {n : Int} (h : Is x n) : val x = n := by
  unfold val
  rw [dif_pos ⟨n, h⟩]
  exact (Classical.choose_spec (⟨n, h⟩ : ∃ n, Is x n)).uniq h
theorem Good.small {z : Cx} (h : Good z) : Small z (val z.re) (val z.im) := by
  obtain ⟨A, B, h⟩ := h
  rw [val_of h.1.1, val_of h.2.1]
  exact h
def conv (s : S105) : Cx := cx s.f0 s.f1
theorem bits_conv {l : List S105} (h : ∀ y ∈ l, okS105 y) : ∀ z ∈ l.map conv, Bits z := by
  intro z hz
  obtain ⟨y, hy, rfl⟩ := List.mem_map.mp hz
  exact ⟨wf_lt (h y hy).1, wf_lt (h y hy).2⟩
theorem set_mid {α : Type} (A : List α) (z v : α) (m : Nat) : (A ++ List.replicate (m + 1) z).set A.length v = (A ++ [v]) ++ List.replicate m z := by
  rw [List.set_append_right _ _ (Nat.le_refl _), Nat.sub_self, List.replicate_succ]
  simp
theorem numbers_l0 {l : List S105} (hl : (l.length : Int) ≤ 140737488355328) : ∀ (d : Nat) (i : Int), 0 ≤ i → (l.length : Int) - i = d →
    Ev (fun k => pylonlaw02_numbers.l0 k l ((l.take i.toNat).map conv ++ List.replicate d (cx 0 0)) (l.length : Int) i) (l.map conv) := by
  intro d
  induction d with
  | zero =>
    intro i i0 hd
    refine Ev.shift ?_
    simp only [pylonlaw02_numbers.l0, if_neg (show ¬ i < (l.length : Int) by omega)]
    rw [List.take_of_length_le (by omega)]
    simp only [List.replicate_zero, List.append_nil]
    exact Ev.now _
  | succ d ih =>
    intro i i0 hd
    have hi : i < (l.length : Int) := by omega
    have ei : wrap64 (i + 1) = i + 1 := i64in (by omega) (by omega)
    have hlen : ((l.take i.toNat).map conv).length = i.toNat := by rw [List.length_map, List.length_take]; omega
    have hi2 : i < ((((l.take i.toNat).map conv ++ List.replicate (d + 1) (cx 0 0)).length : Nat) : Int) := by
      rw [List.length_append, hlen, List.length_replicate]; omega
    have hs : ((l.take i.toNat).map conv ++ List.replicate (d + 1) (cx 0 0)).set i.toNat (conv (rd_T105 l i)) = (l.take (i + 1).toNat).map conv ++ List.replicate d (cx 0 0) := by
      have := set_mid ((l.take i.toNat).map conv) (cx 0 0) (conv (rd_T105 l i)) d
      rw [hlen] at this
      rw [this, show (i + 1).toNat = i.toNat + 1 by omega, List.take_add_one]
      have hg : l[i.toNat]? = some (rd_T105 l i) := by
        unfold rd_T105
        rw [List.getD_eq_getElem?_getD, List.getElem?_eq_getElem (show i.toNat < l.length by omega)]
        rfl
      rw [hg]
      simp
    have := ih (i + 1) (by omega) (by omega)
    refine Ev.shift ?_
    simp only [pylonlaw02_numbers.l0, if_pos hi, if_pos i0, pylonlaw02_Z_c.f, Option.bind_some, if_pos hi2, ei]
    rw [← hs] at this
    exact this
theorem numbers_f {l : List S105} (hl : (l.length : Int) ≤ 140737488355328) (hl2 : l.length ≤ 17592186044416) : Ev (fun k => pylonlaw02_numbers.f k l) (l.map conv) := by
  unfold pylonlaw02_numbers.f
  simp only [Int.toNat_natCast, if_pos (show (0 : Int) ≤ (l.length : Int) by omega), if_pos hl2]
  have := numbers_l0 hl l.length 0 (by omega) (by omega)
  simpa using this

/-- A pair of numbers is good; its power's parts. -/
def PGood (p : Cx × Cx) : Prop := Good p.1 ∧ Good p.2
noncomputable def pRe (p : Cx × Cx) : Int := val p.1.re * val p.2.re + val p.1.im * val p.2.im
noncomputable def pIm (p : Cx × Cx) : Int := val p.1.im * val p.2.re - val p.1.re * val p.2.im
noncomputable def sRe (l : List (Cx × Cx)) : Int := (l.map pRe).sum
noncomputable def sIm (l : List (Cx × Cx)) : Int := (l.map pIm).sum
theorem sRe_cons (p : Cx × Cx) (l : List (Cx × Cx)) : sRe (p :: l) = pRe p + sRe l := by simp [sRe]
theorem sIm_cons (p : Cx × Cx) (l : List (Cx × Cx)) : sIm (p :: l) = pIm p + sIm l := by simp [sIm]
theorem sRe_app (a b : List (Cx × Cx)) : sRe (a ++ b) = sRe a + sRe b := by simp [sRe]
theorem sIm_app (a b : List (Cx × Cx)) : sIm (a ++ b) = sIm a + sIm b := by simp [sIm]
theorem pair_ok {p : Cx × Cx} (h : PGood p) (b1 : Bits p.1) (b2 : Bits p.2) : ∃ z, phasor_Power.f p.1 p.2 = some (z, 0) ∧ Is z.re (pRe p) ∧ Is z.im (pIm p) ∧ (pRe p).natAbs ≤ 2251799813685248 ∧ (pIm p).natAbs ≤ 2251799813685248 := by
  obtain ⟨⟨q1, q2⟩, q3, q4⟩ := h.1.small
  obtain ⟨⟨r1, r2⟩, r3, r4⟩ := h.2.small
  obtain ⟨z, e, i1, i2, _⟩ := power_ok b1 b2 h.1.small h.2.small
  have p1 := prod_le q2 r2
  have p2 := prod_le q4 r4
  have p3 := prod_le q2 r4
  have p4 := prod_le q4 r2
  refine ⟨z, e, i1, i2, ?_, ?_⟩
  · unfold pRe; omega
  · unfold pIm; omega
theorem rdOf_get {α : Type} (d : α) {xs : List α} {i : Int} (h : i.toNat < xs.length) : rdOf d xs i = xs[i.toNat]'h := by
  unfold rdOf
  rw [List.getD_eq_getElem?_getD, List.getElem?_eq_getElem h]
  rfl
theorem zip_at {u v : List Cx} (h : u.length = v.length) {i : Int} (i0 : 0 ≤ i) (hi : i < (u.length : Int)) : (u.zip v).drop i.toNat = (rdOf (cx 0 0) u i, rdOf (cx 0 0) v i) :: (u.zip v).drop (i + 1).toNat := by
  have hl : i.toNat < (u.zip v).length := by rw [List.length_zip]; omega
  rw [List.drop_eq_getElem_cons hl, List.getElem_zip, show (i + 1).toNat = i.toNat + 1 by omega, rdOf_get (cx 0 0) (by omega), rdOf_get (cx 0 0) (by omega)]

/-- From place i on. -/
theorem phases_l0 {u v : List Cx} (hlen : u.length = v.length) (h4 : u.length ≤ 4) (bu : ∀ z ∈ u, Bits z) (bv : ∀ z ∈ v, Bits z) :
    ∀ (d : Nat) (i : Int) (s : Cx) (A B : Int), 0 ≤ i → (u.length : Int) - i = d → IsT s.re A → IsT s.im B → A.natAbs ≤ i.toNat * 2251799813685248 → B.natAbs ≤ i.toNat * 2251799813685248 →
    ((∀ p ∈ (u.zip v).drop i.toNat, PGood p) → ∃ z, Ev (fun k => phasor_Phases.l0 k u v s (u.length : Int) i) (z, 0) ∧ IsT z.re (A + sRe ((u.zip v).drop i.toNat)) ∧ IsT z.im (B + sIm ((u.zip v).drop i.toNat)) ∧
      (A + sRe ((u.zip v).drop i.toNat)).natAbs ≤ u.length * 2251799813685248 ∧ (B + sIm ((u.zip v).drop i.toNat)).natAbs ≤ u.length * 2251799813685248) ∧
    ((¬ ∀ p ∈ (u.zip v).drop i.toNat, PGood p) → Ev (fun k => phasor_Phases.l0 k u v s (u.length : Int) i) (cx 0 0, 5)) := by
  intro d
  induction d with
  | zero =>
    intro i s A B i0 hd hA hB a b
    have hz : (u.zip v).drop i.toNat = [] := List.drop_eq_nil_of_le (by rw [List.length_zip]; omega)
    rw [hz]
    have e1 : A + sRe [] = A := by rw [show sRe [] = 0 from rfl, Int.add_zero]
    have e2 : B + sIm [] = B := by rw [show sIm [] = 0 from rfl, Int.add_zero]
    have hi : i.toNat = u.length := by omega
    rw [e1, e2]
    refine ⟨fun _ => ⟨s, ?_, hA, hB, by rw [← hi]; exact a, by rw [← hi]; exact b⟩, fun h => (h (fun p hp => by cases hp)).elim⟩
    refine Ev.shift ?_
    simp only [phasor_Phases.l0, if_neg (show ¬ i < (u.length : Int) by omega)]
    exact Ev.now _
  | succ d ih =>
    intro i s A B i0 hd hA hB a b
    have hi : i < (u.length : Int) := by omega
    have ei : wrap64 (i + 1) = i + 1 := i64in (by omega) (by omega)
    have hz := zip_at hlen i0 hi
    have hu : rdOf (cx 0 0) u i ∈ u := by
      have := drop_cons (xs := u) (cx 0 0) i0 hi
      exact List.mem_of_mem_drop (i := i.toNat) (by rw [this]; exact List.mem_cons_self)
    have hv : rdOf (cx 0 0) v i ∈ v := by
      have := drop_cons (xs := v) (cx 0 0) i0 (by omega)
      exact List.mem_of_mem_drop (i := i.toNat) (by rw [this]; exact List.mem_cons_self)
    have b1 := bu _ hu
    have b2 := bv _ hv
    rw [hz]
    by_cases g : PGood (rdOf (cx 0 0) u i, rdOf (cx 0 0) v i)
    · obtain ⟨z, e, z1, z2, z3, z4⟩ := pair_ok g b1 b2
      have hA' : Is s.re A := hA.small (by omega)
      have hB' : Is s.im B := hB.small (by omega)
      obtain ⟨ok, r, m⟩ := caddT_is hA' hB' z1 z2 (by omega) (by omega)
      obtain ⟨i1, i2⟩ := ih (i + 1) (cx (caddre s.re s.im z.re z.im) (caddim s.re s.im z.re z.im)) _ _ (by omega) (by omega) r m (by omega) (by omega)
      refine ⟨fun h => ?_, fun h => ?_⟩
      · obtain ⟨z', f, f1, f2, f3, f4⟩ := i1 (fun p hp => h p (List.mem_cons_of_mem _ hp))
        rw [Int.add_assoc, ← sRe_cons] at f1 f3
        rw [Int.add_assoc, ← sIm_cons] at f2 f4
        refine ⟨z', ?_, f1, f2, f3, f4⟩
        refine Ev.shift ?_
        simp only [phasor_Phases.l0, if_pos hi, if_pos i0, if_pos (show i < (v.length : Int) by omega), e, Option.bind_some, if_true, ok, ei]
        exact f
      · have f := i2 (fun h2 => h (fun p hp => by
          rcases List.mem_cons.mp hp with rfl | hp
          · exact g
          · exact h2 p hp))
        refine Ev.shift ?_
        simp only [phasor_Phases.l0, if_pos hi, if_pos i0, if_pos (show i < (v.length : Int) by omega), e, Option.bind_some, if_true, ok, ei]
        exact f
    · refine ⟨fun h => (g (h _ List.mem_cons_self)).elim, fun _ => ?_⟩
      have e : phasor_Power.f (rdOf (cx 0 0) u i) (rdOf (cx 0 0) v i) = some (cx 0 0, 5) := power_no b1 b2 g
      refine Ev.shift ?_
      simp only [phasor_Phases.l0, if_pos hi, if_pos i0, if_pos (show i < (v.length : Int) by omega), e, Option.bind_some]
      exact Ev.now _
/-- The power of several phases. -/
theorem phases_f {u v : List Cx} (hlen : u.length = v.length) (h4 : u.length ≤ 4) (bu : ∀ z ∈ u, Bits z) (bv : ∀ z ∈ v, Bits z) :
    ((∀ p ∈ u.zip v, PGood p) → ∃ z, Ev (fun k => phasor_Phases.f k u v) (z, 0) ∧ IsT z.re (sRe (u.zip v)) ∧ IsT z.im (sIm (u.zip v)) ∧ (sRe (u.zip v)).natAbs ≤ u.length * 2251799813685248 ∧ (sIm (u.zip v)).natAbs ≤ u.length * 2251799813685248) ∧
    ((¬ ∀ p ∈ u.zip v, PGood p) → Ev (fun k => phasor_Phases.f k u v) (cx 0 0, 5)) := by
  have h := phases_l0 hlen h4 bu bv u.length 0 (cx 0 0) 0 0 (by omega) (by omega) (.inl is_zero) (.inl is_zero) (by simp) (by simp)
  simp only [Int.toNat_zero, List.drop_zero, Int.zero_add] at h
  have hj : ∀ r, Ev (fun k => phasor_Phases.l0 k u v (cx 0 0) (u.length : Int) 0) r → Ev (fun k => phasor_Phases.f k u v) r := by
    intro r hr
    unfold phasor_Phases.f
    simp only [if_pos (show (u.length : Int) = (v.length : Int) by omega), decide_eq_false (show ¬ (u.length : Int) > 4 by omega)]
    refine Ev.shift ?_
    simp only [phasor_Phases.j0, Bool.false_eq_true, if_false]
    exact hr
  refine ⟨fun g => ?_, fun g => hj _ (h.2 g)⟩
  obtain ⟨z, e, r⟩ := h.1 g
  exact ⟨z, hj _ e, r⟩
end Go.Proofs.Ytapimggcnneabaa.PureH
