/- RatchetLooks holds: what lies farther back than the months never shows. -/
import Derived.Test.YtbjkjakilpifhaaRatBRL
import Derived.Test.YtbjkjakilpifhaaPRLx4
import Derived.Test.YtbjkjakilpifhaaPRLx5
set_option linter.unusedVariables false
set_option linter.unusedSimpArgs false
namespace Go.Proofs.Ytbjkjakilpifhaa.Pure
open Go.RowKit Go.Proofs.Ytbjkjakilpifhaa.PRL Go.Proofs.Ytbjkjakilpifhaa.Num Go.Proofs.Ytbjkjakilpifhaa.PureRL Go.Proofs.YtbjkjakilpifhaaW.PrintWords Go.Proofs.YtbjkjakilpifhaaW.PrintLast Go.Proofs.YtbjkjakilpifhaaW.PrintMore
theorem rd_set {l : List Int} {i j v : Int} (i0 : 0 ≤ i) (i1 : i < l.length) (j0 : 0 ≤ j) : rd (l.set i.toNat v) j = if j = i then v else rd l j := by
  unfold rd
  rw [List.getD_eq_getElem?_getD, List.getD_eq_getElem?_getD, List.getElem?_set]
  by_cases h : j = i
  · subst h
    rw [if_pos rfl, if_pos (by omega), if_pos rfl]
    rfl
  · rw [if_neg (by omega), if_neg h]
/-- Numbers that may be peaks. -/
theorem good_l0 (l : List Int) (hl : (l.length : Int) ≤ 140737488355328) : ∀ (d : Nat) (i : Int) (out : List Int), 0 ≤ i → (l.length : Int) - i = d → out.length = l.length →
    (∀ j : Int, 0 ≤ j → j < i → 0 ≤ rd out j ∧ rd out j ≤ 500000000000000) →
    ∃ r, Ev (fun k => pylonlaw18_good.l0 k l out (l.length : Int) i) r ∧ r.length = l.length ∧ okPeaks r := by
  intro d
  induction d with
  | zero =>
    intro i out i0 hd hlen hok
    refine ⟨out, Ev.shift ?_, hlen, fun j j0 j1 => hok j j0 (by omega)⟩
    simp only [pylonlaw18_good.l0, if_neg (show ¬ i < (l.length : Int) by omega)]
    exact Ev.now _
  | succ d ih =>
    intro i out i0 hd hlen hok
    have hv0 : 0 ≤ wrap64 (Int.tmod (IntKind.u64.wrap (rd l i)) 500000000000001) ∧ wrap64 (Int.tmod (IntKind.u64.wrap (rd l i)) 500000000000001) ≤ 500000000000000 := by
      rw [IntKind.wrap_u64, tmodn (by omega), i64in (by omega) (by omega)]
      omega
    have ei : wrap64 (i + 1) = i + 1 := i64in (by omega) (by omega)
    obtain ⟨r, hr, h1, h2⟩ := ih (i + 1) (out.set i.toNat (wrap64 (Int.tmod (IntKind.u64.wrap (rd l i)) 500000000000001))) (by omega) (by omega) (by rw [List.length_set]; exact hlen) (fun j j0 j1 => by
      rw [rd_set i0 (by omega) j0]
      split
      · exact hv0
      · exact hok j j0 (by omega))
    refine ⟨r, Ev.shift ?_, h1, h2⟩
    simp only [pylonlaw18_good.l0, if_pos (show i < (l.length : Int) by omega), if_pos i0, if_pos (show i < (out.length : Int) by omega)]
    rw [ei]
    exact hr
theorem good_f (l : List Int) (hl : l.length * 8 ≤ 140737488351232) : ∃ r, Ev (fun k => pylonlaw18_good.f k l) r ∧ r.length = l.length ∧ okPeaks r := by
  obtain ⟨r, hr, h1, h2⟩ := good_l0 l (by omega) l.length 0 (List.replicate l.length 0) (by omega) (by omega) (by simp) (fun j j0 j1 => by omega)
  refine ⟨r, ?_, h1, h2⟩
  unfold pylonlaw18_good.f
  simp only [if_pos (show (0 : Int) ≤ (l.length : Int) by omega), Int.toNat_natCast, if_pos (show l.length ≤ 35184372088832 by omega)]
  exact hr
theorem rd_drop {l : List Int} {s : Nat} {j : Int} (h : 0 ≤ j) : rd (l.drop s) j = rd l (j + s) := by
  unfold rd
  rw [List.getD_eq_getElem?_getD, List.getD_eq_getElem?_getD, List.getElem?_drop, show (j + (s : Int)).toNat = s + j.toNat by omega]
theorem rd_app {A B : List Int} {j : Int} (h : (A.length : Int) ≤ j) : rd (A ++ B) j = rd B (j - A.length) := by
  unfold rd
  rw [List.getD_eq_getElem?_getD, List.getD_eq_getElem?_getD, List.getElem?_append_right (by omega), show j.toNat - A.length = (j - (A.length : Int)).toNat by omega]
/-- What lies farther back never shows. -/
theorem bills_far {l A : List Int} {p m v : Int} {s : Nat} (hm : 0 ≤ m) (hs : (s : Int) = (l.length : Int) - 1 - m) (h : Bills l p m v) : Bills (A ++ l.drop s) p m v := by
  have key : ∀ i : Int, (A.length : Int) ≤ i → rd (A ++ l.drop s) i = rd l (i - A.length + s) := fun i hi => by rw [rd_app hi, rd_drop (by omega)]
  have hL : ((A ++ l.drop s).length : Int) = A.length + (l.length - s) := by rw [List.length_append, List.length_drop]; omega
  obtain ⟨h1, h2, h3⟩ := h
  have e1 : rd (A ++ l.drop s) ((A ++ l.drop s).length - 1) = rd l (l.length - 1) := by
    rw [hL, key _ (by omega), show (A.length : Int) + (l.length - s) - 1 - A.length + s = l.length - 1 by omega]
  refine ⟨by rw [e1]; exact h1, fun i i0 i1 i2 => ?_, ?_⟩
  · rw [hL] at i1 i2
    rw [key i (by omega)]
    exact h2 _ (by omega) (by omega) (by omega)
  · rcases h3 with e | ⟨i, i0, i1, i2, e⟩
    · exact .inl (by rw [e1]; exact e)
    · refine .inr ⟨i - s + A.length, by omega, by rw [hL]; omega, by rw [hL]; omega, ?_⟩
      rw [key _ (by omega), show i - (s : Int) + A.length - A.length + s = i by omega]
      exact e
theorem pct_p0 (x : Int) : pct x 0 = 0 := by unfold pct; rw [Int.mul_zero]; exact halfUp_zero (by omega)
theorem pct_all (x : Int) : pct x 100 = x := by unfold pct; exact halfUp_is (by omega) (by omega) (by omega)
theorem bills_p0 {l : List Int} {m v : Int} (hn : 0 < l.length) (hok : okPeaks l) (h : Bills l 0 m v) : v = rd l (l.length - 1) := by
  obtain ⟨h1, h2, h3⟩ := h
  rcases h3 with e | ⟨i, i0, i1, i2, e⟩
  · exact e
  · rw [pct_p0] at e
    have := hok ((l.length : Int) - 1) (by omega) (by omega)
    omega
theorem bills_m0 {l : List Int} {p v : Int} (h : Bills l p 0 v) : v = rd l (l.length - 1) := by
  obtain ⟨h1, h2, h3⟩ := h
  rcases h3 with e | ⟨i, i0, i1, i2, e⟩
  · exact e
  · omega
/-- With all of it: the greatest. -/
theorem bills_all {l : List Int} {v : Int} (hn : 0 < l.length) (hl : (l.length : Int) ≤ 37) (h : Bills l 100 36 v) : (∀ i : Int, 0 ≤ i → i < l.length → rd l i ≤ v) ∧ ∃ i : Int, 0 ≤ i ∧ i < l.length ∧ v = rd l i := by
  obtain ⟨h1, h2, h3⟩ := h
  refine ⟨fun i i0 i1 => ?_, ?_⟩
  · by_cases hi : i = (l.length : Int) - 1
    · rw [hi]; exact h1
    · have := h2 i i0 (by omega) (by omega)
      rwa [pct_all] at this
  · rcases h3 with e | ⟨i, i0, i1, i2, e⟩
    · exact ⟨(l.length : Int) - 1, by omega, by omega, e⟩
    · rw [pct_all] at e
      exact ⟨i, i0, by omega, e⟩
/-- The law's own loop. -/
theorem looks_l0 {l n : List Int} {a x last : Int} (hl : 0 < l.length) (hl2 : (l.length : Int) ≤ 140737488355328) (hn2 : (n.length : Int) ≤ 140737488355328) (hlast : last = rd l (l.length - 1))
    (hle : ∀ i : Int, 0 ≤ i → i < n.length → rd n i ≤ x) (hx0 : 0 ≤ x) (hex : ∃ i : Int, 0 ≤ i ∧ i < n.length ∧ x = rd n i) :
    ∀ (d : Nat) (i acc : Int), 0 ≤ i → (n.length : Int) - i = d → acc ≤ x → (∀ j : Int, 0 ≤ j → j < i → rd n j ≤ acc) →
    Ev (fun k => pylonlaw18_RatchetLooks.l0 k l n a a last last x acc (n.length : Int) i) true := by
  intro d
  induction d with
  | zero =>
    intro i acc i0 hd ha hj
    have hxa : x = acc := by
      obtain ⟨q, q0, q1, q2⟩ := hex
      have := hj q q0 (by omega)
      omega
    have e1 : wrap64 ((l.length : Int) - 1) = (l.length : Int) - 1 := i64in (by clear hex; omega) (by clear hex; omega)
    refine Ev.shift ?_
    simp only [pylonlaw18_RatchetLooks.l0, if_neg (show ¬ i < (n.length : Int) by clear hex; omega), e1, if_pos (show (0 : Int) ≤ (l.length : Int) - 1 by clear hex; omega), if_pos (show (l.length : Int) - 1 < (l.length : Int) by clear hex; omega), if_pos hlast, if_true]
    exact Ev.ofEq (by rw [hxa]; simp)
  | succ d ih =>
    intro i acc i0 hd ha hj
    have hi : i < (n.length : Int) := by clear hex; omega
    have ei : wrap64 (i + 1) = i + 1 := i64in (by clear hex; omega) (by clear hex; omega)
    have hr := hle i i0 hi
    have mb := mx_le (a := acc) (b := rd n i)
    have mi := mx_is (a := acc) (b := rd n i)
    refine Ev.shift ?_
    simp only [pylonlaw18_RatchetLooks.l0, if_pos hi, if_pos i0, ei]
    refine ih (i + 1) _ (by omega) (by clear hex; omega) (by clear hex; omega) (fun j j0 j1 => ?_)
    by_cases h : j = i
    · rw [h]; exact mb.2
    · have := hj j j0 (by omega)
      omega
theorem okPeaks_drop {l : List Int} {s : Nat} (h : okPeaks l) : okPeaks (l.drop s) := by
  intro i i0 i1
  rw [List.length_drop] at i1
  rw [rd_drop i0]
  exact h _ (by omega) (by omega)
theorem okPeaks_app {A B : List Int} (hA : okPeaks A) (hB : okPeaks B) : okPeaks (A ++ B) := by
  intro i i0 i1
  rw [List.length_append] at i1
  by_cases h : (A.length : Int) ≤ i
  · rw [rd_app h]
    exact hB _ (by omega) (by omega)
  · have e : rd (A ++ B) i = rd A i := by
      unfold rd
      rw [List.getD_eq_getElem?_getD, List.getD_eq_getElem?_getD, List.getElem?_append_left (by omega)]
    rw [e]
    exact hA i i0 (by omega)
/-- Billed of good peaks. -/
theorem billed_good {l : List Int} {p m : Int} (hlen : (l.length : Int) ≤ 140737488355328) (hne : 0 < l.length) (hok : okPeaks l) (hp : 0 ≤ p ∧ p ≤ 100) (hm : 0 ≤ m ∧ m ≤ 36) :
    ∃ v, Ev (fun k => ratchet_Billed.f k l p m) (v, 0) ∧ Bills l p m v := by
  obtain ⟨⟨v, e⟩, h1, h2⟩ := billed_f (l := l) (p := p) (m := m) hlen
  obtain ⟨he, hB⟩ := h2.2.2 ⟨hne, hp.1, hp.2, hm.1, hm.2⟩ hok
  have he' : e = 0 := he
  subst he'
  exact ⟨v, h1, hB⟩
theorem RatchetLooks : pylonlaw18_RatchetLooks.Pure := by
  intro l0 l1 a2 a3 _ hl _ _ hl1 _ _ _
  refine ev_ex (r := true) ?_
  obtain ⟨l, hg, hlen, hok⟩ := good_f l0 hl
  obtain ⟨A, hgA, hlenA, hokA⟩ := good_f l1 hl1
  obtain ⟨p, hpe⟩ : ∃ p, p = wrap64 (Int.tmod (IntKind.u64.wrap (a2)) 101) := ⟨_, rfl⟩
  obtain ⟨m, hme⟩ : ∃ m, m = wrap64 (Int.tmod (IntKind.u64.wrap (a3)) 37) := ⟨_, rfl⟩
  have hp0 : 0 ≤ p ∧ p ≤ 100 := by rw [hpe, IntKind.wrap_u64, tmodn (by omega), i64in (by omega) (by omega)]; omega
  have hm0 : 0 ≤ m ∧ m ≤ 36 := by rw [hme, IntKind.wrap_u64, tmodn (by omega), i64in (by omega) (by omega)]; omega
  unfold pylonlaw18_RatchetLooks.f
  refine ev_bind awake_ev ?_
  simp only [if_true]
  refine ev_bind hg ?_
  rw [← hpe, ← hme]
  clear hpe hme
  by_cases hne : (l.length : Int) = 0
  · simp only [if_pos hne]
    exact Ev.now _
  simp only [if_neg hne]
  refine ev_bind hgA ?_
  obtain ⟨s, hs⟩ : ∃ s : Nat, (s : Int) = mx ((l.length : Int) - 1 - m) 0 := ⟨(mx ((l.length : Int) - 1 - m) 0).toNat, by have := mx_le (a := (l.length : Int) - 1 - m) (b := 0); omega⟩
  have hs2 : ((s : Int) = (l.length : Int) - 1 - m ∧ 0 ≤ (l.length : Int) - 1 - m) ∨ (s = 0 ∧ (l.length : Int) - 1 - m ≤ 0) := by
    have h1 := mx_is (a := (l.length : Int) - 1 - m) (b := 0)
    have h2 := mx_le (a := (l.length : Int) - 1 - m) (b := 0)
    omega
  have e1 : wrap64 ((l.length : Int) - 1) = (l.length : Int) - 1 := i64in (by omega) (by omega)
  have e2 : wrap64 ((l.length : Int) - 1 - m) = (l.length : Int) - 1 - m := i64in (by omega) (by omega)
  have hnl : (l.drop s).length = l.length - s := List.length_drop ..
  have hnk := okPeaks_drop (s := s) hok
  have hfar := fun v => bills_far (l := l) (A := A) (p := p) (m := m) (v := v) (s := s) hm0.1
  have e3 : wrap64 (((l.drop s).length : Int) - 1) = ((l.drop s).length : Int) - 1 := i64in (by omega) (by omega)
  rw [e1, e2, ← hs]
  simp only [if_pos (show (0 : Int) ≤ (s : Int) by omega), if_pos (show (s : Int) ≤ (l.length : Int) by omega), Option.bind_some, Int.toNat_natCast, List.nil_append, List.length_nil, e3]
  have hdrop0 : s = 0 → l.drop s = l := fun h => by rw [h, List.drop_zero]
  generalize l.drop s = n at *
  simp only [if_pos (show A.length + n.length < 17592186044416 by omega), if_pos (show 0 + n.length < 17592186044416 by omega)]
  obtain ⟨a, ha, hBa⟩ := billed_good (l := l) (p := p) (m := m) (by omega) (by omega) hok hp0 hm0
  obtain ⟨c, hc, hBc⟩ := billed_good (l := l) (p := 0) (m := m) (by omega) (by omega) hok (by omega) hm0
  obtain ⟨d, hd, hBd⟩ := billed_good (l := l) (p := p) (m := 0) (by omega) (by omega) hok hp0 (by omega)
  obtain ⟨x, hx, hBx⟩ := billed_good (l := n) (p := 100) (m := 36) (by omega) (by omega) hnk (by omega) (by omega)
  have ec := bills_p0 (by omega) hok hBc
  have ed := bills_m0 hBd
  obtain ⟨hle, hex⟩ := bills_all (by omega) (by omega) hBx
  have hx0 : 0 ≤ x := by
    obtain ⟨i, i0, i1, i2⟩ := hex
    have := hnk i i0 i1
    omega
  have fin := looks_l0 (l := l) (n := n) (a := a) (x := x) (last := c) (by clear hex; omega) (by clear hex; omega) (by clear hex; omega) ec hle hx0 hex n.length 0 0 (by omega) (by omega) hx0 (fun j j0 j1 => by omega)
  rw [← ec] at ed
  subst ed
  clear hle hex ec
  by_cases hb : (n.length : Int) - 1 < m
  · simp only [if_pos hb]
    have en := hdrop0 (by omega)
    subst en
    refine ev_bind ha (ev_bind ha (ev_bind hc (ev_bind hd (ev_bind hx ?_))))
    simp only [if_true, bne_self_eq_false]
    refine Ev.shift ?_
    simp only [pylonlaw18_RatchetLooks.j0, Bool.false_eq_true, if_false]
    exact fin
  · simp only [if_neg hb]
    obtain ⟨b, hb2, hBb⟩ := billed_good (l := A ++ n) (p := p) (m := m) (by rw [List.length_append]; omega) (by rw [List.length_append]; omega) (okPeaks_app hokA hnk) hp0 hm0
    have eb := hBb.unique (hfar a (by omega) hBa)
    subst eb
    refine ev_bind ha (ev_bind hb2 (ev_bind hc (ev_bind hd (ev_bind hx ?_))))
    simp only [if_true, bne_self_eq_false]
    refine Ev.shift ?_
    simp only [pylonlaw18_RatchetLooks.j2, Bool.false_eq_true, if_false]
    exact fin
end Go.Proofs.Ytbjkjakilpifhaa.Pure
