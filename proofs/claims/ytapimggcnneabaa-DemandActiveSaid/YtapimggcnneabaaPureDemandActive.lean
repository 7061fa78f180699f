/- DemandActive holds: without reactive energy the power of a window is what flowed in, for an hour. -/
import Derived.Test.YtapimggcnneabaaDemandGDA
import Derived.Test.YtapimggcnneabaaDemandPVDA
import Derived.Test.YtapimggcnneabaaPDAx5
import Derived.Test.YtapimggcnneabaaPDAx6
set_option linter.unusedVariables false
set_option linter.unusedSimpArgs false
namespace Go.Proofs.Ytapimggcnneabaa.Pure
open Go.RowKit Go.Proofs.Ytapimggcnneabaa.PDA Go.Proofs.Ytapimggcnneabaa.PureDA Go.Proofs.Ytapimggcnneabaa.Num Go.Proofs.Ytapimggcnneabaa.Flt Go.Proofs.YtapimggcnneabaaW.PrintWords Go.Proofs.YtapimggcnneabaaW.PrintLast Go.Proofs.YtapimggcnneabaaW.PrintMore

theorem wfu16 {x : Int} (h : (Lit.int .u16 x).wf = true) : 0 ≤ x ∧ x ≤ 65535 := by
  simpa [Lit.wf, IntKind.min, IntKind.max, IntKind.bits, IntKind.signed] using h
/-- A point without reactive energy. -/
def Act (z : Cx) : Prop := GoodC 10000000000 z ∧ 0 ≤ val z.re ∧ val z.im = 0
def cv (a : Int) : Cx := cx (floatOfInt .f64 a) 0
theorem act_cv {a : Int} (h0 : 0 ≤ a) (h1 : a ≤ 65535) : Act (cv a) ∧ Bits (cv a) := by
  have i1 := of_int (n := a) (by omega)
  refine ⟨⟨⟨a, 0, ⟨i1, by omega⟩, is_zero, by decide⟩, ?_, val_of is_zero⟩, fint_lt _, show 0 < 18446744073709551616 by decide⟩
  show 0 ≤ val (floatOfInt .f64 a)
  rw [val_of i1]
  exact h0
theorem sums_l0 {y : List Cx} (hl : y.length ≤ 4) (hg : ∀ z ∈ y, Act z) : ∀ (d : Nat) (i I O A B : Int), 0 ≤ i → (y.length : Int) - i = d → 0 ≤ I → I ≤ 10000000000 * i → O = 0 → 0 ≤ A → A ≤ 10000000000 * i → B = 0 → I + sA (y.drop i.toNat) = sA y →
    ∃ a b, Ev (fun k => pylonref12_sums.l0 k y I O (y.length : Int) i A B) (a, b, sA y, 0, 0) := by
  intro d
  induction d with
  | zero =>
    intro i I O A B i0 hd I0 I1 hO A0 A1 hB e
    rw [drop_end (by omega), show sA [] = 0 from rfl, Int.add_zero] at e
    refine ⟨A, B, Ev.shift ?_⟩
    simp only [pylonref12_sums.l0, if_neg (show ¬ i < (y.length : Int) by omega)]
    rw [e, hO]
    exact Ev.now _
  | succ d ih =>
    intro i I O A B i0 hd I0 I1 hO A0 A1 hB e
    have hi : i < (y.length : Int) := by omega
    have e1 := drop_cons (cx 0 0) i0 hi
    have ei : wrap64 (i + 1) = i + 1 := i64in (by omega) (by omega)
    have hz : rdOf (cx 0 0) y i ∈ y := List.mem_of_mem_drop (i := i.toNat) (by rw [e1]; exact List.mem_cons_self)
    obtain ⟨g, p0, q0⟩ := hg _ hz
    have s := g.small.1.2
    have hf := rfits_yes g
    rw [e1, sA_cons] at e
    generalize hzd : rdOf (cx 0 0) y i = z at *
    generalize hP : val z.re = P at *
    generalize hQ : val z.im = Q at *
    have m1 : mx P 0 = P := by unfold mx; split <;> omega
    have m2 : mx (wrap64 (-P)) 0 = 0 := by rw [i64in (by omega) (by omega)]; unfold mx; split <;> omega
    obtain ⟨a, b, hh⟩ := ih (i + 1) (I + P) (O + 0) (A + P) (B + Q) (by omega) (by omega) (by omega) (by omega) (by omega) (by omega) (by omega) (by omega) (by omega)
    refine ⟨a, b, Ev.shift ?_⟩
    simp only [pylonref12_sums.l0, if_pos hi, if_pos i0, ei, hzd, hf, Option.bind_some, if_true, m1, m2]
    rw [i64in (x := I + P) (by omega) (by omega), i64in (x := O + 0) (by omega) (by omega), i64in (x := A + P) (by omega) (by omega), i64in (x := B + Q) (by omega) (by omega)]
    exact hh
theorem energy_f {y : List Cx} (hl : y.length ≤ 4) (hg : ∀ z ∈ y, Act z) : Ev (fun k => pylonref12_Energy.f k y) (sA y, 0, 0) := by
  obtain ⟨a, b, h⟩ := sums_l0 hl hg y.length 0 0 0 0 0 (by omega) (by omega) (by omega) (by omega) rfl (by omega) (by omega) rfl (by simp)
  unfold pylonref12_Energy.f pylonref12_sums.f
  simp only [if_neg (show ¬ (y.length : Int) > 40000 by omega)]
  exact ev_bind h (Ev.now _)
theorem act_sums {y : List Cx} (hg : ∀ z ∈ y, Act z) : 0 ≤ sA y ∧ sA y ≤ 10000000000 * y.length ∧ sB y = 0 := by
  induction y with
  | nil => exact ⟨Int.le_refl _, by decide, rfl⟩
  | cons z y ih =>
    obtain ⟨a, b, c⟩ := ih (fun w hw => hg w (List.mem_cons_of_mem _ hw))
    obtain ⟨g, p0, q0⟩ := hg z List.mem_cons_self
    have s := g.small.1.2
    rw [sA_cons, sB_cons]
    simp only [List.length_cons]
    refine ⟨by omega, by omega, by omega⟩
theorem active_pw {A m : Int} (hm : Len m) (h0 : 0 ≤ A) (h1 : A ≤ 40000000000) : wrap64 (Int.tdiv (wrap64 (A * 60)) m) = pw A 0 m := by
  have e : isq (A * A + 0 * 0) = A := (isq_is (by have := sq_nonneg A; omega)).uniq ⟨h0, by omega, by
    have e : (A + 1) * (A + 1) = A * A + 2 * A + 1 := by grind
    rw [e]; omega⟩
  unfold pw
  rw [if_neg (by omega), e, i64in (x := A * 60) (by omega) (by omega), Int.tdiv_eq_ediv_of_nonneg (by omega)]
  rcases hm with rfl | rfl | rfl
  · rw [i64in (by omega) (by omega)]; show A * 60 / 15 = A * 4; omega
  · rw [i64in (by omega) (by omega)]; show A * 60 / 30 = A * 2; omega
  · rw [i64in (by omega) (by omega)]; show A * 60 / 60 = A * 1; omega
theorem act_l1 {x : List Cx} {ws : List S90} {t0 st mi f t got : Int} (hm : Len (mx st mi)) (f0 : 0 ≤ f) (ht : t ≤ (x.length : Int)) (hw : InW ws f t) (hg : ∀ z ∈ x, Act z) (hl : ws.length ≤ 40000) :
    ∀ (d : Nat) (i p : Int), 0 ≤ i → (ws.length : Int) - i = d → got = pkOf x (mx st mi) p (ws.drop i.toNat) → Ev (fun k => pylonlaw16_DemandActive.l1 k (x.length : Int) x ws 0 got 0 p (ws.length : Int) i t0 st mi f t) true := by
  intro d
  induction d with
  | zero =>
    intro i p i0 hd e
    rw [drop_end (by omega)] at e
    refine Ev.shift ?_
    simp only [pylonlaw16_DemandActive.l1, if_neg (show ¬ i < (ws.length : Int) by omega), if_true]
    rw [e]
    exact Ev.ofEq (by simp [pkOf])
  | succ d ih =>
    intro i p i0 hd e
    have hi : i < (ws.length : Int) := by omega
    have e1 := drop90 i0 hi
    have ei : wrap64 (i + 1) = i + 1 := i64in (by omega) (by omega)
    have hz : rd_T90 ws i ∈ ws := List.mem_of_mem_drop (i := i.toNat) (by rw [e1]; exact List.mem_cons_self)
    obtain ⟨w1, w2, w3, w4⟩ := hw _ hz
    rw [e1] at e
    generalize hwd : rd_T90 ws i = w at *
    have hs := seg_len (x := x) (a := w.f0) (b := w.f1) (by omega) w2 (by omega)
    have hgs : ∀ z ∈ seg x w.f0 w.f1, Act z := fun z h => hg z (List.mem_of_mem_take (List.mem_of_mem_drop h))
    obtain ⟨s0, s1, s2⟩ := act_sums hgs
    have hp := active_pw (A := sA (seg x w.f0 w.f1)) hm s0 (by omega)
    have nx := ih (i + 1) (mx p (pw (sA (seg x w.f0 w.f1)) (sB (seg x w.f0 w.f1)) (mx st mi))) (by omega) (by omega) e
    have hm0 : ¬ mx st mi = 0 := by rcases hm with h | h | h <;> omega
    refine Ev.shift ?_
    simp only [pylonlaw16_DemandActive.l1, if_pos hi, if_pos i0, hwd, if_neg (show ¬ w.f0 < 0 by omega), if_neg (show ¬ w.f1 > (x.length : Int) by omega), if_neg (show ¬ w.f0 > w.f1 by omega), if_pos (show 0 ≤ w.f0 by omega), if_pos w2, if_pos (show w.f1 ≤ (x.length : Int) by omega), if_neg hm0, ei]
    refine ev_bind (energy_f (y := seg x w.f0 w.f1) (by omega) hgs) ?_
    rw [hp]
    rw [s2] at nx
    exact nx
theorem set_at {l : List Int} {n : Nat} (hn : n ≤ l.length) {i : Int} (i0 : 0 ≤ i) {d : Nat} (hd : (n : Int) - i = (d + 1 : Nat)) :
    ((l.take i.toNat).map cv ++ List.replicate (d + 1) (cx 0 0)).set i.toNat (cx (floatOfInt .f64 (rd l i)) 0) = (l.take (i + 1).toNat).map cv ++ List.replicate d (cx 0 0) := by
  have hlen : ((l.take i.toNat).map cv).length = i.toNat := by rw [List.length_map, List.length_take]; omega
  have := set_mid ((l.take i.toNat).map cv) (cx 0 0) (cv (rd l i)) d
  rw [hlen] at this
  show _ = _
  rw [show cx (floatOfInt .f64 (rd l i)) 0 = cv (rd l i) from rfl, this, show (i + 1).toNat = i.toNat + 1 by omega, List.take_add_one]
  have hg : l[i.toNat]? = some (rd l i) := by
    unfold rd
    rw [List.getD_eq_getElem?_getD, List.getElem?_eq_getElem (show i.toNat < l.length by omega)]
    rfl
  rw [hg]
  simp
theorem act_l0 {l : List Int} {n : Nat} (hn : n ≤ l.length) (hn4 : n ≤ 400) {a0 a1 a2 a3 a4 : Int}
    (hK : Ev (fun k => (pylonlaw16_good.f a0 a1 a2 a3 a4 (n : Int)).bind fun bt333 => ((demand_Whole.f k bt333.1 bt333.2.1 bt333.2.2.1 bt333.2.2.2.1 bt333.2.2.2.2).bind fun bt338 => ((demand_Peak.f k ((l.take n).map cv) bt333.1 bt333.2.1 bt333.2.2.1 bt333.2.2.2.1 bt333.2.2.2.2).bind fun bt342 => (pylonlaw16_DemandActive.l1 k (n : Int) ((l.take n).map cv) bt338.1 bt338.2 bt342.1 bt342.2 0 (bt338.1.length : Int) 0 bt333.1 bt333.2.1 bt333.2.2.1 bt333.2.2.2.1 bt333.2.2.2.2)))) true) :
    ∀ (d : Nat) (i : Int), 0 ≤ i → (n : Int) - i = d → Ev (fun k => pylonlaw16_DemandActive.l0 k l (n : Int) ((l.take i.toNat).map cv ++ List.replicate d (cx 0 0)) (n : Int) i a0 a1 a2 a3 a4) true := by
  intro d
  induction d with
  | zero =>
    intro i i0 hd
    have e : i.toNat = n := by omega
    refine Ev.shift ?_
    simp only [pylonlaw16_DemandActive.l0, if_neg (show ¬ i < (n : Int) by omega), e, List.replicate_zero, List.append_nil]
    exact hK
  | succ d ih =>
    intro i i0 hd
    have ei : wrap64 (i + 1) = i + 1 := i64in (by omega) (by omega)
    have hlen : ((l.take i.toNat).map cv).length = i.toNat := by rw [List.length_map, List.length_take]; omega
    have hi2 : i < ((((l.take i.toNat).map cv ++ List.replicate (d + 1) (cx 0 0)).length : Nat) : Int) := by
      rw [List.length_append, hlen, List.length_replicate]; omega
    have := ih (i + 1) (by omega) (by omega)
    refine Ev.shift ?_
    simp only [pylonlaw16_DemandActive.l0, if_pos (show i < (n : Int) by omega), if_pos i0, if_pos (show i < (l.length : Int) by omega), if_pos hi2, ei]
    rw [← set_at hn i0 hd] at this
    exact this
theorem DemandActive : pylonlaw16_DemandActive.Pure := by
  intro l a0 a1 a2 a3 a4 hl _ _ _ _ _
  refine ev_ex (r := true) ?_
  have hmn : ∃ n : Nat, mn (l.length : Int) 400 = (n : Int) ∧ n ≤ l.length ∧ n ≤ 400 := by
    by_cases h : l.length ≤ 400
    · exact ⟨l.length, by unfold mn; split <;> omega, by omega, h⟩
    · exact ⟨400, by unfold mn; split <;> omega, by omega, by omega⟩
  obtain ⟨n, en, n1, n2⟩ := hmn
  have hx : ∀ z ∈ (l.take n).map cv, Act z ∧ Bits z := by
    intro z hz
    obtain ⟨a, ha, rfl⟩ := List.mem_map.mp hz
    have := wfu16 (hl.2 a (List.mem_of_mem_take ha))
    exact act_cv this.1 this.2
  have hxl : (((l.take n).map cv).length : Int) = n := by rw [List.length_map, List.length_take]; omega
  unfold pylonlaw16_DemandActive.f
  refine ev_bind awake_ev ?_
  simp only [if_true, en, if_pos (show (0 : Int) ≤ (n : Int) by omega), Int.toNat_natCast, if_pos (show n ≤ 17592186044416 by omega)]
  have := act_l0 (l := l) n1 n2 (a0 := a0) (a1 := a1) (a2 := a2) (a3 := a3) (a4 := a4) ?_ n 0 (by omega) (by omega)
  · simpa using this
  obtain ⟨t0, st, mi, f, t, e, h, ht⟩ := good_f a0 a1 a2 a3 a4 (m := (n : Int)) (by omega) (by omega)
  simp only [e, Option.bind_some]
  refine ev_bind (whole_f _ _ _ _ _ h) (ev_bind (peak_f (fun z hz => (hx z hz).2) _ _ _ _ _) ?_)
  have hpk : peakA ((l.take n).map cv) t0 st mi f t = (pkOf ((l.take n).map cv) (mx st mi) 0 (theWins t0 st mi f t), 0) := by
    unfold peakA
    have hgd : ∀ z ∈ seg ((l.take n).map cv) f t, GoodC 10000000000 z := fun z hz => (hx z (List.mem_of_mem_take (List.mem_of_mem_drop hz))).1.1
    rw [if_pos h, if_pos (by omega), if_pos hgd]
  rw [hpk, ← hxl]
  exact act_l1 (mx_is h.1 h.2.1).2 h.2.2.2.2.2.1 (by omega) (theWins_in h) (fun z hz => (hx z hz).1) (theWins_len h) (theWins t0 st mi f t).length 0 0 (by omega) (by omega) rfl
end Go.Proofs.Ytapimggcnneabaa.Pure
