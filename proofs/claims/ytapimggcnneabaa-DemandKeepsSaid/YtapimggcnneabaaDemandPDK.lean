/- Package demand: the greatest power of the whole windows. -/
import Derived.Test.YtapimggcnneabaaDemandWDK
import Derived.Test.YtapimggcnneabaaPDKx6
set_option linter.unusedVariables false
set_option linter.unusedSimpArgs false
namespace Go.Proofs.Ytapimggcnneabaa.PureDK
open Go.RowKit Go.Proofs.Ytapimggcnneabaa.PDK Go.Proofs.Ytapimggcnneabaa.Num Go.Proofs.Ytapimggcnneabaa.Flt Go.Proofs.YtapimggcnneabaaW.PrintWords Go.Proofs.YtapimggcnneabaaW.PrintLast Go.Proofs.YtapimggcnneabaaW.PrintMore
theorem set_mid {α : Type} (A : List α) (z v : α) (m : Nat) : (A ++ List.replicate (m + 1) z).set A.length v = (A ++ [v]) ++ List.replicate m z := by
  rw [List.set_append_right _ _ (Nat.le_refl _), Nat.sub_self, List.replicate_succ]
  simp

theorem is_1e10 : Is 4756540486875873280 ((10000000000 : Nat) : Int) := is_const (by decide) (by decide +kernel)
theorem mwhole_yes {x : Nat} {n : Int} (hx : x < 18446744073709551616) (h : Is x n) (hn : n.natAbs ≤ 10000000000) : meter_whole.f x = some true := by
  obtain ⟨h1, h2⟩ := whole_iff (x := x) (M := 10000000000) (by decide) is_1e10
  obtain ⟨a, b⟩ := h2.2 ⟨n, h, hn⟩
  unfold meter_whole.f math_Abs.f math_Trunc.f
  rw [abs_bits x hx]
  simp only [Option.bind_some, a, if_true, h1 a, b]
theorem mwhole_no {x : Nat} (hx : x < 18446744073709551616) (h : ¬ ∃ n, Is x n ∧ n.natAbs ≤ 10000000000) : meter_whole.f x = some false := by
  obtain ⟨h1, h2⟩ := whole_iff (x := x) (M := 10000000000) (by decide) is_1e10
  unfold meter_whole.f math_Abs.f math_Trunc.f
  rw [abs_bits x hx]
  simp only [Option.bind_some]
  by_cases a : fle (x % 9223372036854775808) 4756540486875873280 = true
  · rw [if_pos a, if_pos (h1 a), Option.bind_some]
    have : feq (ftrunc x) x = false := by
      cases c : feq (ftrunc x) x
      · rfl
      · exact (h (h2.1 ⟨a, c⟩)).elim
    rw [this]
  · rw [if_neg a]
theorem mfits_yes {z : Cx} (hb : Bits z) (h : GoodC 10000000000 z) : meter_Fits.f z = some true := by
  obtain ⟨A, B, s⟩ := h
  unfold meter_Fits.f
  rw [mwhole_yes hb.1 s.1.1 s.1.2, mwhole_yes hb.2 s.2.1 s.2.2]
  rfl
theorem mfits_no {z : Cx} (hb : Bits z) (h : ¬ GoodC 10000000000 z) : meter_Fits.f z = some false := by
  unfold meter_Fits.f
  by_cases a : ∃ n, Is z.re n ∧ n.natAbs ≤ 10000000000
  · obtain ⟨n, a, b⟩ := a
    rw [mwhole_yes hb.1 a b, mwhole_no hb.2 (fun ⟨m, c, d⟩ => h ⟨n, m, ⟨a, b⟩, c, d⟩)]
    rfl
  · rw [mwhole_no hb.1 a]
    rfl
/-! ### Segments, their sums -/
def seg (x : List Cx) (a b : Int) : List Cx := (x.take b.toNat).drop a.toNat
noncomputable def sA (l : List Cx) : Int := (l.map fun z => val z.re).sum
noncomputable def sB (l : List Cx) : Int := (l.map fun z => val z.im).sum
theorem sA_cons (z : Cx) (xs : List Cx) : sA (z :: xs) = val z.re + sA xs := by simp [sA]
theorem sB_cons (z : Cx) (xs : List Cx) : sB (z :: xs) = val z.im + sB xs := by simp [sB]
theorem seg_mem {x : List Cx} {a b f t : Int} {z : Cx} (h0 : 0 ≤ f) (h1 : f ≤ a) (h2 : b ≤ t) (h : z ∈ seg x a b) : z ∈ seg x f t := by
  unfold seg at *
  rw [List.mem_iff_getElem?] at *
  obtain ⟨i, h⟩ := h
  rw [List.getElem?_drop, List.getElem?_take] at h
  by_cases g : a.toNat + i < b.toNat
  · rw [if_pos g] at h
    refine ⟨a.toNat + i - f.toNat, ?_⟩
    rw [List.getElem?_drop, List.getElem?_take, show f.toNat + (a.toNat + i - f.toNat) = a.toNat + i by omega, if_pos (by omega)]
    exact h
  · rw [if_neg g] at h
    cases h
theorem seg_len {x : List Cx} {a b : Int} (h0 : 0 ≤ a) (h1 : a ≤ b) (h2 : b ≤ (x.length : Int)) : ((seg x a b).length : Int) = b - a := by
  unfold seg
  rw [List.length_drop, List.length_take]
  omega
theorem seg_cons {x : List Cx} {a b : Int} (h0 : 0 ≤ a) (h1 : a < b) (h2 : b ≤ (x.length : Int)) : seg x a b = rdOf (cx 0 0) x a :: seg x (a + 1) b := by
  unfold seg
  have h : a.toNat < (x.take b.toNat).length := by rw [List.length_take]; omega
  rw [List.drop_eq_getElem_cons h, show (a + 1).toNat = a.toNat + 1 by omega, List.getElem_take]
  congr 1
  unfold rdOf
  rw [List.getD_eq_getElem?_getD, List.getElem?_eq_getElem (show a.toNat < x.length by omega)]
  rfl
theorem seg_nil {x : List Cx} {a b : Int} (h0 : b ≤ a) : seg x a b = [] := by
  unfold seg
  refine List.drop_eq_nil_of_le ?_
  rw [List.length_take]
  omega
/-- The greatest power, from p on. -/
noncomputable def pkOf (x : List Cx) (m : Int) : Int → List S90 → Int
  | p, [] => p
  | p, w :: ws => pkOf x m (mx p (pw (sA (seg x w.f0 w.f1)) (sB (seg x w.f0 w.f1)) m)) ws
theorem drop90 {ws : List S90} {i : Int} (h0 : 0 ≤ i) (h1 : i < (ws.length : Int)) : ws.drop i.toNat = rd_T90 ws i :: ws.drop (i + 1).toNat := by
  have h : i.toNat < ws.length := by omega
  rw [List.drop_eq_getElem_cons h, show (i + 1).toNat = i.toNat + 1 by omega]
  unfold rd_T90
  rw [List.getD_eq_getElem?_getD, List.getElem?_eq_getElem h]
  rfl
/-- Windows that lie in f .. t. -/
def InW (ws : List S90) (f t : Int) : Prop := ∀ w ∈ ws, f ≤ w.f0 ∧ w.f0 ≤ w.f1 ∧ w.f1 ≤ t ∧ w.f1 - w.f0 ≤ 4
theorem wins_mem {n : Int} (hn : 0 ≤ n) {w : S90} : ∀ (c : Nat) (s : Int), w ∈ wins c s n → s ≤ w.f0 ∧ w.f1 = w.f0 + n ∧ w.f1 ≤ s + c * n := by
  intro c
  induction c with
  | zero => intro s h; cases h
  | succ c ih =>
    intro s h
    have e : ((c + 1 : Nat) : Int) * n = c * n + n := by rw [Int.natCast_add, Int.add_mul]; simp
    have hc : 0 ≤ (c : Int) * n := Int.mul_nonneg (by omega) hn
    rw [e]
    rcases List.mem_cons.mp h with rfl | h
    · exact ⟨Int.le_refl _, rfl, by simp only; omega⟩
    · have := ih _ h
      omega
theorem theWins_in {t0 st mi f t : Int} (h : OkW t0 st mi f t) : InW (theWins t0 st mi f t) f t := by
  intro w hw
  have hn := nn_is h.1 h.2.1
  have h6 := h.2.2.2.2.2.1
  have h8 := h.2.2.2.2.2.2.2
  have hl := cnt_le (q := t0 / (60 * st)) hn h6 h8
  unfold theWins at hw
  generalize nn st mi = n at *
  generalize fst (t0 / (60 * st)) f n = s at *
  have hm := wins_mem (by omega) _ _ hw
  have hc : cnt s n t = 0 ∨ s + (cnt s n t) * n ≤ t := by unfold cnt; rcases hn with rfl | rfl | rfl <;> omega
  rcases hc with hc | hc
  · rw [hc] at hw
    cases hw
  · omega

section
variable {x : List Cx} {st mi : Int} {ws : List S90} {R : Int × Int}
theorem pk_l2 {p L i0 : Int} {y : List Cx} (hm : Len (mx st mi)) (hy : y.length ≤ 4) (hg : ∀ z ∈ y, GoodC 10000000000 z)
    (hK : Ev (fun k => demand_Peak.l1 k x st mi (mx p (pw (sA y) (sB y) (mx st mi))) ws L (wrap64 (i0 + 1))) R) :
    ∀ (d : Nat) (i : Int) (s : Cx) (A B : Int), 0 ≤ i → (y.length : Int) - i = d → Is s.re A → Is s.im B → Bits s → A.natAbs ≤ 10000000000 * i.toNat → B.natAbs ≤ 10000000000 * i.toNat →
      A + sA (y.drop i.toNat) = sA y → B + sB (y.drop i.toNat) = sB y → Ev (fun k => demand_Peak.l2 k x st mi p s ws L i0 y (y.length : Int) i) R := by
  intro d
  induction d with
  | zero =>
    intro i s A B i0' hd hA hB hb a b eA eB
    rw [drop_end (by omega)] at eA eB
    have eA : A = sA y := by rw [← eA, show sA [] = 0 from rfl, Int.add_zero]
    have eB : B = sB y := by rw [← eB, show sB [] = 0 from rfl, Int.add_zero]
    have sm : Small 40000000000 s A B := ⟨⟨hA, by omega⟩, hB, by omega⟩
    refine Ev.shift ?_
    simp only [demand_Peak.l2, if_neg (show ¬ i < (y.length : Int) by omega)]
    refine ev_bind (power_ok hb sm hm) ?_
    rw [eA, eB]
    exact hK
  | succ d ih =>
    intro i s A B i0' hd hA hB hb a b eA eB
    have hi : i < (y.length : Int) := by omega
    have e := drop_cons (cx 0 0) i0' hi
    have ei : wrap64 (i + 1) = i + 1 := i64in (by omega) (by omega)
    have hz : rdOf (cx 0 0) y i ∈ y := List.mem_of_mem_drop (i := i.toNat) (by rw [e]; exact List.mem_cons_self)
    obtain ⟨⟨q1, q2⟩, q3, q4⟩ := (hg _ hz).small
    rw [e, sA_cons] at eA
    rw [e, sB_cons] at eB
    generalize hzd : rdOf (cx 0 0) y i = z at *
    generalize hP : val z.re = P at *
    generalize hQ : val z.im = Q at *
    have hn : (i + 1).toNat = i.toNat + 1 := by omega
    obtain ⟨ok, r1, r2⟩ := cadd_is hA hB q1 q3 (by omega) (by omega)
    have := ih (i + 1) (cx (caddre s.re s.im z.re z.im) (caddim s.re s.im z.re z.im)) (A + P) (B + Q) (by omega) (by omega) r1 r2 (cadd_lt _ _ _ _) (by omega) (by omega) (by omega) (by omega)
    refine Ev.shift ?_
    simp only [demand_Peak.l2, if_pos hi, if_pos i0', ei, hzd, ok, if_true]
    exact this
theorem pk_l1 {f t : Int} (hm : Len (mx st mi)) (f0 : 0 ≤ f) (ht : t ≤ (x.length : Int)) (hw : InW ws f t) (hg : ∀ z ∈ seg x f t, GoodC 10000000000 z) (hl : ws.length ≤ 40000) :
    ∀ (d : Nat) (i p : Int), 0 ≤ i → (ws.length : Int) - i = d → Ev (fun k => demand_Peak.l1 k x st mi p ws (ws.length : Int) i) (pkOf x (mx st mi) p (ws.drop i.toNat), 0) := by
  intro d
  induction d with
  | zero =>
    intro i p i0 hd
    refine Ev.shift ?_
    simp only [demand_Peak.l1, if_neg (show ¬ i < (ws.length : Int) by omega)]
    rw [drop_end (by omega)]
    exact Ev.now _
  | succ d ih =>
    intro i p i0 hd
    have hi : i < (ws.length : Int) := by omega
    have e := drop90 i0 hi
    have ei : wrap64 (i + 1) = i + 1 := i64in (by omega) (by omega)
    have hz : rd_T90 ws i ∈ ws := List.mem_of_mem_drop (i := i.toNat) (by rw [e]; exact List.mem_cons_self)
    obtain ⟨w1, w2, w3, w4⟩ := hw _ hz
    rw [e]
    generalize hwd : rd_T90 ws i = w at *
    have hs := seg_len (x := x) (a := w.f0) (b := w.f1) (by omega) w2 (by omega)
    have hgs : ∀ z ∈ seg x w.f0 w.f1, GoodC 10000000000 z := fun z h => hg z (seg_mem f0 w1 w3 h)
    have i1 := ih (i + 1) (mx p (pw (sA (seg x w.f0 w.f1)) (sB (seg x w.f0 w.f1)) (mx st mi))) (by omega) (by omega)
    rw [← ei] at i1
    have := pk_l2 (x := x) (st := st) (mi := mi) (ws := ws) (p := p) (L := (ws.length : Int)) (i0 := i) hm (by omega) hgs i1 (seg x w.f0 w.f1).length 0 (cx 0 0) 0 0 (by omega) (by omega) is_zero is_zero ⟨by decide, by decide⟩ (by simp) (by simp) (by simp) (by simp)
    refine Ev.shift ?_
    simp only [demand_Peak.l1, if_pos hi, if_pos i0, hwd, if_pos (show 0 ≤ w.f0 by omega), if_pos w2, if_pos (show w.f1 ≤ (x.length : Int) by omega), Option.bind_some]
    rw [ei] at this
    exact this
theorem pk_l0 {y : List Cx} (hb : ∀ z ∈ y, Bits z) (hl : (y.length : Int) ≤ 140737488355328) (h1 : (∀ z ∈ y, GoodC 10000000000 z) → Ev (fun k => demand_Peak.l1 k x st mi 0 ws (ws.length : Int) 0) R)
    (h2 : (¬ ∀ z ∈ y, GoodC 10000000000 z) → R = (0, 5)) : ∀ (d : Nat) (i : Int), 0 ≤ i → (y.length : Int) - i = d → ((∀ z ∈ y.drop i.toNat, GoodC 10000000000 z) ↔ ∀ z ∈ y, GoodC 10000000000 z) →
    Ev (fun k => demand_Peak.l0 k x st mi ws y (y.length : Int) i) R := by
  intro d
  induction d with
  | zero =>
    intro i i0 hd hiff
    refine Ev.shift ?_
    simp only [demand_Peak.l0, if_neg (show ¬ i < (y.length : Int) by omega)]
    exact h1 (hiff.1 (by rw [drop_end (by omega)]; intro z hz; cases hz))
  | succ d ih =>
    intro i i0 hd hiff
    have hi : i < (y.length : Int) := by omega
    have e := drop_cons (cx 0 0) i0 hi
    have ei : wrap64 (i + 1) = i + 1 := i64in (by omega) (by omega)
    have hz : rdOf (cx 0 0) y i ∈ y := List.mem_of_mem_drop (i := i.toNat) (by rw [e]; exact List.mem_cons_self)
    have hbz := hb _ hz
    rw [e] at hiff
    refine Ev.shift ?_
    simp only [demand_Peak.l0, if_pos hi, if_pos i0, ei]
    by_cases g : GoodC 10000000000 (rdOf (cx 0 0) y i)
    · simp only [mfits_yes hbz g, Option.bind_some, if_true]
      refine ih (i + 1) (by omega) (by omega) ?_
      rw [← hiff]
      simp [g]
    · simp only [mfits_no hbz g, Option.bind_some, Bool.false_eq_true, if_false]
      rw [h2 (fun h => g (h _ hz))]
      exact Ev.now _

end

open Classical in
/-- What Peak answers. -/
noncomputable def peakA (x : List Cx) (t0 st mi f t : Int) : Int × Int :=
  if OkW t0 st mi f t then if t ≤ (x.length : Int) then if ∀ z ∈ seg x f t, GoodC 10000000000 z then (pkOf x (mx st mi) 0 (theWins t0 st mi f t), 0) else (0, 5) else (0, 8) else (0, 8)
theorem peak_f {x : List Cx} (hb : ∀ z ∈ x, Bits z) (t0 st mi f t : Int) : Ev (fun k => demand_Peak.f k x t0 st mi f t) (peakA x t0 st mi f t) := by
  unfold demand_Peak.f peakA
  by_cases h : OkW t0 st mi f t
  · refine ev_bind (whole_f _ _ _ _ _ h) ?_
    obtain ⟨h1, h2, h3, h4, h5, h6, h7, h8⟩ := id h
    rw [if_pos h]
    simp only [if_true]
    by_cases g : t ≤ (x.length : Int)
    · simp only [if_neg (show ¬ t > (x.length : Int) by omega), if_pos h6, if_pos h7, if_pos g, Option.bind_some]
      have hs := seg_len (x := x) h6 h7 g
      refine pk_l0 (y := seg x f t) (fun z hz => hb z (List.mem_of_mem_take (List.mem_of_mem_drop hz))) (by omega) (fun hg => ?_) (fun hg => if_neg hg) (seg x f t).length 0 (by omega) (by omega) (by simp)
      rw [if_pos hg]
      have := pk_l1 (x := x) (st := st) (mi := mi) (mx_is h1 h2).2 h6 g (theWins_in h) hg (theWins_len h) (theWins t0 st mi f t).length 0 0 (by omega) (by omega)
      simpa using this
    · simp only [if_pos (show t > (x.length : Int) by omega), if_neg g]
      exact Ev.now _
  · refine ev_bind (whole_no _ _ _ _ _ h) ?_
    rw [if_neg h]
    exact Ev.ofEq (by simp)
end Go.Proofs.Ytapimggcnneabaa.PureDK
