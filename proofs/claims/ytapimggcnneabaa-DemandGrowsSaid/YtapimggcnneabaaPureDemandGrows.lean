/- DemandGrows holds: a run within a run has no greater peak; the conjugate series has the same one; one that is k times as great has at least k times the peak. -/
import Derived.Test.YtapimggcnneabaaDemandGDG
import Derived.Test.YtapimggcnneabaaDemandPDG
import Derived.Test.YtapimggcnneabaaPDGx5
import Derived.Test.YtapimggcnneabaaPDGx6
set_option linter.unusedVariables false
set_option linter.unusedSimpArgs false
namespace Go.Proofs.Ytapimggcnneabaa.Pure
open Go.RowKit Go.Proofs.Ytapimggcnneabaa.PDG Go.Proofs.Ytapimggcnneabaa.PureDG Go.Proofs.Ytapimggcnneabaa.Num Go.Proofs.Ytapimggcnneabaa.Flt Go.Proofs.YtapimggcnneabaaW.PrintWords Go.Proofs.YtapimggcnneabaaW.PrintLast Go.Proofs.YtapimggcnneabaaW.PrintMore

theorem wfi16 {x : Int} (h : (Lit.int .i16 x).wf = true) : -32768 ≤ x ∧ x ≤ 32767 := by
  simpa [Lit.wf, IntKind.min, IntKind.max, IntKind.bits, IntKind.signed] using h
theorem wfu8 {x : Int} (h : (Lit.int .u8 x).wf = true) : 0 ≤ x ∧ x ≤ 255 := by
  simpa [Lit.wf, IntKind.min, IntKind.max, IntKind.bits, IntKind.signed] using h
theorem rd_le {l : List Int} (h : ∀ y ∈ l, (Lit.int .i16 y).wf = true) (i : Int) : (rd l i).natAbs ≤ 32768 := by
  unfold rd
  by_cases hi : i.toNat < l.length
  · rw [List.getD_eq_getElem?_getD, List.getElem?_eq_getElem hi]
    have := wfi16 (h _ (List.getElem_mem hi))
    simp only [Option.getD_some]
    omega
  · rw [List.getD_eq_getElem?_getD, List.getElem?_eq_none (by omega)]
    decide
/-! ### What a window's power is, over the windows -/
noncomputable def vw (x : List Cx) (m : Int) (w : S90) : Int := pw (sA (seg x w.f0 w.f1)) (sB (seg x w.f0 w.f1)) m
theorem mx_ge (a b : Int) : a ≤ mx a b ∧ b ≤ mx a b := by unfold mx; split <;> omega
theorem mx_or (a b : Int) : mx a b = a ∨ mx a b = b := by unfold mx; split <;> omega
section
variable {x y : List Cx} {m M : Int}
theorem pk_ge : ∀ (ws : List S90) (p : Int), p ≤ pkOf x m p ws ∧ ∀ w ∈ ws, vw x m w ≤ pkOf x m p ws
  | [], p => ⟨Int.le_refl _, fun w h => by cases h⟩
  | w :: ws, p => by
    obtain ⟨a, b⟩ := pk_ge ws (mx p (vw x m w))
    have := mx_ge p (vw x m w)
    refine ⟨Int.le_trans this.1 a, fun u hu => ?_⟩
    rcases List.mem_cons.mp hu with rfl | hu
    · exact Int.le_trans this.2 a
    · exact b u hu
theorem pk_mem : ∀ (ws : List S90) (p : Int), pkOf x m p ws = p ∨ ∃ w ∈ ws, pkOf x m p ws = vw x m w
  | [], p => .inl rfl
  | w :: ws, p => by
    rcases pk_mem ws (mx p (vw x m w)) with h | ⟨u, hu, h⟩
    · rcases mx_or p (vw x m w) with e | e
      · exact .inl (by show pkOf x m (mx p (vw x m w)) ws = p; rw [h, e])
      · exact .inr ⟨w, List.mem_cons_self, by show pkOf x m (mx p (vw x m w)) ws = _; rw [h, e]⟩
    · exact .inr ⟨u, List.mem_cons_of_mem _ hu, h⟩
theorem pk_congr : ∀ (ws : List S90) (p : Int), (∀ w ∈ ws, vw x m w = vw y m w) → pkOf x m p ws = pkOf y m p ws
  | [], p, _ => rfl
  | w :: ws, p, h => by
    have e := h w List.mem_cons_self
    have := pk_congr ws (mx p (vw x m w)) (fun u hu => h u (List.mem_cons_of_mem _ hu))
    show pkOf x m (mx p (vw x m w)) ws = pkOf y m (mx p (vw y m w)) ws
    rw [this, e]
end
theorem pw_nonneg (A B : Int) {m : Int} (hm : Len m) : 0 ≤ pw A B m := by
  unfold pw
  split
  · omega
  · have := sq_nonneg A
    have := sq_nonneg B
    have := (isq_is (N := A * A + B * B) (by omega)).1
    exact Int.mul_nonneg this (by rcases hm with rfl | rfl | rfl <;> decide)
theorem pw_neg (A B m : Int) : pw A (-B) m = pw A B m := by
  unfold pw
  rw [Int.neg_mul_neg]
theorem pw_scale {A B m k : Int} (hm : Len m) (hk : 0 ≤ k) : k * pw A B m ≤ pw (k * A) (k * B) m := by
  have h0 := pw_nonneg (k * A) (k * B) hm
  by_cases hA : A < 0
  · have e : pw A B m = 0 := by unfold pw; rw [if_pos hA]
    rw [e, Int.mul_zero]
    exact h0
  · have a := sq_nonneg A
    have b := sq_nonneg B
    have r := isq_is (N := A * A + B * B) (by omega)
    have hkA : ¬ k * A < 0 := by have := Int.mul_nonneg hk (show 0 ≤ A by omega); omega
    have e1 : k * A * (k * A) + k * B * (k * B) = k * k * (A * A + B * B) := by grind
    have hN : 0 ≤ k * A * (k * A) + k * B * (k * B) := by have := sq_nonneg (k * A); have := sq_nonneg (k * B); omega
    have R := isq_is hN
    unfold pw
    rw [if_neg hA, if_neg hkA]
    generalize isq (A * A + B * B) = r0 at *
    generalize isq (k * A * (k * A) + k * B * (k * B)) = R0 at *
    have h1 : k * r0 ≤ R0 := by
      rcases Int.lt_or_le R0 (k * r0) with g | g
      · have h2 : k * r0 * (k * r0) ≤ k * k * (A * A + B * B) := by
          have e2 : k * r0 * (k * r0) = k * k * (r0 * r0) := by grind
          rw [e2]
          exact Int.mul_le_mul_of_nonneg_left r.2.1 (sq_nonneg k)
        have h3 := sq_le (a := R0 + 1) (b := k * r0) (by have := R.1; omega) (by omega)
        have h4 := R.2.2
        rw [e1] at h4
        omega
      · exact g
    rw [← Int.mul_assoc]
    exact Int.mul_le_mul_of_nonneg_right h1 (by rcases hm with rfl | rfl | rfl <;> decide)
theorem pw_le {A B m : Int} (hm : Len m) (a : A.natAbs ≤ 131072) (b : B.natAbs ≤ 131072) : pw A B m ≤ 1000000 := by
  unfold pw
  split
  · omega
  · obtain ⟨a0, a1⟩ := abs_sq a
    obtain ⟨b0, b1⟩ := abs_sq b
    have r := isq_is (N := A * A + B * B) (by omega)
    have := r.le_of (x := 250000) (by omega) (by omega)
    have := r.1
    generalize isq (A * A + B * B) = r0 at *
    rcases hm with rfl | rfl | rfl
    · show r0 * 4 ≤ 1000000; omega
    · show r0 * 2 ≤ 1000000; omega
    · show r0 * 1 ≤ 1000000; omega

/-! ### The three series -/
section
variable {a b : List Int} {k : Int}
def pF (a b : List Int) (j : Nat) : Cx := cx (floatOfInt .f64 (rd a j)) (floatOfInt .f64 (rd b j))
def pG (a b : List Int) (j : Nat) : Cx := cx (floatOfInt .f64 (rd a j)) (fneg (floatOfInt .f64 (rd b j)))
def pH (a b : List Int) (k : Int) (j : Nat) : Cx := cx (cmulre (floatOfInt .f64 (rd a j)) (floatOfInt .f64 (rd b j)) (floatOfInt .f64 k) 0) (cmulim (floatOfInt .f64 (rd a j)) (floatOfInt .f64 (rd b j)) (floatOfInt .f64 k) 0)
theorem point_is (ha : ∀ y ∈ a, (Lit.int .i16 y).wf = true) (hb : ∀ y ∈ b, (Lit.int .i16 y).wf = true) (hk0 : 0 ≤ k) (hk : k ≤ 255) (j : Nat) :
    (Small 10000000000 (pF a b j) (rd a j) (rd b j) ∧ Bits (pF a b j)) ∧ (Small 10000000000 (pG a b j) (rd a j) (-(rd b j)) ∧ Bits (pG a b j)) ∧
    (Small 10000000000 (pH a b k j) (k * rd a j) (k * rd b j) ∧ Bits (pH a b k j)) ∧ cmulok (floatOfInt .f64 (rd a j)) (floatOfInt .f64 (rd b j)) (floatOfInt .f64 k) 0 = true := by
  have A := rd_le ha j
  have B := rd_le hb j
  have iA := of_int (n := rd a j) (by omega)
  have iB := of_int (n := rd b j) (by omega)
  have iK := of_int (n := k) (by omega)
  have lA := fint_lt (rd a j)
  have lB := fint_lt (rd b j)
  have nB : fneg (floatOfInt .f64 (rd b j)) < 18446744073709551616 := by
    unfold fneg
    have := Nat.xor_lt_two_pow (x := floatOfInt .f64 (rd b j)) (y := 9223372036854775808) (n := 64) (by omega) (by omega)
    omega
  have pA : (rd a j * k).natAbs ≤ 32768 * 255 := by rw [Int.natAbs_mul]; exact Nat.mul_le_mul A (by omega)
  have pB : (rd b j * k).natAbs ≤ 32768 * 255 := by rw [Int.natAbs_mul]; exact Nat.mul_le_mul B (by omega)
  unfold pF pG pH
  generalize rd a j = u at *
  generalize rd b j = v at *
  obtain ⟨ok, r, i⟩ := cmul_is iA iB iK is_zero (by omega) (by omega) (by omega) (by omega) (by omega) (by omega)
  have e1 : u * k - v * 0 = k * u := by rw [Int.mul_comm u k]; omega
  have e2 : u * 0 + v * k = k * v := by rw [Int.mul_comm v k]; omega
  rw [e1] at r
  rw [e2] at i
  rw [Int.mul_comm u k] at pA
  rw [Int.mul_comm v k] at pB
  exact ⟨⟨⟨⟨iA, by omega⟩, iB, by omega⟩, lA, lB⟩, ⟨⟨⟨iA, by omega⟩, iB.neg, by omega⟩, lA, nB⟩, ⟨⟨⟨r, by omega⟩, i, by omega⟩, (cmul_lt _ _ _ _).1, (cmul_lt _ _ _ _).2⟩, ok⟩
theorem sums_is (ha : ∀ y ∈ a, (Lit.int .i16 y).wf = true) (hb : ∀ y ∈ b, (Lit.int .i16 y).wf = true) (hk0 : 0 ≤ k) (hk : k ≤ 255) (J : List Nat) :
    sA (J.map (pG a b)) = sA (J.map (pF a b)) ∧ sB (J.map (pG a b)) = -sB (J.map (pF a b)) ∧ sA (J.map (pH a b k)) = k * sA (J.map (pF a b)) ∧ sB (J.map (pH a b k)) = k * sB (J.map (pF a b)) ∧
    (sA (J.map (pF a b))).natAbs ≤ 32768 * J.length ∧ (sB (J.map (pF a b))).natAbs ≤ 32768 * J.length := by
  induction J with
  | nil => refine ⟨rfl, rfl, ?_, ?_, ?_, ?_⟩ <;> simp [sA, sB]
  | cons j J ih =>
    obtain ⟨i1, i2, i3, i4, i5, i6⟩ := ih
    obtain ⟨⟨f, _⟩, ⟨g, _⟩, ⟨h, _⟩, _⟩ := point_is ha hb hk0 hk j
    have A := rd_le ha j
    have B := rd_le hb j
    simp only [List.map_cons, sA_cons, sB_cons, List.length_cons]
    rw [← f.vals.1, ← f.vals.2, ← g.vals.1, ← g.vals.2, ← h.vals.1, ← h.vals.2, i1, i2, i3, i4]
    generalize rd a j = u at *
    generalize rd b j = v at *
    refine ⟨rfl, by omega, by rw [Int.mul_add], by rw [Int.mul_add], by omega, by omega⟩
end
theorem seg_map (F : Nat → Cx) (J : List Nat) (u v : Int) : seg (J.map F) u v = ((J.take v.toNat).drop u.toNat).map F := by
  unfold seg
  rw [List.map_drop, List.map_take]
theorem set_range (F : Nat → Cx) (i d : Nat) : ((List.range i).map F ++ List.replicate (d + 1) (cx 0 0)).set i (F i) = (List.range (i + 1)).map F ++ List.replicate d (cx 0 0) := by
  have := set_mid ((List.range i).map F) (cx 0 0) (F i) d
  rw [List.length_map, List.length_range] at this
  rw [this, List.range_succ, List.map_append]
  rfl
theorem wins_sub {q f n t N : Int} (hn : n = 1 ∨ n = 2 ∨ n = 4) (q0 : 0 ≤ q) (f0 : 0 ≤ f) (tN : t ≤ N) {w : S90} (h : w ∈ wins (cnt (fst q f n) n t) (fst q f n) n) : w ∈ wins (cnt (fst q 0 n) n N) (fst q 0 n) n := by
  rw [List.mem_iff_getElem?] at h ⊢
  obtain ⟨i, h⟩ := h
  have hi : i < cnt (fst q f n) n t := by
    have := (List.getElem?_eq_some_iff.mp h).1
    rwa [wins_len] at this
  rw [wins_get _ _ _ hi] at h
  have hj : ∃ j : Nat, fst q f n = fst q 0 n + j * n := by
    refine ⟨((fst q f n - fst q 0 n) / n).toNat, ?_⟩
    unfold fst
    rcases hn with rfl | rfl | rfl <;> omega
  obtain ⟨j, hj⟩ := hj
  have hc : j + i < cnt (fst q 0 n) n N := by
    rw [hj] at hi
    unfold cnt at hi ⊢
    rcases hn with rfl | rfl | rfl <;> omega
  refine ⟨j + i, ?_⟩
  rw [wins_get _ _ _ hc, ← h, hj]
  have e : ((j + i : Nat) : Int) * n = j * n + i * n := by rw [Int.natCast_add, Int.add_mul]
  rw [e, ← Int.add_assoc]

section
variable {a b : List Int} {k : Int} {n : Nat} {t0 st mi f t : Int}
theorem goods (ha : ∀ y ∈ a, (Lit.int .i16 y).wf = true) (hb : ∀ y ∈ b, (Lit.int .i16 y).wf = true) (hk0 : 0 ≤ k) (hk : k ≤ 255) (J : List Nat) :
    (∀ z ∈ J.map (pF a b), GoodC 10000000000 z ∧ Bits z) ∧ (∀ z ∈ J.map (pG a b), GoodC 10000000000 z ∧ Bits z) ∧ (∀ z ∈ J.map (pH a b k), GoodC 10000000000 z ∧ Bits z) := by
  refine ⟨fun z hz => ?_, fun z hz => ?_, fun z hz => ?_⟩ <;> obtain ⟨j, _, rfl⟩ := List.mem_map.mp hz <;> obtain ⟨⟨f, f'⟩, ⟨g, g'⟩, ⟨h, h'⟩, _⟩ := point_is ha hb hk0 hk j
  · exact ⟨⟨_, _, f⟩, f'⟩
  · exact ⟨⟨_, _, g⟩, g'⟩
  · exact ⟨⟨_, _, h⟩, h'⟩
theorem peak_ok {x : List Cx} (h : OkW t0 st mi f t) (ht : t ≤ (x.length : Int)) (hg : ∀ z ∈ x, GoodC 10000000000 z ∧ Bits z) : Ev (fun k => demand_Peak.f k x t0 st mi f t) (pkOf x (mx st mi) 0 (theWins t0 st mi f t), 0) := by
  have := peak_f (fun z hz => (hg z hz).2) t0 st mi f t
  have hgd : ∀ z ∈ seg x f t, GoodC 10000000000 z := fun z hz => (hg z (List.mem_of_mem_take (List.mem_of_mem_drop hz))).1
  have e : peakA x t0 st mi f t = (pkOf x (mx st mi) 0 (theWins t0 st mi f t), 0) := by
    unfold peakA
    rw [if_pos h, if_pos ht, if_pos hgd]
  rw [e] at this
  exact this
theorem grows_end (ha : ∀ y ∈ a, (Lit.int .i16 y).wf = true) (hb : ∀ y ∈ b, (Lit.int .i16 y).wf = true) (hk0 : 0 ≤ k) (hk : k ≤ 255) (hn : n ≤ 400) (h : OkW t0 st mi f t) (ht : t ≤ (n : Int)) :
    Ev (fun kk => (demand_Peak.f kk ((List.range n).map (pF a b)) t0 st mi f t).bind fun bt189 => ((demand_Peak.f kk ((List.range n).map (pF a b)) t0 st mi 0 (n : Int)).bind fun bt191 => ((demand_Peak.f kk ((List.range n).map (pG a b)) t0 st mi f t).bind fun bt193 => ((demand_Peak.f kk ((List.range n).map (pH a b k)) t0 st mi f t).bind fun bt195 => (if bt189.2 = 0 then (if bt191.2 = 0 then (if bt193.2 = 0 then (if bt195.2 = 0 then (if bt189.1 < 0 then (some false) else (if bt189.1 > 1073741824 then (some false) else (if bt189.1 ≤ bt191.1 then (if bt189.1 = bt193.1 then (some (decide (bt195.1 ≥ (wrap64 ((wrap64 (k)) * bt189.1))))) else (some false)) else (some false)))) else (some false)) else (some false)) else (some false)) else (some false)))))) true := by
  obtain ⟨g1, g2, g3⟩ := goods ha hb hk0 hk (List.range n)
  have l1 : (((List.range n).map (pF a b)).length : Int) = n := by simp
  have l2 : (((List.range n).map (pG a b)).length : Int) = n := by simp
  have l3 : (((List.range n).map (pH a b k)).length : Int) = n := by simp
  obtain ⟨o1, o2, o3, o4, o5, o6, o7, o8⟩ := id h
  have hW : OkW t0 st mi 0 (n : Int) := ⟨o1, o2, o3, o4, o5, by omega, by omega, by omega⟩
  have e1 := peak_ok h (by omega) g1
  have e2 := peak_ok hW (by omega) g1
  have e3 := peak_ok h (by omega) g2
  have e4 := peak_ok h (by omega) g3
  have hm := (mx_is o1 o2).2
  have hnn := nn_is o1 o2
  have hq : 0 ≤ t0 / (60 * st) := by rcases o1 with rfl | rfl | rfl <;> omega
  have hin := theWins_in h
  have S := fun J => sums_is ha hb hk0 hk J
  have hsub : ∀ w ∈ theWins t0 st mi f t, w ∈ theWins t0 st mi 0 (n : Int) := fun w hw => wins_sub hnn hq o6 ht hw
  refine ev_bind e1 (ev_bind e2 (ev_bind e3 (ev_bind e4 ?_)))
  simp only [if_true]
  have vF : ∀ w ∈ theWins t0 st mi f t, vw ((List.range n).map (pG a b)) (mx st mi) w = vw ((List.range n).map (pF a b)) (mx st mi) w := by
    intro w hw
    unfold vw
    rw [seg_map, seg_map]
    obtain ⟨s1, s2, _⟩ := S (((List.range n).take w.f1.toNat).drop w.f0.toNat)
    rw [s1, s2, pw_neg]
  have vH : ∀ w ∈ theWins t0 st mi f t, k * vw ((List.range n).map (pF a b)) (mx st mi) w ≤ vw ((List.range n).map (pH a b k)) (mx st mi) w := by
    intro w hw
    unfold vw
    rw [seg_map, seg_map]
    obtain ⟨_, _, s3, s4, _⟩ := S (((List.range n).take w.f1.toNat).drop w.f0.toNat)
    rw [s3, s4]
    exact pw_scale hm hk0
  have vB : ∀ w ∈ theWins t0 st mi f t, vw ((List.range n).map (pF a b)) (mx st mi) w ≤ 1000000 := by
    intro w hw
    obtain ⟨w1, w2, w3, w4⟩ := hin w hw
    unfold vw
    rw [seg_map]
    obtain ⟨_, _, _, _, s5, s6⟩ := S (((List.range n).take w.f1.toNat).drop w.f0.toNat)
    have hl : (((List.range n).take w.f1.toNat).drop w.f0.toNat).length ≤ 4 := by rw [List.length_drop, List.length_take, List.length_range]; omega
    exact pw_le hm (by omega) (by omega)
  have eG := pk_congr (theWins t0 st mi f t) 0 vF
  rw [eG]
  have gF := pk_ge (x := (List.range n).map (pF a b)) (m := mx st mi) (theWins t0 st mi f t) 0
  have gW := pk_ge (x := (List.range n).map (pF a b)) (m := mx st mi) (theWins t0 st mi 0 (n : Int)) 0
  have gH := pk_ge (x := (List.range n).map (pH a b k)) (m := mx st mi) (theWins t0 st mi f t) 0
  have mF := pk_mem (x := (List.range n).map (pF a b)) (m := mx st mi) (theWins t0 st mi f t) 0
  have hB : pkOf ((List.range n).map (pF a b)) (mx st mi) 0 (theWins t0 st mi f t) ≤ 1000000 := by
    rcases mF with e | ⟨w, hw, e⟩
    · rw [e]; omega
    · rw [e]; exact vB w hw
  have hle : pkOf ((List.range n).map (pF a b)) (mx st mi) 0 (theWins t0 st mi f t) ≤ pkOf ((List.range n).map (pF a b)) (mx st mi) 0 (theWins t0 st mi 0 (n : Int)) := by
    rcases mF with e | ⟨w, hw, e⟩
    · rw [e]; exact gW.1
    · rw [e]; exact gW.2 w (hsub w hw)
  have hH : k * pkOf ((List.range n).map (pF a b)) (mx st mi) 0 (theWins t0 st mi f t) ≤ pkOf ((List.range n).map (pH a b k)) (mx st mi) 0 (theWins t0 st mi f t) := by
    rcases mF with e | ⟨w, hw, e⟩
    · rw [e, Int.mul_zero]; exact gH.1
    · rw [e]; exact Int.le_trans (vH w hw) (gH.2 w hw)
  have hF0 := gF.1
  generalize pkOf ((List.range n).map (pF a b)) (mx st mi) 0 (theWins t0 st mi f t) = P at *
  generalize pkOf ((List.range n).map (pF a b)) (mx st mi) 0 (theWins t0 st mi 0 (n : Int)) = PW at *
  generalize pkOf ((List.range n).map (pH a b k)) (mx st mi) 0 (theWins t0 st mi f t) = PH at *
  have hkP0 : 0 ≤ k * P := Int.mul_nonneg hk0 hF0
  have hkP : k * P ≤ 255 * 1000000 := Int.mul_le_mul hk hB hF0 (by omega)
  rw [i64in (x := k) (by omega) (by omega), i64in (x := k * P) (by omega) (by omega), decide_eq_true hH]
  simp only [if_neg (show ¬ P < 0 by omega), if_neg (show ¬ P > 1073741824 by omega), if_pos hle]
  exact Ev.now _
theorem grows_l0 (ha : ∀ y ∈ a, (Lit.int .i16 y).wf = true) (hb : ∀ y ∈ b, (Lit.int .i16 y).wf = true) (hk0 : 0 ≤ k) (hk : k ≤ 255) (hn : n ≤ 400) (hna : n ≤ a.length) (hnb : n ≤ b.length) {r0 r1 r2 r3 r4 : Int} :
    ∀ (d i : Nat), i + d = n → Ev (fun kk => pylonlaw16_DemandGrows.l0 kk a b k (n : Int) ((List.range i).map (pF a b) ++ List.replicate d (cx 0 0)) ((List.range i).map (pG a b) ++ List.replicate d (cx 0 0)) ((List.range i).map (pH a b k) ++ List.replicate d (cx 0 0)) (n : Int) (i : Int) r0 r1 r2 r3 r4) true := by
  intro d
  induction d with
  | zero =>
    intro i hd
    have e : i = n := by omega
    subst e
    obtain ⟨t0, st, mi, f, t, eg, h, ht⟩ := good_f r0 r1 r2 r3 r4 (m := (i : Int)) (by omega) (by omega)
    refine Ev.shift ?_
    simp only [pylonlaw16_DemandGrows.l0, if_neg (show ¬ (i : Int) < (i : Int) by omega), List.replicate_zero, List.append_nil, eg, Option.bind_some]
    exact grows_end ha hb hk0 hk hn h ht
  | succ d ih =>
    intro i hd
    have ei : wrap64 ((i : Int) + 1) = ((i + 1 : Nat) : Int) := by rw [i64in (by omega) (by omega)]; omega
    have len : ∀ F : Nat → Cx, (i : Int) < ((((List.range i).map F ++ List.replicate (d + 1) (cx 0 0)).length : Nat) : Int) := by
      intro F
      rw [List.length_append, List.length_map, List.length_range, List.length_replicate]
      omega
    have hF : pylonlaw16_point.f (rd a i) (rd b i) = some (pF a b i) := rfl
    have hr : rdOf (cx 0 0) ((List.range (i + 1)).map (pF a b) ++ List.replicate d (cx 0 0)) (i : Int) = pF a b i := by
      unfold rdOf
      rw [Int.toNat_natCast, List.getD_eq_getElem?_getD, List.getElem?_append_left (by rw [List.length_map, List.length_range]; omega), List.getElem?_map, List.getElem?_range (by omega)]
      rfl
    have ok := (point_is ha hb hk0 hk i).2.2.2
    have nx := ih (i + 1) (by omega)
    refine Ev.shift ?_
    simp only [pylonlaw16_DemandGrows.l0, if_pos (show (i : Int) < (n : Int) by omega), if_pos (show (0 : Int) ≤ (i : Int) by omega), if_pos (show (i : Int) < (a.length : Int) by omega), if_pos (show (i : Int) < (b.length : Int) by omega), hF, Option.bind_some, if_pos (len _), Int.toNat_natCast, set_range, hr, ei]
    have okF : cmulok (pF a b i).re (pF a b i).im (floatOfInt .f64 k) 0 = true := ok
    simp only [okF, if_true]
    have eG : cx (pF a b i).re (fneg (pF a b i).im) = pG a b i := rfl
    have eH : cx (cmulre (pF a b i).re (pF a b i).im (floatOfInt .f64 k) 0) (cmulim (pF a b i).re (pF a b i).im (floatOfInt .f64 k) 0) = pH a b k i := rfl
    rw [eG, eH]
    simp only [set_range]
    exact nx
end
theorem DemandGrows : pylonlaw16_DemandGrows.Pure := by
  intro a b r0 r1 r2 r3 r4 k ha hb _ _ _ _ _ hk
  refine ev_ex (r := true) ?_
  obtain ⟨k0, k1⟩ := wfu8 hk
  have hmn : ∃ n : Nat, mn (mn (a.length : Int) (b.length : Int)) 400 = (n : Int) ∧ n ≤ a.length ∧ n ≤ b.length ∧ n ≤ 400 := by
    refine ⟨(mn (mn (a.length : Int) (b.length : Int)) 400).toNat, ?_, ?_, ?_, ?_⟩ <;> unfold mn <;> (repeat' split) <;> omega
  obtain ⟨n, en, n1, n2, n3⟩ := hmn
  unfold pylonlaw16_DemandGrows.f
  refine ev_bind awake_ev ?_
  simp only [if_true, en, if_pos (show (0 : Int) ≤ (n : Int) by omega), Int.toNat_natCast, if_pos (show n ≤ 17592186044416 by omega)]
  have := grows_l0 ha.2 hb.2 k0 k1 n3 n1 n2 (r0 := r0) (r1 := r1) (r2 := r2) (r3 := r3) (r4 := r4) n 0 (by omega)
  simpa using this
end Go.Proofs.Ytapimggcnneabaa.Pure
