/- VeeSuspect holds: what a suspect read bears is never asked; whatever the input, the law answers true. -/
import Derived.Test.YtbjkjakilpifhaaVeeVS
import Derived.Test.YtbjkjakilpifhaaPVSx3
set_option linter.unusedVariables false
set_option linter.unusedSimpArgs false
namespace Go.Proofs.Ytbjkjakilpifhaa.Pure
open Go.RowKit Go.Proofs.Ytbjkjakilpifhaa.PVS Go.Proofs.Ytbjkjakilpifhaa.Num Go.Proofs.Ytbjkjakilpifhaa.PureVS Go.Proofs.YtbjkjakilpifhaaW.PrintWords Go.Proofs.YtbjkjakilpifhaaW.PrintLast Go.Proofs.YtbjkjakilpifhaaW.PrintMore
/-- A suspect read bears other numbers. -/
def sus (a b c : Int) (r : S32) : S32 := if r.f4 = 83 then ⟨r.f0, a, b, c, r.f4⟩ else r
section
variable {a b c : Int} {l : List S32}
theorem rd_map (i : Int) : rd_T32 (l.map (sus a b c)) i = sus a b c (rd_T32 l i) := by
  unfold rd_T32
  rw [List.getD_eq_getElem?_getD, List.getD_eq_getElem?_getD, List.getElem?_map]
  cases l[i.toNat]? with
  | none => rfl
  | some x => rfl
theorem gd_sus (r : S32) : gd (sus a b c r) = gd r := by
  unfold sus Go.Proofs.Ytbjkjakilpifhaa.PureVS.gd
  by_cases h : r.f4 = 83
  · rw [if_pos h]
  · rw [if_neg h]
theorem f0_sus (r : S32) : (sus a b c r).f0 = r.f0 := by unfold sus; split <;> rfl
theorem f4_sus (r : S32) : (sus a b c r).f4 = r.f4 := by unfold sus; split <;> rfl
theorem sus_good {r : S32} (h : gd r = true) : sus a b c r = r := by
  unfold sus
  refine if_neg (fun e => ?_)
  unfold Go.Proofs.Ytbjkjakilpifhaa.PureVS.gd at h
  rw [e] at h
  cases h
theorem near_sus (spike i : Int) : near (l.map (sus a b c)) spike i = near l spike i := by
  unfold near
  simp only [rd_map, gd_sus, f0_sus]
theorem bad_sus (slots most spike i : Int) : bad (l.map (sus a b c)) slots most spike i = bad l slots most spike i := by
  unfold bad
  rw [near_sus]
  simp only [rd_map, gd_sus, f0_sus, f4_sus]
  cases hg : gd (rd_T32 l i)
  · have hn : near l spike i = false := by unfold near; simp [hg]
    rw [hn]
    simp only [Bool.false_and]
  · rw [sus_good hg]
    by_cases hn : near l spike i = true
    · have hp : gd (rd_T32 l (i - 1)) = true := by
        unfold near at hn
        simp only [Bool.and_eq_true] at hn
        exact hn.2.2.2.1
      rw [sus_good hp]
    · rw [show near l spike i = false by simpa using hn]
      simp only [Bool.false_and]
theorem check_sus {slots most spike : Int} {r : Int × Int} (h : CheckA (l.map (sus a b c)) slots most spike r) : CheckA l slots most spike r := by
  unfold CheckA at *
  simp only [bad_sus, List.length_map, rd_map, gd_sus] at h
  exact h
theorem set_self {m : List S32} {n : Nat} {v : S32} (h : m[n]? = some v) : m.set n v = m := by
  obtain ⟨hn, e⟩ := List.getElem?_eq_some_iff.mp h
  rw [← e]
  exact List.set_getElem_self hn
/-- The places up to i are told anew. -/
def mid (a b c : Int) (l : List S32) (i : Int) : List S32 := (l.take i.toNat).map (sus a b c) ++ l.drop i.toNat
theorem mid_len (i : Int) : (mid a b c l i).length = l.length := by
  unfold mid
  rw [List.length_append, List.length_map, List.length_take, List.length_drop]
  omega
theorem mid_at {i : Int} (i0 : 0 ≤ i) (hi : i < (l.length : Int)) : (mid a b c l i)[i.toNat]? = some (rd_T32 l i) := by
  unfold mid
  have e : ((l.take i.toNat).map (sus a b c)).length = i.toNat := by rw [List.length_map, List.length_take]; omega
  rw [List.getElem?_append_right (by omega), e, Nat.sub_self, List.getElem?_drop, Nat.add_zero]
  unfold rd_T32
  rw [List.getD_eq_getElem?_getD, List.getElem?_eq_getElem (show i.toNat < l.length by omega)]
  rfl
theorem mid_next {i : Int} (i0 : 0 ≤ i) (hi : i < (l.length : Int)) : (mid a b c l i).set i.toNat (sus a b c (rd_T32 l i)) = mid a b c l (i + 1) := by
  unfold mid
  have e : ((l.take i.toNat).map (sus a b c)).length = i.toNat := by rw [List.length_map, List.length_take]; omega
  have hg : l[i.toNat]? = some (rd_T32 l i) := by
    unfold rd_T32
    rw [List.getD_eq_getElem?_getD, List.getElem?_eq_getElem (show i.toNat < l.length by omega)]
    rfl
  have hd : l.drop i.toNat = rd_T32 l i :: l.drop (i.toNat + 1) := by
    rw [List.drop_eq_getElem_cons (show i.toNat < l.length by omega)]
    congr 1
    have := List.getElem?_eq_getElem (show i.toNat < l.length by omega)
    rw [hg] at this
    exact (Option.some.inj this).symm
  rw [List.set_append_right _ _ (by omega), e, Nat.sub_self, hd, List.set_cons_zero, show (i + 1).toNat = i.toNat + 1 by omega, List.take_add_one, hg]
  simp
theorem rd_of {m : List S32} {i : Int} {v : S32} (h : m[i.toNat]? = some v) : rd_T32 m i = v := by
  unfold rd_T32
  rw [List.getD_eq_getElem?_getD, h]
  rfl
end
theorem sus_l0 {l : List S32} {c0 : ByteArray} {c1 c2 slots c4 c5 most spike a b c : Int} (hl : l.length * 40 ≤ 140737488351232) (hr : ∀ y ∈ l, okS32 y) (hm : in64 most) (hs : in64 spike)
    (ha : (Lit.int .i64 a).wf = true) (hb : (Lit.int .i64 b).wf = true) (hc : (Lit.int .i64 c).wf = true) :
    ∀ (d : Nat) (i : Int), 0 ≤ i → (l.length : Int) - i = d → Ev (fun k => pylonlaw10_VeeSuspect.l0 k most spike a b c (l.length : Int) i c0 c1 c2 slots c4 c5 l c0 c1 c2 slots c4 c5 (mid a b c l i)) true := by
  intro d
  induction d with
  | zero =>
    intro i i0 hd
    have hi : mid a b c l i = l.map (sus a b c) := by
      unfold mid
      rw [List.take_of_length_le (by omega), List.drop_eq_nil_of_le (by omega), List.append_nil]
    refine Ev.shift ?_
    simp only [pylonlaw10_VeeSuspect.l0, if_neg (show ¬ i < (l.length : Int) by omega), hi, copy_f hl, Option.bind_some]
    have hr2 : ∀ y ∈ l.map (sus a b c), okS32 y := by
      intro y hy
      obtain ⟨x, hx, rfl⟩ := List.mem_map.mp hy
      have h := hr x hx
      unfold sus
      split
      · exact ⟨h.1, ha, hb, hc, h.2.2.2.2⟩
      · exact h
    obtain ⟨r, e1, hA⟩ := check_f (c0 := c0) (c1 := c1) (c2 := c2) (slots := slots) (c4 := c4) (c5 := c5) hl hr hm hs
    obtain ⟨q, e2, hB⟩ := check_f (l := l.map (sus a b c)) (c0 := c0) (c1 := c1) (c2 := c2) (slots := slots) (c4 := c4) (c5 := c5) (by rw [List.length_map]; exact hl) hr2 hm hs
    have e : r = q := hA.unique (check_sus hB)
    subst e
    refine ev_bind e1 (ev_bind e2 ?_)
    simp only [if_true, beq_self_eq_true]
    exact Ev.now _
  | succ d ih =>
    intro i i0 hd
    have hi : i < (l.length : Int) := by omega
    have ei : wrap64 (i + 1) = i + 1 := i64in (by omega) (by omega)
    have nx := ih (i + 1) (by omega) (by omega)
    have hat := mid_at (a := a) (b := b) (c := c) (l := l) i0 hi
    have hnx := mid_next (a := a) (b := b) (c := c) (l := l) i0 hi
    have hlen := mid_len (a := a) (b := b) (c := c) (l := l) i
    refine Ev.shift ?_
    simp only [pylonlaw10_VeeSuspect.l0, if_pos hi, if_pos i0, hlen, rd_of hat, ei]
    generalize mid a b c l i = m at *
    generalize hrd : rd_T32 l i = r at *
    by_cases g : r.f4 = 83
    · simp only [if_pos g, Option.bind_some]
      have hlt : i.toNat < m.length := by omega
      have s1 : ∀ v : S32, (m.set i.toNat v)[i.toNat]? = some v := fun v => by rw [List.getElem?_set_self hlt]
      simp only [rd_of (s1 _), List.set_set]
      have e : sus a b c r = ⟨r.f0, a, b, c, r.f4⟩ := by unfold sus; rw [if_pos g]
      rw [e] at hnx
      rw [hnx]
      exact nx
    · simp only [if_neg g]
      have e : sus a b c r = r := by unfold sus; rw [if_neg g]
      rw [e, set_self hat] at hnx
      rw [hnx]
      exact nx
theorem VeeSuspect : pylonlaw10_VeeSuspect.Pure := by
  intro c0 c1 c2 slots c4 c5 l most spike a b c _ _ _ _ _ _ hl hm hs ha hb hc
  refine ev_ex (r := true) ?_
  obtain ⟨hl, hr⟩ := hl
  unfold pylonlaw10_VeeSuspect.f
  refine ev_bind awake_ev ?_
  simp only [if_true, copy_f hl, Option.bind_some]
  have := sus_l0 (c0 := c0) (c1 := c1) (c2 := c2) (slots := slots) (c4 := c4) (c5 := c5) hl hr (wf64 hm) (wf64 hs) ha hb hc l.length 0 (by omega) (by omega)
  have e : mid a b c l 0 = l := by unfold mid; simp
  rw [e] at this
  exact this
end Go.Proofs.Ytbjkjakilpifhaa.Pure
