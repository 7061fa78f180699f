/- VeeWider holds: what is valid stays valid with more let pass, and without asking for spikes; whatever the input, the law answers true and its arguments read as before. -/
import Derived.Test.YtbjkjakilpifhaaVeeV
import Derived.Test.YtbjkjakilpifhaaPVx5
set_option linter.unusedVariables false
namespace Go.Proofs.Ytbjkjakilpifhaa.Pure
open Go.RowKit Go.Proofs.Ytbjkjakilpifhaa.PV Go.Proofs.Ytbjkjakilpifhaa.Num Go.Proofs.Ytbjkjakilpifhaa.PureV Go.Proofs.YtbjkjakilpifhaaW.PrintWords Go.Proofs.YtbjkjakilpifhaaW.PrintLast Go.Proofs.YtbjkjakilpifhaaW.PrintMore
theorem far_mono {a b m m' : Int} (h : m ≤ m') (hf : far a b m = false) : far a b m' = false := by
  unfold far at *
  simp only [decide_eq_false_iff_not] at *
  omega
theorem bad_mono {l : List S32} {slots m m' s s' i : Int} (hm : m ≤ m') (hs : s' > 0 → s > 0 ∧ s ≤ s') (h : bad l slots m s i = false) : bad l slots m' s' i = false := by
  unfold bad at *
  simp only [Bool.or_eq_false_iff] at h ⊢
  obtain ⟨h1, h2, h3, h4, h5, h6⟩ := h
  refine ⟨h1, h2, h3, h4, ?_, ?_⟩
  · cases hg : gd (rd_T32 l i)
    · simp
    · rw [hg] at h5
      simp only [Bool.true_and, Bool.or_eq_false_iff] at h5 ⊢
      obtain ⟨a, b, c⟩ := h5
      refine ⟨a, ?_, far_mono hm c⟩
      simp only [decide_eq_false_iff_not] at b ⊢
      omega
  · cases hn : near l s' i
    · simp
    · have hpos : s' > 0 := by
        unfold near at hn
        simp only [Bool.and_eq_true, decide_eq_true_eq] at hn
        exact hn.2.2.1
      have hn2 : near l s i = true := by
        unfold near at hn ⊢
        simp only [Bool.and_eq_true, decide_eq_true_eq] at hn ⊢
        exact ⟨hn.1, hn.2.1, (hs hpos).1, hn.2.2.2⟩
      rw [hn2] at h6
      simp only [Bool.true_and, Bool.or_eq_false_iff] at h6 ⊢
      exact ⟨far_mono (hs hpos).2 h6.1, far_mono (hs hpos).2 h6.2⟩
theorem ok_mono {l : List S32} {slots m m' s s' : Int} {r q : Int × Int} (hm : m ≤ m') (hs : s' > 0 → s > 0 ∧ s ≤ s') (h : CheckA l slots m s r) (k : CheckA l slots m' s' q) (he : r.2 = 0) : q.2 = 0 := by
  rcases h with ⟨n, n0, n1, nb, nj, rfl⟩ | ⟨hb, hg, rfl⟩ | ⟨hb, hg, rfl⟩
  · simp at he
  · have hq : CheckA l slots m' s' (0, 0) := .inr (.inl ⟨fun j j0 j1 => bad_mono hm hs (hb j j0 j1), hg, rfl⟩)
    rw [k.unique hq]
  · simp at he
theorem err_is {l : List S32} {slots m s : Int} {r : Int × Int} (h : CheckA l slots m s r) : r.2 = 0 ∨ r.2 = 3 := by
  rcases h with ⟨n, n0, n1, nb, nj, rfl⟩ | ⟨hb, hg, rfl⟩ | ⟨hb, hg, rfl⟩ <;> simp
theorem in64_mx {a b : Int} (ha : in64 a) (hb : in64 b) : in64 (mx a b) := by unfold mx; split <;> assumption
theorem VeeWider : pylonlaw10_VeeWider.Pure := by
  intro c0 c1 c2 slots c4 c5 l most spike more _ _ _ _ _ _ hl hm hs hmore
  refine Ev.rounds (g := fun k => pylonlaw10_VeeWider.f k c0 c1 c2 slots c4 c5 l most spike more) ?_
  have m64 : in64 most := wf64 hm
  have s64 : in64 spike := wf64 hs
  have w64' : in64 more := wf64 hmore
  have z64 : in64 0 := by unfold in64; decide
  obtain ⟨hl, hr⟩ := hl
  obtain ⟨r, hr1, hA⟩ := check_f (c0 := c0) (c1 := c1) (c2 := c2) (slots := slots) (c4 := c4) (c5 := c5) hl hr m64 s64
  obtain ⟨r2, hr2, hA2⟩ := check_f (c0 := c0) (c1 := c1) (c2 := c2) (slots := slots) (c4 := c4) (c5 := c5) hl hr m64 z64
  obtain ⟨r3, hr3, hA3⟩ := check_f (c0 := c0) (c1 := c1) (c2 := c2) (slots := slots) (c4 := c4) (c5 := c5) hl hr (in64_mx m64 w64') s64
  obtain ⟨r4, hr4, hA4⟩ := check_f (c0 := c0) (c1 := c1) (c2 := c2) (slots := slots) (c4 := c4) (c5 := c5) hl hr m64 (in64_mx s64 w64')
  unfold pylonlaw10_VeeWider.f
  refine Ev.bind awake_ev ?_
  simp only [if_true, copy_f hl, Option.bind_some]
  refine Ev.bind hr1 ?_
  by_cases he : r.2 = 0
  · simp only [if_pos he]
    have a2 := ok_mono (Int.le_refl _) (fun h => by omega) hA hA2 he
    have a3 := ok_mono (by unfold mx; split <;> omega) (fun h => ⟨h, Int.le_refl _⟩) hA hA3 he
    refine Ev.bind hr2 ?_
    refine Ev.bind hr3 ?_
    by_cases hp : spike > 0
    · simp only [if_pos hp]
      have a4 := ok_mono (Int.le_refl _) (fun _ => ⟨hp, by unfold mx; split <;> omega⟩) hA hA4 he
      refine Ev.bind hr4 ?_
      simp only [a2, a3, a4, if_true]
      exact Ev.now _
    · simp only [if_neg hp]
      refine Ev.bind hr1 ?_
      simp only [a2, a3, he, if_true]
      exact Ev.now _
  · simp only [if_neg he]
    rcases err_is hA with h | h
    · exact absurd h he
    · rw [h]
      exact Ev.now _
end Go.Proofs.Ytbjkjakilpifhaa.Pure
