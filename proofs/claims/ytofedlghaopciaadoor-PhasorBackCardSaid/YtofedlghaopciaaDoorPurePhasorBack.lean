/- PhasorBack: a small complex number's text reads back as the number. -/
import Derived.Test.YtofedlghaopciaaDoorPhasorTP
import Derived.Test.YtofedlghaopciaaDoorPPx5
set_option linter.unusedVariables false
set_option linter.unusedSimpArgs false
namespace Go.Proofs.YtofedlghaopciaaDoor.Pure
open Go.RowKit Go.Proofs.YtofedlghaopciaaDoor.PP Go.Proofs.YtofedlghaopciaaDoor.PureP Go.Proofs.YtofedlghaopciaaDoor.Num Go.Proofs.YtofedlghaopciaaDoor.Flt Go.Proofs.YtofedlghaopciaaDoor.Dig Go.Proofs.YtofedlghaopciaaDoor.Sign Go.Proofs.YtofedlghaopciaaDoorW.PrintWords Go.Proofs.YtofedlghaopciaaDoorW.PrintLast Go.Proofs.YtofedlghaopciaaDoorW.PrintMore
theorem itoa_cons (n : Int) : Lib.itoa n ≠ [] := by
  intro h
  have := (itoa_num n).1.2.1
  unfold mag at this
  rw [h] at this
  simp at this
theorem digit_no {c : UInt8} (h : 48 ≤ c.toNat ∧ c.toNat ≤ 57) : signs.contains c = false ∧ c.toNat < 128 ∧ c ≠ 43 ∧ c ≠ 45 := by
  have h3 : c ≠ 43 := fun e => by subst e; exact absurd h.1 (by decide)
  have h5 : c ≠ 45 := fun e => by subst e; exact absurd h.1 (by decide)
  refine ⟨?_, by omega, h3, h5⟩
  unfold signs
  simp [h3, h5]
theorem tail_no {u : Nat} : ∀ x ∈ Lib.decDigits u ++ [105], signs.contains x = false ∧ x.toNat < 128 := by
  intro x hx
  rcases List.mem_append.1 hx with hx | hx
  · have := digit_no (dec_digs u x hx)
    exact ⟨this.1, this.2.1⟩
  · simp only [List.mem_singleton] at hx
    subst hx
    exact ⟨by decide, by decide⟩
theorem last_txt (a b : Int) : lastAny (txt a b) = (Lib.itoa a).length := by
  unfold txt
  by_cases c : b < 0
  · have e : Lib.itoa b = 45 :: Lib.decDigits b.natAbs := by unfold Lib.itoa; rw [if_pos c]
    rw [if_pos c, e, List.nil_append, List.cons_append]
    exact lastAny_at (itoa_cons a) (by decide) tail_no
  · have e : Lib.itoa b = Lib.decDigits b.toNat := by unfold Lib.itoa; rw [if_neg c]
    rw [if_neg c, e, List.cons_append, List.nil_append]
    exact lastAny_at (itoa_cons a) (by decide) tail_no
theorem trims_txt (b : Int) : ts (tp ((if b < 0 then [] else [43]) ++ (Lib.itoa b ++ [105]))) = Lib.itoa b := by
  have h1 : tp ((if b < 0 then [] else [43]) ++ (Lib.itoa b ++ [105])) = Lib.itoa b ++ [105] := by
    unfold tp
    by_cases c : b < 0
    · have e : Lib.itoa b = 45 :: Lib.decDigits b.natAbs := by unfold Lib.itoa; rw [if_pos c]
      rw [if_pos c, e, if_neg (by simp)]
      rfl
    · rw [if_neg c, if_pos (by simp)]
      rfl
  rw [h1]
  unfold ts
  have hl : (Lib.itoa b ++ [(105 : UInt8)]).length - 1 = (Lib.itoa b).length := by simp
  rw [hl, if_pos ⟨by simp, by simp⟩]
  simp
theorem tmod26 (n : Int) : -67108864 < Int.tmod n 67108864 ∧ Int.tmod n 67108864 < 67108864 := by
  have h1 := Int.tmod_lt_of_pos n (show (0 : Int) < 67108864 by omega)
  have h2 := Int.lt_tmod_of_pos n (show (0 : Int) < 67108864 by omega)
  omega
theorem PhasorBack : pylonlaw02_PhasorBack.Pure := by
  intro x y _ _
  have hx := tmod26 x
  have hy := tmod26 y
  apply ev_ex
  unfold pylonlaw02_PhasorBack.f
  simp only [awake_ok, Option.bind_some, if_true]
  generalize Int.tmod x 67108864 = a at *
  generalize Int.tmod y 67108864 = b at *
  by_cases h : a.natAbs ≤ 33554432 ∧ b.natAbs ≤ 33554432
  · have hs := small_of h.1 h.2
    have hb := bits_of a b
    have l1 := Lib.itoa_length_le a (by omega) (by omega)
    have l2 := Lib.itoa_length_le b (by omega) (by omega)
    have hlen : (txt a b).length ≤ 281474976710656 := by
      unfold txt
      split <;> simp <;> omega
    have n1 := List.length_pos_iff.2 (itoa_cons a)
    have ht : (txt a b).take (Lib.itoa a).length = Lib.itoa a := by unfold txt; rw [List.take_left']; rfl
    have hd : ts (tp ((txt a b).drop (Lib.itoa a).length)) = Lib.itoa b := by
      unfold txt
      rw [List.drop_left' rfl]
      exact trims_txt b
    have hR := pread_yes (txt a b) hlen (c := (Lib.itoa a).length) (last_txt a b) n1 (by unfold txt; rw [List.length_append]; omega) (z := zOf a b) (e := 0) (a := a) (b := b)
      (by rw [ht, hd, readA_itoa (by omega) (by omega), readA_itoa (by omega) (by omega)]; exact of_yes h.1 h.2) hs hb
    rw [ht, hd, readA_itoa (by omega) (by omega), readA_itoa (by omega) (by omega), if_pos ⟨rfl, rfl, rfl, rfl⟩] at hR
    rw [of_yes h.1 h.2]
    simp only [Option.bind_some, if_true]
    rw [ptext_f hb hs, parts_f hb hs]
    simp only [Option.bind_some, if_true]
    refine Ev.bind hR ?_
    have hc : ceq (zOf a b).re (zOf a b).im (zOf a b).re (zOf a b).im = true := by
      rw [ceq_is hs.1.1 hs.2.1 hs.1.1 hs.2.1]; simp
    simp only [hc, if_true, beq_self_eq_true]
    exact Ev.now _
  · rw [of_no h]
    simp only [Option.bind_some, show ¬ (5 : Int) = 0 by omega, if_false, if_true]
    have hc : ceq (cx 0 0).re (cx 0 0).im 0 0 = true := by
      have := ceq_is is_zero is_zero is_zero is_zero
      exact this
    rw [if_pos hc]
    by_cases c1 : a > 33554432
    · rw [if_pos c1]; exact Ev.now _
    · rw [if_neg c1]
      by_cases c2 : a < -33554432
      · rw [if_pos c2]; exact Ev.now _
      · rw [if_neg c2]
        by_cases c3 : b > 33554432
        · rw [if_pos c3]; exact Ev.now _
        · rw [if_neg c3, decide_eq_true (show b < -33554432 by omega)]
          exact Ev.now _
end Go.Proofs.YtofedlghaopciaaDoor.Pure
