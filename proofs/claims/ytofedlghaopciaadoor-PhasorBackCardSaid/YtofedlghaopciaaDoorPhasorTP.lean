/- Texts of complex numbers: Of, Parts, Text, Read, each said in plain words. -/
import Derived.Test.YtofedlghaopciaaDoorFixTP
import Derived.Test.YtofedlghaopciaaDoorPhasorP
import Derived.Test.YtofedlghaopciaaDoorSign
import Derived.Test.YtofedlghaopciaaDoorPPx1
import Derived.Test.YtofedlghaopciaaDoorPPx2
import Derived.Test.YtofedlghaopciaaDoorPPx5
set_option linter.unusedVariables false
set_option linter.unusedSimpArgs false
namespace Go.Proofs.YtofedlghaopciaaDoor.PureP
open Go.RowKit Go.Proofs.YtofedlghaopciaaDoor.PP Go.Proofs.YtofedlghaopciaaDoor.Num Go.Proofs.YtofedlghaopciaaDoor.Flt Go.Proofs.YtofedlghaopciaaDoor.Dig Go.Proofs.YtofedlghaopciaaDoor.Sign Go.Proofs.YtofedlghaopciaaDoorW.PrintWords Go.Proofs.YtofedlghaopciaaDoorW.PrintLast Go.Proofs.YtofedlghaopciaaDoorW.PrintMore

theorem fixtext_f {n : Int} (h0 : -9223372036854775808 ≤ n) (h1 : n ≤ 9223372036854775807) : fix_Text.f n = some ⟨(Lib.itoa n).toArray⟩ := by
  unfold fix_Text.f Hand.textA
  rw [if_pos ⟨h0, h1⟩]
theorem app_mk (l m : List UInt8) : (ByteArray.mk l.toArray) ++ (ByteArray.mk m.toArray) = ⟨(l ++ m).toArray⟩ := by
  apply ByteArray.ext
  rw [ByteArray.data_append]
  simp
def zOf (a b : Int) : Cx := cx (floatOfInt .f64 a) (floatOfInt .f64 b)
theorem small_of {a b : Int} (ha : a.natAbs ≤ 33554432) (hb : b.natAbs ≤ 33554432) : Small (zOf a b) a b := ⟨⟨of_int (by omega), ha⟩, of_int (by omega), hb⟩
theorem bits_of (a b : Int) : Bits (zOf a b) := ⟨fint_lt a, fint_lt b⟩
theorem small_0 : Small (cx 0 0) 0 0 := ⟨⟨is_zero, by decide⟩, is_zero, by decide⟩
theorem bits_0 : Bits (cx 0 0) := ⟨by decide, by decide⟩
theorem of_yes {a b : Int} (ha : a.natAbs ≤ 33554432) (hb : b.natAbs ≤ 33554432) : phasor_Of.f a b = some (zOf a b, 0) := by
  unfold phasor_Of.f
  rw [if_neg (by omega), if_neg (by omega), if_neg (by omega), if_neg (by omega)]
  rfl
theorem of_no {a b : Int} (h : ¬ (a.natAbs ≤ 33554432 ∧ b.natAbs ≤ 33554432)) : phasor_Of.f a b = some (cx 0 0, 5) := by
  unfold phasor_Of.f
  by_cases h1 : a < -33554432
  · rw [if_pos h1]
  · rw [if_neg h1]
    by_cases h2 : a > 33554432
    · rw [if_pos h2]
    · rw [if_neg h2]
      by_cases h3 : b < -33554432
      · rw [if_pos h3]
      · rw [if_neg h3, if_pos (by omega)]
theorem parts_f {z : Cx} {a b : Int} (hb : Bits z) (h : Small z a b) : phasor_Parts.f z = some (a, b, 0) := by
  obtain ⟨⟨h1, h2⟩, h3, h4⟩ := id h
  have t1 := h1.toint (by omega) (by omega)
  have t3 := h3.toint (by omega) (by omega)
  unfold phasor_Parts.f
  rw [fits_yes hb h]
  simp only [Option.bind_some, if_true, t1.1, t1.2, t3.1, t3.2]
def txt (a b : Int) : List UInt8 := Lib.itoa a ++ ((if b < 0 then [] else [43]) ++ (Lib.itoa b ++ [105]))
theorem ptext_f {z : Cx} {a b : Int} (hb : Bits z) (h : Small z a b) : phasor_Text.f z = some (⟨(txt a b).toArray⟩, 0) := by
  have hp := parts_f hb h
  obtain ⟨⟨h1, h2⟩, h3, h4⟩ := h
  have l1 := Lib.itoa_length_le a (by omega) (by omega)
  have l2 := Lib.itoa_length_le b (by omega) (by omega)
  unfold phasor_Text.f txt
  rw [hp]
  simp only [Option.bind_some, if_true, fixtext_f (n := a) (by omega) (by omega), fixtext_f (n := b) (by omega) (by omega)]
  by_cases c : b < 0
  · have e1 : (ByteArray.mk (Lib.itoa a).toArray) ++ (⟨#[]⟩ : ByteArray) = ⟨(Lib.itoa a).toArray⟩ := by
      have := app_mk (Lib.itoa a) []
      rw [List.append_nil] at this
      exact this
    have e3 := app_mk (Lib.itoa a ++ Lib.itoa b) [105]
    simp only [if_pos c, e1, app_mk, sz_mk]
    rw [if_pos (by omega), if_pos (by omega), if_pos (by simp; omega)]
    simp
  · have e1 := app_mk (Lib.itoa a) [43]
    have e3 := app_mk (Lib.itoa a ++ [43] ++ Lib.itoa b) [105]
    have e43 : (⟨#[43]⟩ : ByteArray) = ⟨[(43 : UInt8)].toArray⟩ := rfl
    have e105 : (⟨#[105]⟩ : ByteArray) = ⟨[(105 : UInt8)].toArray⟩ := rfl
    simp only [if_neg c, e43, e105, e1, app_mk, sz_mk]
    rw [if_pos (by omega), if_pos (by simp; omega), if_pos (by simp; omega)]
    simp

/-! ### The trims -/
theorem take_mk (l : List UInt8) (n : Nat) : (ByteArray.mk l.toArray).extract 0 n = ⟨(l.take n).toArray⟩ := by
  apply ByteArray.ext
  rw [ByteArray.data_extract]
  apply Array.ext'
  simp
theorem drop_mk (l : List UInt8) (n : Nat) : (ByteArray.mk l.toArray).extract n (ByteArray.mk l.toArray).size = ⟨(l.drop n).toArray⟩ := by
  apply ByteArray.ext
  rw [ByteArray.data_extract, sz_mk]
  apply Array.ext'
  have e : ((l.drop n).take (l.length - n)) = l.drop n := List.take_of_length_le (by simp)
  first | (simp [e]; done) | (rw [Array.toList_extract]; simp [List.extract, e]; done) | (rw [Array.toList_extract, List.extract_eq_take_drop]; exact e)
def tp (l : List UInt8) : List UInt8 := if l.take 1 = [43] then l.drop 1 else l
def ts (l : List UInt8) : List UInt8 := if l.length ≥ 1 ∧ l.drop (l.length - 1) = [105] then l.take (l.length - 1) else l
theorem tp_f (l : List UInt8) : strings_TrimPrefix.f ⟨l.toArray⟩ ⟨#[43]⟩ = some ⟨(tp l).toArray⟩ := by
  have e43 : (⟨#[43]⟩ : ByteArray) = ⟨[(43 : UInt8)].toArray⟩ := rfl
  unfold strings_TrimPrefix.f stringslite_TrimPrefix.f stringslite_HasPrefix.f tp
  rw [e43]
  simp only [sz_mk, List.length_cons, List.length_nil]
  by_cases c : ((l.length : Nat) : Int) ≥ ((0 + 1 : Nat) : Int)
  · rw [if_pos c, if_pos (by omega), if_pos (by omega)]
    simp only [Option.bind_some, show (((0 + 1 : Nat) : Int)).toNat = 1 by rfl, take_mk, list_mk]
    by_cases d : l.take 1 = [43]
    · rw [d]
      simp only [beq_self_eq_true, if_true, if_pos (show (0 : Int) ≤ ((0 + 1 : Nat) : Int) by omega), if_pos (show ((0 + 1 : Nat) : Int) ≤ (l.length : Int) by omega), Option.bind_some]
      have := drop_mk l 1
      rw [sz_mk] at this
      rw [this]
    · have e : (l.take 1 == [43]) = false := beq_eq_false_iff_ne.2 d
      rw [e, if_neg d]
      rfl
  · rw [if_neg c]
    have e : l = [] := List.eq_nil_of_length_eq_zero (by omega)
    subst e
    rfl
theorem ts_f (l : List UInt8) (hl : l.length ≤ 281474976710656) : strings_TrimSuffix.f ⟨l.toArray⟩ ⟨#[105]⟩ = some ⟨(ts l).toArray⟩ := by
  have e43 : (⟨#[105]⟩ : ByteArray) = ⟨[(105 : UInt8)].toArray⟩ := rfl
  unfold strings_TrimSuffix.f stringslite_TrimSuffix.f stringslite_HasSuffix.f ts
  rw [e43]
  simp only [sz_mk, List.length_cons, List.length_nil]
  by_cases c : ((l.length : Nat) : Int) ≥ ((0 + 1 : Nat) : Int)
  · have hw : wrap64 ((l.length : Int) - ((0 + 1 : Nat) : Int)) = ((l.length - 1 : Nat) : Int) := by rw [i64in (by omega) (by omega)]; omega
    rw [if_pos c, hw, if_pos (by omega), if_pos (by omega)]
    have hd := drop_mk l (l.length - 1)
    rw [sz_mk] at hd
    simp only [Option.bind_some, Int.toNat_natCast, hd, list_mk]
    by_cases d : l.drop (l.length - 1) = [105]
    · rw [d]
      simp only [beq_self_eq_true, if_true, if_pos (show (0 : Int) ≤ ((l.length - 1 : Nat) : Int) by omega), if_pos (show ((l.length - 1 : Nat) : Int) ≤ (l.length : Int) by omega), Option.bind_some, take_mk]
      rw [if_pos ⟨by omega, trivial⟩]
    · have e : (l.drop (l.length - 1) == [105]) = false := beq_eq_false_iff_ne.2 d
      rw [e]
      simp only [Bool.false_eq_true, if_false, Option.bind_some]
      rw [if_neg (show ¬ (l.length ≥ 1 ∧ l.drop (l.length - 1) = [105]) from fun h => d h.2)]
  · rw [if_neg c]
    simp only [Bool.false_eq_true, if_false, Option.bind_some]
    rw [if_neg (show ¬ (l.length ≥ 1 ∧ l.drop (l.length - 1) = [105]) from fun h => by have := h.1; omega)]
theorem tp_len (l : List UInt8) : (tp l).length ≤ l.length := by unfold tp; split <;> simp
theorem ts_len (l : List UInt8) : (ts l).length ≤ l.length := by unfold ts; split <;> simp

/-! ### Read -/
theorem last_f (l : List UInt8) (hl : l.length ≤ 281474976710656) : strings_LastIndexAny.f ⟨l.toArray⟩ ⟨#[43, 45]⟩ = some (lastAny l) := by
  unfold strings_LastIndexAny.f Hand.lastA
  rw [if_pos ⟨rfl, by rw [sz_mk]; exact hl⟩]
theorem pread_no (l : List UInt8) (hl : l.length ≤ 281474976710656) (h : lastAny l < 1) : Ev (fun k => phasor_Read.f k ⟨l.toArray⟩) (cx 0 0, 1) := by
  unfold phasor_Read.f
  simp only [last_f l hl, Option.bind_some, if_pos h]
  exact Ev.now _
/-- What Of makes of two numbers, as a small number. -/
theorem of_any (a b : Int) : ∃ z e a' b', phasor_Of.f a b = some (z, e) ∧ Small z a' b' ∧ Bits z ∧ (e = 0 ∨ e = 5) ∧ (e = 0 → z = zOf a b ∧ a' = a ∧ b' = b) := by
  by_cases h : a.natAbs ≤ 33554432 ∧ b.natAbs ≤ 33554432
  · exact ⟨_, _, a, b, of_yes h.1 h.2, small_of h.1 h.2, bits_of a b, .inl rfl, fun _ => ⟨rfl, rfl, rfl⟩⟩
  · exact ⟨_, _, 0, 0, of_no h, small_0, bits_0, .inr rfl, fun h => absurd h (by decide)⟩
theorem pread_yes (l : List UInt8) (hl : l.length ≤ 281474976710656) {c : Nat} (hc : lastAny l = c) (h1 : 1 ≤ c) (h2 : c ≤ l.length) {z : Cx} {e a b : Int}
    (ho : phasor_Of.f (readA (l.take c)).1 (readA (ts (tp (l.drop c)))).1 = some (z, e)) (hs : Small z a b) (hb : Bits z) :
    Ev (fun k => phasor_Read.f k ⟨l.toArray⟩) (if (readA (l.take c)).2 = 0 ∧ (readA (ts (tp (l.drop c)))).2 = 0 ∧ e = 0 ∧ txt a b = l then (z, 0) else (cx 0 0, 1)) := by
  have hd := drop_mk l c
  have l1 := tp_len (l.drop c)
  have l2 := ts_len (tp (l.drop c))
  have l3 : (l.drop c).length ≤ l.length := by simp
  have l4 : (l.take c).length ≤ l.length := by simp; omega
  unfold phasor_Read.f
  simp only [last_f l hl, Option.bind_some, hc, if_neg (show ¬ ((c : Nat) : Int) < 1 by omega), if_pos (show (0 : Int) ≤ (c : Int) by omega), sz_mk, if_pos (show (c : Int) ≤ (l.length : Int) by omega), Int.toNat_natCast]
  rw [sz_mk] at hd
  rw [take_mk, hd]
  refine Ev.bind (read_f (l.take c) (by omega)) ?_
  simp only [tp_f, Option.bind_some]
  rw [ts_f _ (by omega)]
  simp only [Option.bind_some]
  refine Ev.bind (read_f _ (by omega)) ?_
  rw [ho]
  simp only [Option.bind_some]
  rw [ptext_f hb hs]
  simp only [Option.bind_some, list_mk]
  by_cases c1 : (readA (l.take c)).2 = 0
  · by_cases c2 : (readA (ts (tp (l.drop c)))).2 = 0
    · by_cases c3 : e = 0
      · by_cases c4 : txt a b = l
        · simp only [if_pos c1, if_pos c2, if_pos c3, if_pos c4, if_true]
          rw [if_pos ⟨c1, c2, c3, c4⟩]
          exact Ev.now _
        · simp only [if_pos c1, if_pos c2, if_pos c3, if_neg c4, if_true]
          rw [if_neg (fun h => c4 h.2.2.2)]
          exact Ev.now _
      · simp only [if_pos c1, if_pos c2, if_neg c3]
        rw [if_neg (fun h => c3 h.2.2.1)]
        exact Ev.now _
    · simp only [if_pos c1, if_neg c2]
      rw [if_neg (fun h => c2 h.2.1)]
      exact Ev.now _
  · simp only [if_neg c1]
    rw [if_neg (fun h => c1 h.1)]
    exact Ev.now _
end Go.Proofs.YtofedlghaopciaaDoor.PureP
