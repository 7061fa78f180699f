/- Texts of numbers: the reference's IsText and fix.Read, each said in plain words. -/
import Derived.Test.YtofedlghaopciaaDoorNum
import Derived.Test.YtofedlghaopciaaDoorDig
import Derived.Test.YtofedlghaopciaaDoorPPx4

import Derived.Laws.Strings
set_option linter.unusedVariables false
set_option linter.unusedSimpArgs false
namespace Go.Proofs.YtofedlghaopciaaDoor.PureP
open Go.RowKit Go.Proofs.YtofedlghaopciaaDoor.PP Go.Proofs.YtofedlghaopciaaDoor.Num Go.Proofs.YtofedlghaopciaaDoor.Dig Go.Proofs.YtofedlghaopciaaDoorW.PrintWords Go.Proofs.YtofedlghaopciaaDoorW.PrintLast Go.Proofs.YtofedlghaopciaaDoorW.PrintMore

theorem sz_mk (l : List UInt8) : (ByteArray.mk l.toArray).size = l.length := by simp [ByteArray.size]
theorem bt_mk (l : List UInt8) (i : Int) : bt ⟨l.toArray⟩ i = ((rdOf (0 : UInt8) l i).toNat : Int) := by
  unfold bt rdOf
  by_cases h : i.toNat < l.length
  · rw [dif_pos (by rw [sz_mk]; exact h), List.getD_eq_getElem?_getD, List.getElem?_eq_getElem h]; rfl
  · rw [dif_neg (by rw [sz_mk]; exact h), List.getD_eq_getElem?_getD, List.getElem?_eq_none (by omega)]; rfl
theorem list_mk (l : List UInt8) : (ByteArray.mk l.toArray).toList = l := by rw [ByteArray.toList_eq]
theorem tail_mk (l : List UInt8) : (ByteArray.mk l.toArray).extract 1 (ByteArray.mk l.toArray).size = ⟨l.tail.toArray⟩ := by
  apply ByteArray.ext
  rw [ByteArray.data_extract, sz_mk]
  apply Array.ext'
  cases l with
  | nil => rfl
  | cons a r => simp
/-- The sign's test. -/
theorem sign_mk (l : List UInt8) (h : 0 < l.length) : (bt ⟨l.toArray⟩ 0 == 45) = decide (l.head? = some 45) := by
  cases l with
  | nil => simp at h
  | cons a r =>
    rw [bt_mk]
    have e : rdOf (0 : UInt8) (a :: r) 0 = a := rfl
    rw [e]
    by_cases c : a = 45
    · subst c; simp
    · have : (a.toNat : Int) ≠ 45 := fun h => c (UInt8.toNat_inj.1 (show a.toNat = 45 by omega))
      simp [c, this]
theorem bt0 {l m : List UInt8} {c : UInt8} (h : l = c :: m) : bt ⟨l.toArray⟩ 0 = (c.toNat : Int) := by subst h; rw [bt_mk]; rfl
theorem is48 {c : UInt8} : (c.toNat : Int) = 48 ↔ c = 48 := ⟨fun h => UInt8.toNat_inj.1 (show c.toNat = 48 by omega), fun h => by subst h; rfl⟩
/-! ### fix.Read -/
/-- What the parse gives. -/
def readE (s : ByteArray) : Int × Int := if Hand.parseOk s = true then (Hand.parseV s, 0) else (0, 5)
theorem readE_num {l : List UInt8} (h : isNum l) : readE ⟨l.toArray⟩ = fits (num l) := by
  have hp := parse_num h
  unfold readE Hand.parseOk Hand.parseV fits
  by_cases c : -9223372036854775808 ≤ num l ∧ num l ≤ 9223372036854775807
  · rw [if_pos c] at hp ⊢
    simp only [hp, if_true]
  · rw [if_neg c] at hp ⊢
    simp only [hp, Bool.false_eq_true, if_false]
theorem read_loop (s : ByteArray) (hs : s.size ≤ 281474976710656) (l : List UInt8) (hl : (l.length : Int) ≤ 281474976710656) : ∀ (n : Nat) (i : Int), 0 ≤ i → i ≤ l.length → ((l.length : Int) - i).toNat = n →
    Ev (fun k => fix_Read.l0 k s ⟨l.toArray⟩ (l.length : Int) i) (if digs (l.drop i.toNat) then readE s else (0, 1)) := by
  intro n
  induction n with
  | zero =>
    intro i h0 h1 hn
    refine Ev.shift ?_
    simp only [fix_Read.l0, sz_mk, if_neg (show ¬ i < (l.length : Int) by omega), if_pos (show Hand.parseFit s = true from decide_eq_true hs)]
    rw [drop_end (by omega), if_pos (show digs [] from fun c hc => by cases hc)]
    simp only [Option.isNone_none, Option.isNone_some, if_true, Bool.false_eq_true, if_false]
    exact Ev.ofEqK fun k => by unfold readE; by_cases c : Hand.parseOk s = true <;> simp [c]
  | succ n ih =>
    intro i h0 h1 hn
    have hlt : i < (l.length : Int) := by omega
    have IH := ih (i + 1) (by omega) (by omega) (by omega)
    refine Ev.shift ?_
    simp only [fix_Read.l0, sz_mk, if_pos hlt, if_pos h0, bt_mk, i64in (x := i + 1) (by omega) (by omega)]
    rw [drop_cons (0 : UInt8) h0 hlt]
    generalize rdOf (0 : UInt8) l i = c at *
    by_cases c1 : (c.toNat : Int) < 48
    · simp only [if_pos c1]
      rw [if_neg (fun h => by have := (digs_cons.1 h).1; omega)]
      exact Ev.now _
    · by_cases c2 : (c.toNat : Int) > 57
      · simp only [if_neg c1, if_pos c2]
        rw [if_neg (fun h => by have := (digs_cons.1 h).1; omega)]
        exact Ev.now _
      · simp only [if_neg c1, if_neg c2]
        have e : (digs (c :: l.drop (i + 1).toNat)) = digs (l.drop (i + 1).toNat) := propext ⟨fun h => (digs_cons.1 h).2, fun h => digs_cons.2 ⟨by omega, h⟩⟩
        simp only [e]
        exact IH
theorem read_f (l : List UInt8) (hl : l.length ≤ 281474976710656) : Ev (fun k => fix_Read.f k ⟨l.toArray⟩) (readA l) := by
  have hm := mag_len l
  have j2t : ∀ m : List UInt8, Ev (fun k => fix_Read.j2 k ⟨l.toArray⟩ ⟨m.toArray⟩ true) (0, 1) := fun m => by
    refine Ev.shift ?_
    simp only [fix_Read.j2, if_true]
    exact Ev.now _
  have j2f : Ev (fun k => fix_Read.j2 k ⟨l.toArray⟩ ⟨(mag l).toArray⟩ false) (if digs (mag l) then readE ⟨l.toArray⟩ else (0, 1)) := by
    refine Ev.shift ?_
    simp only [fix_Read.j2, Bool.false_eq_true, if_false, sz_mk]
    have := read_loop ⟨l.toArray⟩ (by rw [sz_mk]; exact hl) (mag l) (by omega) _ 0 (by omega) (by omega) rfl
    simpa using this
  have key : Ev (fun k => fix_Read.j1 k ⟨l.toArray⟩ ⟨(mag l).toArray⟩) (readA l) := by
    refine Ev.shift ?_
    simp only [fix_Read.j1, sz_mk, list_mk]
    unfold readA
    rcases hM : mag l with _ | ⟨c, r⟩
    · simp only [if_true]
      rw [if_neg (fun h => h.2.1 hM)]
      exact j2t []
    · rw [hM] at j2f hm
      simp only [List.length_cons, reduceCtorEq, if_false] at hm ⊢
      simp only [if_pos (show (0 : Int) < ((r.length + 1 : Nat) : Int) by omega), bt0 (l := c :: r) rfl]
      by_cases h48 : c = 48
      · simp only [if_pos (is48.2 h48)]
        by_cases h1 : l = [48]
        · have hn : isNum l := by rw [h1]; decide
          have hd : digs (c :: r) := hM ▸ hn.1
          have e : (l != ([48] : List UInt8)) = false := by rw [h1]; rfl
          simp only [e]
          rw [if_pos hn, ← readE_num hn]
          rw [if_pos hd] at j2f
          exact j2f
        · have e : (l != ([48] : List UInt8)) = true := by simpa using h1
          simp only [e]
          rw [if_neg (fun h => h1 (h.2.2 (by rw [hM, h48]; rfl)))]
          exact j2t _
      · simp only [if_neg (fun h => h48 (is48.1 h))]
        by_cases hd : digs (c :: r)
        · have hn : isNum l := ⟨by rw [hM]; exact hd, by rw [hM]; simp, fun h2 => by rw [hM] at h2; simp at h2; exact absurd h2 h48⟩
          rw [if_pos hn, ← readE_num hn]
          rw [if_pos hd] at j2f
          exact j2f
        · rw [if_neg (fun h => hd (hM ▸ h.1))]
          rw [if_neg hd] at j2f
          exact j2f
  have j0 : Ev (fun k => fix_Read.j0 k ⟨l.toArray⟩ ⟨l.toArray⟩ (decide (l.head? = some 45))) (readA l) := by
    refine Ev.shift ?_
    simp only [fix_Read.j0]
    by_cases hn : l.head? = some 45
    · have hpos : 0 < l.length := by cases l with
        | nil => simp at hn
        | cons a r => simp
      have hM : mag l = l.tail := by unfold mag; rw [if_pos hn]
      rw [hM] at key
      simp only [hn, decide_true, if_true, if_pos (show (1 : Int) ≤ ((ByteArray.mk l.toArray).size : Int) by rw [sz_mk]; omega), tail_mk] at key ⊢
      exact key
    · have hM : mag l = l := by unfold mag; rw [if_neg hn]
      rw [hM] at key
      simp only [hn, decide_false, Bool.false_eq_true, if_false] at key ⊢
      exact key
  unfold fix_Read.f
  by_cases hp : 0 < l.length
  · simp only [sz_mk, if_pos (show ((l.length : Nat) : Int) > 0 by omega), if_pos (show (0 : Int) < ((l.length : Nat) : Int) by omega), sign_mk l hp]
    exact j0
  · have e : l = [] := List.eq_nil_of_length_eq_zero (by omega)
    simp only [sz_mk, if_neg (show ¬ ((l.length : Nat) : Int) > 0 by omega)]
    subst e
    exact j0
theorem itoa_len (n : Int) (h0 : -9223372036854775808 ≤ n) (h1 : n ≤ 9223372036854775807) : (Lib.itoa n).length ≤ 21 := Lib.itoa_length_le n h0 h1
theorem readA_itoa {n : Int} (h0 : -9223372036854775808 ≤ n) (h1 : n ≤ 9223372036854775807) : readA (Lib.itoa n) = (n, 0) := by
  unfold readA fits
  rw [if_pos (itoa_num n).1, (itoa_num n).2, if_pos ⟨h0, h1⟩]
end Go.Proofs.YtofedlghaopciaaDoor.PureP
