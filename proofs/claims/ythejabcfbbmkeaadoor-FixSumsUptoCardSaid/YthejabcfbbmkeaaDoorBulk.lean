/- What the second form's bound gives: a list read as a slice is no longer than its reading's bulk. -/
import Derived.Test.YthejabcfbbmkeaaDoorRows
import Derived.Deep.Slices
set_option linter.unusedVariables false
namespace Go.Proofs.YthejabcfbbmkeaaDoor.Bulk
open Go
theorem pos {H : Type} : ∀ d : DataW H, 1 ≤ Rows.uptoBulk d
  | .lit l => by cases l <;> simp [Rows.uptoBulk]
  | .nil => by simp [Rows.uptoBulk]
  | .ptr d => by simp [Rows.uptoBulk]
  | .slice a b => by simp [Rows.uptoBulk]
  | .agg p => by simp [Rows.uptoBulk]
  | .iface t d => by simp [Rows.uptoBulk]
  | .map m => by simp [Rows.uptoBulk]
  | .held h => by simp [Rows.uptoBulk]
theorem many {H : Type} : ∀ l : List (DataW H), l.length ≤ Rows.uptoBulkAll l
  | [] => Nat.zero_le _
  | d :: r => by
    have h1 := pos d
    have h2 := many r
    simp only [Rows.uptoBulkAll, List.length_cons]
    omega
theorem bound {H : Type} {l : List (DataW H)} (h : Rows.uptoSmall H l = true) : Rows.uptoBulkAll l ≤ 1048576 := of_decide_eq_true h
/-- A slice's length is at most its reading's bulk. -/
theorem slice {H : Type} {enc : TypeId × Value → H} {P : Program} {w : World} {base : Nat} {spare : Nat → Bool} {held : Bool} {t e : TypeId} {A : Option Addr} {n c : Nat} {d : DataW H} {ps : List MemPlace}
    (ht : P.underlying t = some (.slice e)) (h : DataW.Trod enc P w base spare held t (.slice A n c) d ps) : n ≤ Rows.uptoBulk d := by
  obtain ⟨fuel, h⟩ := h
  have hc : (Value.slice A n c).cells.toList = [.slice A n c] := rfl
  rw [hc] at h
  rcases Go.Deep.open_slice ht h with ⟨e1, _⟩ | ⟨a, len, cap, m, k, D, Pl, e1, _, _, _, _, e2, _⟩
  · simp only [List.cons.injEq, Value.slice.injEq, and_true] at e1
    omega
  · simp only [List.cons.injEq, Value.slice.injEq, and_true] at e1
    have e3 : d = _ := (Prod.mk.inj e2).1
    have h1 := many ((List.range len).map D)
    rw [List.length_map, List.length_range] at h1
    rw [e3]
    simp only [Rows.uptoBulk]
    omega
end Go.Proofs.YthejabcfbbmkeaaDoor.Bulk
