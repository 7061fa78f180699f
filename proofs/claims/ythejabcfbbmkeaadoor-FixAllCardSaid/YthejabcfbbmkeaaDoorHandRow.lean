/- From a row's condition (what the listed variables read as) to what the walks lean on. -/
import Derived.Test.YthejabcfbbmkeaaDoorHand
import Derived.Test.YthejabcfbbmkeaaDoorRows
import Derived.Lib.LaidTab
import Derived.Stop.LaidErr
import Derived.KernelRfl
set_option linter.unusedVariables false
namespace Go.Proofs.YthejabcfbbmkeaaDoor.Hand
open Go Go.RowKit Go.Lib Go.Proofs
theorem var_below {P : Program} {w w' : World} {name : String} {cs : Array Value} (h : w.var? P name = some cs) (hb : Below w.heap.size w w') : w'.var? P name = some cs := by
  unfold World.var? at *
  cases hg : P.globalNamed name with
  | none => simp [hg] at h
  | some g =>
    simp only [hg, Option.bind_some] at h ⊢
    have hlt : g < w.heap.size := by
      rcases Nat.lt_or_ge g w.heap.size with h' | h'
      · exact h'
      · rw [Array.getElem?_eq_none h'] at h; simp at h
    rw [hb.block g hlt]
    exact h
theorem gTab : Tryd.prog.globalNamed "internal/strconv.uint64pow10" = some 2 := by kernel_rfl
theorem gTabType : (Tryd.prog.globals[2]?).map (·.type) = some 81 := by kernel_rfl
theorem cells50 : Tryd.prog.cellsOf 50 = 1 := by kernel_rfl
theorem cells81 : Tryd.prog.cellsOf 81 = 20 := by kernel_rfl
theorem t1_of {rest : List (String × DataW Unit)} {W : World} (h : laidMet Tryd.prog (("internal/strconv.uint64pow10", Rows.laid_internal_strconv_uint64pow10) :: rest) W) : T1 W := fun w' hb =>
  Lib.tabBelow_of_tabIs (Lib.tabIs_of_head (zs := Lib.pow10Tab) (k := .u64) gTab gTabType Tryd.underlying81 Tryd.underlying50 cells50 cells81 h) w' hb
theorem gRange : Tryd.prog.globalNamed "strconv.ErrRange" = some 4 := by kernel_rfl
theorem gRangeType : (Tryd.prog.globals[4]?).map (·.type) = some 61 := by kernel_rfl
theorem gSyntax : Tryd.prog.globalNamed "strconv.ErrSyntax" = some 3 := by kernel_rfl
theorem gSyntaxType : (Tryd.prog.globals[3]?).map (·.type) = some 61 := by kernel_rfl
theorem cellsES : Tryd.prog.cellsOf 95 = 1 := by kernel_rfl
theorem cellsS : Tryd.prog.cellsOf 9 = 1 := by kernel_rfl
theorem starES : "*" ++ "errors.errorString" = "*errors.errorString" := by decide
theorem rowES (u : TypeId) (h : Tryd.prog.typeName? 3 u = some "*errors.errorString") : u = 93 :=
  typeName_ptr_named (nm := "errors.errorString") (by rw [starES]; kernel_rfl) (by kernel_rfl) (by decide) u (by rw [starES]; exact h)
theorem t2_of {rest : List (String × DataW Unit)} {W : World} (h : laidMet Tryd.prog (("internal/strconv.uint64pow10", Rows.laid_internal_strconv_uint64pow10) :: ("strconv.ErrRange", Rows.laid_strconv_ErrRange) :: ("strconv.ErrSyntax", Rows.laid_strconv_ErrSyntax) :: rest) W) : T2 W := fun w' hb => by
  refine ⟨t1_of h w' hb, ?_, ?_⟩
  · obtain ⟨a, s, hv, _, _, _⟩ := laid_sentinel h.tail.tail gSyntax gSyntaxType Tryd.underlying61 rowES Tryd.underlying93 Tryd.underlying95 rfl rfl Tryd.underlying9 cellsES cellsS
    exact ⟨_, _, var_below hv hb⟩
  · obtain ⟨a, s, hv, _, _, _⟩ := laid_sentinel h.tail gRange gRangeType Tryd.underlying61 rowES Tryd.underlying93 Tryd.underlying95 rfl rfl Tryd.underlying9 cellsES cellsS
    exact ⟨_, _, var_below hv hb⟩
end Go.Proofs.YthejabcfbbmkeaaDoor.Hand
