/- From a row's condition (what the listed variables read as) to what the walks lean on. -/
import Derived.Test.YtofedlghaopciaaDoorHand
import Derived.Test.YtofedlghaopciaaDoorRows
import Derived.Test.YtofedlghaopciaaDoorHandS
import Derived.Lib.LaidU8T
import Derived.Lib.LaidTab
import Derived.Stop.LaidErr
import Derived.KernelRfl
set_option linter.unusedVariables false
namespace Go.Proofs.YtofedlghaopciaaDoor.Hand
open Go Go.RowKit Go.Lib Go.Proofs
theorem var_below {P : Program} {w w' : World} {name : String} {cs : Array Value} (h : w.var? P name = some cs) (hb : Below w.heap.size w w') : w'.var? P name = some cs := by
  unfold World.var? at *
  cases hg : P.globalNamed name with
  | none => simp [hg] at h
  | some g =>
    simp only [hg, Option.bind_some] at h ⊢
    have hlt : g < w.heap.size := by
      rcases Nat.lt_or_ge g w.heap.size with h' | h'
      · exact h'
      · rw [Array.getElem?_eq_none h'] at h; simp at h
    rw [hb.block g hlt]
    exact h
theorem gTab : Tryd.prog.globalNamed "internal/strconv.uint64pow10" = some 2 := by kernel_rfl
theorem gTabType : (Tryd.prog.globals[2]?).map (·.type) = some 84 := by kernel_rfl
theorem cells50 : Tryd.prog.cellsOf 67 = 1 := by kernel_rfl
theorem cells81 : Tryd.prog.cellsOf 84 = 20 := by kernel_rfl
theorem t1_of {rest : List (String × DataW Unit)} {W : World} (h : laidMet Tryd.prog (("internal/strconv.uint64pow10", Rows.laid_internal_strconv_uint64pow10) :: rest) W) : T1 W := fun w' hb =>
  Lib.tabBelow_of_tabIs (Lib.tabIs_of_head (zs := Lib.pow10Tab) (k := .u64) gTab gTabType Tryd.underlying84 Tryd.underlying67 cells50 cells81 h) w' hb
theorem gRange : Tryd.prog.globalNamed "strconv.ErrRange" = some 6 := by kernel_rfl
theorem gRangeType : (Tryd.prog.globals[6]?).map (·.type) = some 55 := by kernel_rfl
theorem gSyntax : Tryd.prog.globalNamed "strconv.ErrSyntax" = some 5 := by kernel_rfl
theorem gSyntaxType : (Tryd.prog.globals[5]?).map (·.type) = some 55 := by kernel_rfl
theorem cellsES : Tryd.prog.cellsOf 101 = 1 := by kernel_rfl
theorem cellsS : Tryd.prog.cellsOf 9 = 1 := by kernel_rfl
theorem starES : "*" ++ "errors.errorString" = "*errors.errorString" := by decide
theorem rowES (u : TypeId) (h : Tryd.prog.typeName? 3 u = some "*errors.errorString") : u = 99 :=
  typeName_ptr_named (nm := "errors.errorString") (by rw [starES]; kernel_rfl) (by kernel_rfl) (by decide) u (by rw [starES]; exact h)
theorem t2_of {rest : List (String × DataW Unit)} {W : World} (h : laidMet Tryd.prog (("internal/strconv.uint64pow10", Rows.laid_internal_strconv_uint64pow10) :: ("strconv.ErrRange", Rows.laid_strconv_ErrRange) :: ("strconv.ErrSyntax", Rows.laid_strconv_ErrSyntax) :: rest) W) : T2 W := fun w' hb => by
  refine ⟨t1_of h w' hb, ?_, ?_⟩
  · obtain ⟨a, s, hv, _, _, _⟩ := laid_sentinel h.tail.tail gSyntax gSyntaxType Tryd.underlying55 rowES Tryd.underlying99 Tryd.underlying101 rfl rfl Tryd.underlying9 cellsES cellsS
    exact ⟨_, _, var_below hv hb⟩
  · obtain ⟨a, s, hv, _, _, _⟩ := laid_sentinel h.tail gRange gRangeType Tryd.underlying55 rowES Tryd.underlying99 Tryd.underlying101 rfl rfl Tryd.underlying9 cellsES cellsS
    exact ⟨_, _, var_below hv hb⟩
theorem u8types : U8Types Tryd.prog Tryd.lays271_ren := { Tryd.lays271 with }
theorem u8extra : U8Extra Tryd.prog Tryd.lays271_ren := ⟨by kernel_rfl, by kernel_rfl, by kernel_rfl, by kernel_rfl, by kernel_rfl, by kernel_rfl, by kernel_rfl⟩
theorem first_is : Rows.laid_unicode_utf8_first = firstData := by kernel_rfl
theorem accept_is : Rows.laid_unicode_utf8_acceptRanges = acceptData := by kernel_rfl
theorem tabs_below {w w' : World} {a b : Nat} (h : Lib.Utf8Tabs a b w) (ha : a < w.heap.size) (hb : b < w.heap.size) (hw : Below w.heap.size w w') : Lib.Utf8Tabs a b w' :=
  ⟨fun c hc => (hw.cell ha).trans (h.1 c hc), fun i hi => ⟨(hw.cell hb).trans (h.2 i hi).1, (hw.cell hb).trans (h.2 i hi).2⟩⟩
theorem lt_of_cell {w : World} {a o : Nat} {v : Value} (h : w.cell? ⟨a, o, none⟩ = some v) : a < w.heap.size := by
  rcases Nat.lt_or_ge a w.heap.size with g | g
  · exact g
  · unfold World.cell? at h
    rw [Array.getElem?_eq_none g] at h
    simp at h
theorem t3_of {rest : List (String × DataW Unit)} {W : World} (h : laidMet Tryd.prog (("internal/strconv.uint64pow10", Rows.laid_internal_strconv_uint64pow10) :: ("unicode/utf8.acceptRanges", Rows.laid_unicode_utf8_acceptRanges) :: ("strconv.ErrRange", Rows.laid_strconv_ErrRange) :: ("strconv.ErrSyntax", Rows.laid_strconv_ErrSyntax) :: ("unicode/utf8.first", Rows.laid_unicode_utf8_first) :: rest) W) : T3 W := fun w' hb => by
  refine ⟨⟨t1_of h w' hb, ?_, ?_⟩, ?_⟩
  · obtain ⟨a, s, hv, _, _, _⟩ := laid_sentinel h.tail.tail.tail gSyntax gSyntaxType Tryd.underlying55 rowES Tryd.underlying99 Tryd.underlying101 rfl rfl Tryd.underlying9 cellsES cellsS
    exact ⟨_, _, var_below hv hb⟩
  · obtain ⟨a, s, hv, _, _, _⟩ := laid_sentinel h.tail.tail gRange gRangeType Tryd.underlying55 rowES Tryd.underlying99 Tryd.underlying101 rfl rfl Tryd.underlying9 cellsES cellsS
    exact ⟨_, _, var_below hv hb⟩
  · have h3 := Go.Lib.laidMet.reads h (n := "unicode/utf8.first") (d := Rows.laid_unicode_utf8_first) (by simp)
    have h4 := Go.Lib.laidMet.reads h (n := "unicode/utf8.acceptRanges") (d := Rows.laid_unicode_utf8_acceptRanges) (by simp)
    rw [first_is] at h3
    rw [accept_is] at h4
    have ht := utf8Tabs_of_readsT u8types u8extra h3 h4
    exact tabs_below ht (lt_of_cell (ht.1 0 (by decide))) (lt_of_cell (ht.2 0 (by decide)).1) hb
end Go.Proofs.YtofedlghaopciaaDoor.Hand
