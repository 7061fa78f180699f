-- Written by a program of this session for this claim (wip/print2.sh). Lean checks it.
import Derived.Test.YthejabcfbbmkeaaDoorProg
import Derived.Below
import Derived.Deep.Draws
import Derived.Deep.AppendLies
import Derived.Maps.AppendAt
import Derived.OwnWalk
import Derived.Laws.BytesArg
import Derived.Laws.MakeOwn
import Derived.Laws.OwnMore
import Derived.Deep.OwnRows
import Derived.Tactics
import Derived.Lib.ConvBytes
import Derived.Laws.Slices
import Derived.WalkKit
import Derived.KernelRfl
import Derived.RowKit3
import Derived.Deep.LoopGhost
import Derived.Deep.QuietTactic
import Derived.BigQuiet
import Derived.WideLaws
import Derived.Deep.DeepCutAuto
import Derived.Deep.CutBlock
import Derived.Deep.RegionHeld3
import Derived.Laws.Rows
import Derived.Lib.AppendStr
import Derived.ArgAppend
import Derived.Laws.IdiomCopy
import Derived.OrdersHeld
import Derived.Laws.BitsLemmas
import Derived.RowKit
import Derived.Test.YthejabcfbbmkeaaDoorWWords
import Derived.Test.YthejabcfbbmkeaaDoorWLast
import Derived.Test.YthejabcfbbmkeaaDoorWTab
import Derived.Test.YthejabcfbbmkeaaDoorWFour
import Derived.Test.YthejabcfbbmkeaaDoorWQPut
import Derived.Test.YthejabcfbbmkeaaDoorWApart
import Derived.Test.YthejabcfbbmkeaaDoorWArr
import Derived.Test.YthejabcfbbmkeaaDoorWZeros
import Derived.Test.YthejabcfbbmkeaaDoorWFoot
import Derived.Test.YthejabcfbbmkeaaDoorWKept
import Derived.Test.YthejabcfbbmkeaaDoorWShare
import Derived.Test.YthejabcfbbmkeaaDoorWN
import Derived.Test.YthejabcfbbmkeaaDoorWFootNe
import Derived.Test.YthejabcfbbmkeaaDoorWAt
import Derived.Test.YthejabcfbbmkeaaDoorWEqStruct
import Derived.Test.YthejabcfbbmkeaaDoorWRepsOne
import Derived.Test.YthejabcfbbmkeaaDoorWInv
import Derived.Test.YthejabcfbbmkeaaDoorWInvWords
import Derived.Test.YthejabcfbbmkeaaDoorWGuard
import Derived.Test.YthejabcfbbmkeaaDoorWNEv
import Derived.Test.YthejabcfbbmkeaaDoorWMore
import Derived.Test.YthejabcfbbmkeaaDoorXCut
import Derived.Test.YthejabcfbbmkeaaDoorXExt
import Derived.Test.YthejabcfbbmkeaaDoorXFlo
import Derived.Test.YthejabcfbbmkeaaDoorXOpen
import Derived.Test.YthejabcfbbmkeaaDoorXReg
namespace Go.Proofs.YthejabcfbbmkeaaDoor.PG
open Go.Proofs.YthejabcfbbmkeaaDoorW.PrintWords
attribute [local go_sem high] fx_eql fx_neq fx_lss fx_leq fx_gtr fx_geq fx_add fx_sub fx_mul fx_neg fx_toint cxx_add cxx_sub cxx_mul cxx_eql cxx_neq cxx_pick st_float st_complex
open Go.RowKit Go.Proofs.YthejabcfbbmkeaaDoorW.PrintWords Go.Proofs.YthejabcfbbmkeaaDoorW.PrintLast Go.Proofs.YthejabcfbbmkeaaDoorW.PrintMore
attribute [local go_sem] max2_int min2_int max_two min_two max_three min_three max_four min_four   -- for this text's walks alone
set_option linter.unusedVariables false
set_option linter.unusedSimpArgs false



def errW : Option Int → Value
  | none => .nilIface
  | some c => .iface 73 (.int .i64 c)
theorem errW_none : errW none = .nilIface := rfl
theorem errW_some (c : Int) : errW (some c) = .iface 73 (.int .i64 c) := rfl

-- the values' own types
def rd_L3 (xs : List (List Int)) (i : Int) : (List Int) := xs.getD i.toNat ([] : List Int)
/-! #### struct type 48 -/
structure S48 where
  f0 : Int
  f1 : Int
  f2 : Int
  f3 : Int
  f4 : ByteArray
  f5 : (List Int)
def z48 : S48 := ⟨(0 : Int), (0 : Int), (0 : Int), (0 : Int), (⟨#[]⟩ : ByteArray), ([] : List Int)⟩
def k48 : Kd S48 := Kd.iso (Kd.pair (Kd.int .i64) (Kd.pair (Kd.int .i64) (Kd.pair (Kd.int .i64) (Kd.pair (Kd.int .i64) (Kd.pair Kd.string (Kd.slice 2 (Kd.int .i64))))))) (fun x : S48 => (x.f0, x.f1, x.f2, x.f3, x.f4, x.f5))
theorem k48_open {w : World} {x : S48} {cs : List Value} (h : k48.K w x cs) : ∃ A5 c5, cs = [.int .i64 x.f0, .int .i64 x.f1, .int .i64 x.f2, .int .i64 x.f3, .string x.f4, .slice A5 x.f5.length c5] ∧ x.f5.length ≤ c5 ∧ (Kd.int .i64).C w A5 x.f5.length x.f5 := by
  obtain ⟨_, _, rfl, rfl, ⟨_, _, rfl, rfl, ⟨_, _, rfl, rfl, ⟨_, _, rfl, rfl, ⟨_, _, rfl, rfl, ⟨A5, c5, rfl, l5, g5⟩⟩⟩⟩⟩⟩ := h
  exact ⟨A5, c5, rfl, l5, g5⟩
def rd_T48 (xs : List S48) (i : Int) : S48 := xs.getD i.toNat z48
theorem at_T48 {w : World} {A : Option Addr} {n : Nat} {xs : List S48} (h : Kd.C k48 w A n xs) (i : Int) (h0 : 0 ≤ i) (h1 : i < n) : ∃ ad A5 c5, A = some ad ∧ w.cell? (ad.add (i.toNat * 6)) = some (.int .i64 (rd_T48 xs i).f0) ∧ w.cell? ⟨(ad.add (i.toNat * 6)).block, (ad.add (i.toNat * 6)).off + 1, none⟩ = some (.int .i64 (rd_T48 xs i).f1) ∧ w.cell? ⟨(ad.add (i.toNat * 6)).block, (ad.add (i.toNat * 6)).off + 2, none⟩ = some (.int .i64 (rd_T48 xs i).f2) ∧ w.cell? ⟨(ad.add (i.toNat * 6)).block, (ad.add (i.toNat * 6)).off + 3, none⟩ = some (.int .i64 (rd_T48 xs i).f3) ∧ w.cell? ⟨(ad.add (i.toNat * 6)).block, (ad.add (i.toNat * 6)).off + 4, none⟩ = some (.string (rd_T48 xs i).f4) ∧ w.cell? ⟨(ad.add (i.toNat * 6)).block, (ad.add (i.toNat * 6)).off + 5, none⟩ = some (.slice A5 (rd_T48 xs i).f5.length c5) ∧ (rd_T48 xs i).f5.length ≤ c5 ∧ (Kd.int .i64).C w A5 (rd_T48 xs i).f5.length (rd_T48 xs i).f5 := by
  obtain ⟨ad, c, e, _, hK, hc0⟩ := Kd.C_get h z48 i h0 h1
  have hc : ∀ j u, c[j]? = some u → w.cell? (ad.add (i.toNat * 6 + j)) = some u := hc0
  obtain ⟨A5, c5, rfl, l5, g5⟩ := k48_open hK
  exact ⟨ad, A5, c5, e, hc 0 _ rfl, by rw [← add_field _ _ 1 (by omega)]; exact hc 1 _ rfl, by rw [← add_field _ _ 2 (by omega)]; exact hc 2 _ rfl, by rw [← add_field _ _ 3 (by omega)]; exact hc 3 _ rfl, by rw [← add_field _ _ 4 (by omega)]; exact hc 4 _ rfl, by rw [← add_field _ _ 5 (by omega)]; exact hc 5 _ rfl, l5, g5⟩

theorem ext29 (x y c : Int) (h : c01 c = true) (W : World) : (callFunc 29 #[.int .u64 x, .int .u64 y, .int .u64 c]).run Tryd.prog W = .ok (.value (.tuple #[.int .u64 (u64add x y c), .int .u64 (u64car x y c)])) W :=
  ext_add64 Tryd.func29 (by kernel_rfl) (by kernel_rfl) (by kernel_rfl) (by kernel_rfl) x y c h W
/-- What reading tells of a struct of type 48. -/
def okS48 (x : S48) : Prop := ((Lit.int .i64 x.f0).wf = true) ∧ ((Lit.int .i64 x.f1).wf = true) ∧ ((Lit.int .i64 x.f2).wf = true) ∧ ((Lit.int .i64 x.f3).wf = true) ∧ (x.f4.size ≤ 140737488351232) ∧ (x.f5.length * 8 ≤ 140737488351232 ∧ ∀ y_ ∈ x.f5, (Lit.int .i64 y_).wf = true)
theorem opens48 (w : World) : Opens Tryd.prog w 48 k48 okS48 :=
  opens_imp (opens_iso (fun x : S48 => (x.f0, x.f1, x.f2, x.f3, x.f4, x.f5)) (fun p => ⟨p.1, p.2.1, p.2.2.1, p.2.2.2.1, p.2.2.2.2.1, p.2.2.2.2.2⟩) (fun _ => rfl) (opens_struct Tryd.underlying48 (by kernel_rfl) (fields_cons rfl (by kernel_rfl) (opens_int Tryd.underlying3) (fields_cons rfl (by kernel_rfl) (opens_int Tryd.underlying2) (fields_cons rfl (by kernel_rfl) (opens_int Tryd.underlying2) (fields_cons rfl (by kernel_rfl) (opens_int Tryd.underlying2) (fields_cons rfl (by kernel_rfl) (opens_string Tryd.underlying9) (fields_one rfl (by kernel_rfl) (opens_slice Tryd.underlying34 (B := 8) (by kernel_rfl) (by kernel_rfl) (opens_int Tryd.underlying2)))))))))) (fun _ h => h)
end Go.Proofs.YthejabcfbbmkeaaDoor.PG
