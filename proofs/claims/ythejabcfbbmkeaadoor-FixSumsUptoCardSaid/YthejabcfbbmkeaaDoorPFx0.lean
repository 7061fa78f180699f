-- Written by a program of this session for this claim (wip/print2.sh). Lean checks it.
import Derived.Test.YthejabcfbbmkeaaDoorProg
import Derived.Below
import Derived.Deep.Draws
import Derived.Deep.AppendLies
import Derived.Maps.AppendAt
import Derived.OwnWalk
import Derived.Laws.BytesArg
import Derived.Laws.MakeOwn
import Derived.Laws.OwnMore
import Derived.Deep.OwnRows
import Derived.Tactics
import Derived.Lib.ConvBytes
import Derived.Laws.Slices
import Derived.WalkKit
import Derived.KernelRfl
import Derived.RowKit3
import Derived.Deep.LoopGhost
import Derived.Deep.QuietTactic
import Derived.BigQuiet
import Derived.WideLaws
import Derived.Deep.DeepCutAuto
import Derived.Deep.CutBlock
import Derived.Deep.RegionHeld3
import Derived.Laws.Rows
import Derived.Lib.AppendStr
import Derived.ArgAppend
import Derived.Laws.IdiomCopy
import Derived.OrdersHeld
import Derived.Laws.BitsLemmas
import Derived.RowKit
import Derived.Test.YthejabcfbbmkeaaDoorWWords
import Derived.Test.YthejabcfbbmkeaaDoorWLast
import Derived.Test.YthejabcfbbmkeaaDoorWTab
import Derived.Test.YthejabcfbbmkeaaDoorWFour
import Derived.Test.YthejabcfbbmkeaaDoorWQPut
import Derived.Test.YthejabcfbbmkeaaDoorWApart
import Derived.Test.YthejabcfbbmkeaaDoorWArr
import Derived.Test.YthejabcfbbmkeaaDoorWZeros
import Derived.Test.YthejabcfbbmkeaaDoorWFoot
import Derived.Test.YthejabcfbbmkeaaDoorWKept
import Derived.Test.YthejabcfbbmkeaaDoorWShare
import Derived.Test.YthejabcfbbmkeaaDoorWN
import Derived.Test.YthejabcfbbmkeaaDoorWFootNe
import Derived.Test.YthejabcfbbmkeaaDoorWAt
import Derived.Test.YthejabcfbbmkeaaDoorWEqStruct
import Derived.Test.YthejabcfbbmkeaaDoorWRepsOne
import Derived.Test.YthejabcfbbmkeaaDoorWInv
import Derived.Test.YthejabcfbbmkeaaDoorWInvWords
import Derived.Test.YthejabcfbbmkeaaDoorWGuard
import Derived.Test.YthejabcfbbmkeaaDoorWNEv
import Derived.Test.YthejabcfbbmkeaaDoorWMore
import Derived.Test.YthejabcfbbmkeaaDoorXCut
import Derived.Test.YthejabcfbbmkeaaDoorXExt
import Derived.Test.YthejabcfbbmkeaaDoorXFlo
import Derived.Test.YthejabcfbbmkeaaDoorXOpen
import Derived.Test.YthejabcfbbmkeaaDoorXReg
namespace Go.Proofs.YthejabcfbbmkeaaDoor.PF
open Go.Proofs.YthejabcfbbmkeaaDoorW.PrintWords
attribute [local go_sem high] fx_eql fx_neq fx_lss fx_leq fx_gtr fx_geq fx_add fx_sub fx_mul fx_neg fx_toint cxx_add cxx_sub cxx_mul cxx_eql cxx_neq cxx_pick st_float st_complex
open Go.RowKit Go.Proofs.YthejabcfbbmkeaaDoorW.PrintWords Go.Proofs.YthejabcfbbmkeaaDoorW.PrintLast Go.Proofs.YthejabcfbbmkeaaDoorW.PrintMore
attribute [local go_sem] max2_int min2_int max_two min_two max_three min_three max_four min_four   -- for this text's walks alone
set_option linter.unusedVariables false
set_option linter.unusedSimpArgs false



def errW : Option Int → Value
  | none => .nilIface
  | some c => .iface 0 (.int .i64 c)
theorem errW_none : errW none = .nilIface := rfl
theorem errW_some (c : Int) : errW (some c) = .iface 0 (.int .i64 c) := rfl

theorem info2 : (Tryd.prog.info? 2).map (fun i => (i.zero, i.size, i.bytes)) = some (some (.int .i64 0), 1, 8) := by kernel_rfl
theorem info23 : (Tryd.prog.info? 23).map (fun i => (i.zero, i.size, i.bytes)) = some (some (.int .i64 0), 1, 8) := by kernel_rfl
-- the values' own types

theorem ext29 (x y c : Int) (h : c01 c = true) (W : World) : (callFunc 29 #[.int .u64 x, .int .u64 y, .int .u64 c]).run Tryd.prog W = .ok (.value (.tuple #[.int .u64 (u64add x y c), .int .u64 (u64car x y c)])) W :=
  ext_add64 Tryd.func29 (by kernel_rfl) (by kernel_rfl) (by kernel_rfl) (by kernel_rfl) x y c h W
end Go.Proofs.YthejabcfbbmkeaaDoor.PF
