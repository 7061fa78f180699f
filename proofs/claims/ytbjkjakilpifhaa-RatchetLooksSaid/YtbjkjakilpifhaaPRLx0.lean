-- Written by a program of this session for this claim (wip/print2.sh). Lean checks it.
import Derived.Test.YtbjkjakilpifhaaProg
import Derived.Below
import Derived.Deep.Draws
import Derived.Deep.AppendLies
import Derived.Maps.AppendAt
import Derived.OwnWalk
import Derived.Laws.BytesArg
import Derived.Laws.MakeOwn
import Derived.Laws.OwnMore
import Derived.Deep.OwnRows
import Derived.Tactics
import Derived.Lib.ConvBytes
import Derived.Laws.Slices
import Derived.WalkKit
import Derived.KernelRfl
import Derived.RowKit3
import Derived.Deep.LoopGhost
import Derived.Deep.QuietTactic
import Derived.BigQuiet
import Derived.WideLaws
import Derived.Deep.DeepCutAuto
import Derived.Deep.CutBlock
import Derived.Deep.RegionHeld3
import Derived.Laws.Rows
import Derived.Lib.AppendStr
import Derived.ArgAppend
import Derived.Laws.IdiomCopy
import Derived.OrdersHeld
import Derived.Laws.BitsLemmas
import Derived.RowKit
import Derived.Test.YtbjkjakilpifhaaWWords
import Derived.Test.YtbjkjakilpifhaaWLast
import Derived.Test.YtbjkjakilpifhaaWTab
import Derived.Test.YtbjkjakilpifhaaWFour
import Derived.Test.YtbjkjakilpifhaaWQPut
import Derived.Test.YtbjkjakilpifhaaWApart
import Derived.Test.YtbjkjakilpifhaaWArr
import Derived.Test.YtbjkjakilpifhaaWZeros
import Derived.Test.YtbjkjakilpifhaaWFoot
import Derived.Test.YtbjkjakilpifhaaWKept
import Derived.Test.YtbjkjakilpifhaaWShare
import Derived.Test.YtbjkjakilpifhaaWN
import Derived.Test.YtbjkjakilpifhaaWFootNe
import Derived.Test.YtbjkjakilpifhaaWAt
import Derived.Test.YtbjkjakilpifhaaWEqStruct
import Derived.Test.YtbjkjakilpifhaaWRepsOne
import Derived.Test.YtbjkjakilpifhaaWInv
import Derived.Test.YtbjkjakilpifhaaWInvWords
import Derived.Test.YtbjkjakilpifhaaWGuard
import Derived.Test.YtbjkjakilpifhaaWNEv
import Derived.Test.YtbjkjakilpifhaaWMore
import Derived.Test.YtbjkjakilpifhaaXCut
import Derived.Test.YtbjkjakilpifhaaXExt
import Derived.Test.YtbjkjakilpifhaaXFlo
import Derived.Test.YtbjkjakilpifhaaXOpen
namespace Go.Proofs.Ytbjkjakilpifhaa.PRL
open Go.Proofs.YtbjkjakilpifhaaW.PrintWords
attribute [local go_sem high] fx_eql fx_neq fx_lss fx_leq fx_gtr fx_geq fx_add fx_sub fx_mul fx_neg fx_toint cxx_add cxx_sub cxx_mul cxx_eql cxx_neq cxx_pick st_float st_complex
open Go.RowKit Go.Proofs.YtbjkjakilpifhaaW.PrintWords Go.Proofs.YtbjkjakilpifhaaW.PrintLast Go.Proofs.YtbjkjakilpifhaaW.PrintMore
attribute [local go_sem] max2_int min2_int max_two min_two max_three min_three max_four min_four   -- for this text's walks alone
set_option linter.unusedVariables false
set_option linter.unusedSimpArgs false



def errW : Option Int → Value
  | none => .nilIface
  | some c => .iface 0 (.int .i64 c)
theorem errW_none : errW none = .nilIface := rfl
theorem errW_some (c : Int) : errW (some c) = .iface 0 (.int .i64 c) := rfl

theorem info2 : (Try.prog.info? 2).map (fun i => (i.zero, i.size, i.bytes)) = some (some (.int .i64 0), 1, 8) := by kernel_rfl
-- the values' own types

theorem ext40 (x y c : Int) (h : c01 c = true) (W : World) : (callFunc 40 #[.int .u64 x, .int .u64 y, .int .u64 c]).run Try.prog W = .ok (.value (.tuple #[.int .u64 (u64add x y c), .int .u64 (u64car x y c)])) W :=
  ext_add64 Try.func40 (by kernel_rfl) (by kernel_rfl) (by kernel_rfl) (by kernel_rfl) x y c h W
end Go.Proofs.Ytbjkjakilpifhaa.PRL
