-- Written by a program of this session for this claim (wip/print2.sh). Lean checks it.
import Derived.Test.YtofedlghaopciaaProg
import Derived.Below
import Derived.Deep.Draws
import Derived.Deep.AppendLies
import Derived.Maps.AppendAt
import Derived.OwnWalk
import Derived.Laws.BytesArg
import Derived.Laws.MakeOwn
import Derived.Laws.OwnMore
import Derived.Deep.OwnRows
import Derived.Tactics
import Derived.Lib.ConvBytes
import Derived.Laws.Slices
import Derived.WalkKit
import Derived.KernelRfl
import Derived.RowKit3
import Derived.Deep.LoopGhost
import Derived.Deep.QuietTactic
import Derived.BigQuiet
import Derived.WideLaws
import Derived.Deep.DeepCutAuto
import Derived.Deep.CutBlock
import Derived.Deep.RegionHeld3
import Derived.Laws.Rows
import Derived.Lib.AppendStr
import Derived.ArgAppend
import Derived.Laws.IdiomCopy
import Derived.OrdersHeld
import Derived.Laws.BitsLemmas
import Derived.RowKit
import Derived.Test.YtofedlghaopciaaWWords
import Derived.Test.YtofedlghaopciaaWLast
import Derived.Test.YtofedlghaopciaaWTab
import Derived.Test.YtofedlghaopciaaWFour
import Derived.Test.YtofedlghaopciaaWQPut
import Derived.Test.YtofedlghaopciaaWApart
import Derived.Test.YtofedlghaopciaaWArr
import Derived.Test.YtofedlghaopciaaWZeros
import Derived.Test.YtofedlghaopciaaWFoot
import Derived.Test.YtofedlghaopciaaWKept
import Derived.Test.YtofedlghaopciaaWShare
import Derived.Test.YtofedlghaopciaaWN
import Derived.Test.YtofedlghaopciaaWFootNe
import Derived.Test.YtofedlghaopciaaWAt
import Derived.Test.YtofedlghaopciaaWEqStruct
import Derived.Test.YtofedlghaopciaaWRepsOne
import Derived.Test.YtofedlghaopciaaWInv
import Derived.Test.YtofedlghaopciaaWInvWords
import Derived.Test.YtofedlghaopciaaWGuard
import Derived.Test.YtofedlghaopciaaWNEv
import Derived.Test.YtofedlghaopciaaWMore
import Derived.Test.YtofedlghaopciaaXCut
import Derived.Test.YtofedlghaopciaaXExt
import Derived.Test.YtofedlghaopciaaXFlo
import Derived.Test.YtofedlghaopciaaXOpen
import Derived.Test.YtofedlghaopciaaXReg
namespace Go.Proofs.Ytofedlghaopciaa.PQ
open Go.Proofs.YtofedlghaopciaaW.PrintWords
attribute [local go_sem high] fx_eql fx_neq fx_lss fx_leq fx_gtr fx_geq fx_add fx_sub fx_mul fx_neg fx_toint cxx_add cxx_sub cxx_mul cxx_eql cxx_neq cxx_pick st_float st_complex
open Go.RowKit Go.Proofs.YtofedlghaopciaaW.PrintWords Go.Proofs.YtofedlghaopciaaW.PrintLast Go.Proofs.YtofedlghaopciaaW.PrintMore
attribute [local go_sem] max2_int min2_int max_two min_two max_three min_three max_four min_four   -- for this text's walks alone
set_option linter.unusedVariables false
set_option linter.unusedSimpArgs false



def errW : Option Int → Value
  | none => .nilIface
  | some c => .iface 0 (.int .i64 c)
theorem errW_none : errW none = .nilIface := rfl
theorem errW_some (c : Int) : errW (some c) = .iface 0 (.int .i64 c) := rfl

-- the values' own types

theorem ext17 (x : Nat) (h : ftruncok x = true) (W : World) : (callFunc 17 #[.float .f64 x]).run Try.prog W = .ok (.value (.float .f64 (ftrunc x))) W :=
  ext_trunc Try.func17 (by kernel_rfl) (by kernel_rfl) (by kernel_rfl) (by kernel_rfl) x h W
theorem ext19 (x : Int) (W : World) : (callFunc 19 #[.int .u64 x]).run Try.prog W = .ok (.value (.float .f64 (u2f x))) W :=
  ext_u2f Try.func19 (by kernel_rfl) (by kernel_rfl) (by kernel_rfl) (by kernel_rfl) x W
theorem ext20 (x : Nat) (W : World) : (callFunc 20 #[.float .f64 x]).run Try.prog W = .ok (.value (.int .u64 (f2u x))) W :=
  ext_f2u Try.func20 (by kernel_rfl) (by kernel_rfl) (by kernel_rfl) (by kernel_rfl) x W
end Go.Proofs.Ytofedlghaopciaa.PQ
