-- Written by a program of this session for this claim (wip/print2.sh). Lean checks it.
import Derived.Test.YtofedlghaopciaaDoorProg
import Derived.Below
import Derived.Deep.Draws
import Derived.Deep.AppendLies
import Derived.Maps.AppendAt
import Derived.OwnWalk
import Derived.Laws.BytesArg
import Derived.Laws.MakeOwn
import Derived.Laws.OwnMore
import Derived.Deep.OwnRows
import Derived.Tactics
import Derived.Lib.ConvBytes
import Derived.Laws.Slices
import Derived.WalkKit
import Derived.KernelRfl
import Derived.RowKit3
import Derived.Deep.LoopGhost
import Derived.Deep.QuietTactic
import Derived.BigQuiet
import Derived.WideLaws
import Derived.Deep.DeepCutAuto
import Derived.Deep.CutBlock
import Derived.Deep.RegionHeld3
import Derived.Laws.Rows
import Derived.Lib.AppendStr
import Derived.ArgAppend
import Derived.Laws.IdiomCopy
import Derived.OrdersHeld
import Derived.Laws.BitsLemmas
import Derived.RowKit
import Derived.Test.YtofedlghaopciaaDoorWWords
import Derived.Test.YtofedlghaopciaaDoorWLast
import Derived.Test.YtofedlghaopciaaDoorWTab
import Derived.Test.YtofedlghaopciaaDoorWFour
import Derived.Test.YtofedlghaopciaaDoorWQPut
import Derived.Test.YtofedlghaopciaaDoorWApart
import Derived.Test.YtofedlghaopciaaDoorWArr
import Derived.Test.YtofedlghaopciaaDoorWZeros
import Derived.Test.YtofedlghaopciaaDoorWFoot
import Derived.Test.YtofedlghaopciaaDoorWKept
import Derived.Test.YtofedlghaopciaaDoorWShare
import Derived.Test.YtofedlghaopciaaDoorWN
import Derived.Test.YtofedlghaopciaaDoorWFootNe
import Derived.Test.YtofedlghaopciaaDoorWAt
import Derived.Test.YtofedlghaopciaaDoorWEqStruct
import Derived.Test.YtofedlghaopciaaDoorWRepsOne
import Derived.Test.YtofedlghaopciaaDoorWInv
import Derived.Test.YtofedlghaopciaaDoorWInvWords
import Derived.Test.YtofedlghaopciaaDoorWGuard
import Derived.Test.YtofedlghaopciaaDoorWNEv
import Derived.Test.YtofedlghaopciaaDoorWMore
import Derived.Test.YtofedlghaopciaaDoorXCut
import Derived.Test.YtofedlghaopciaaDoorXExt
import Derived.Test.YtofedlghaopciaaDoorXFlo
import Derived.Test.YtofedlghaopciaaDoorXOpen
import Derived.Test.YtofedlghaopciaaDoorXReg
namespace Go.Proofs.YtofedlghaopciaaDoor.PP
open Go.Proofs.YtofedlghaopciaaDoorW.PrintWords
attribute [local go_sem high] fx_eql fx_neq fx_lss fx_leq fx_gtr fx_geq fx_add fx_sub fx_mul fx_neg fx_toint cxx_add cxx_sub cxx_mul cxx_eql cxx_neq cxx_pick st_float st_complex
open Go.RowKit Go.Proofs.YtofedlghaopciaaDoorW.PrintWords Go.Proofs.YtofedlghaopciaaDoorW.PrintLast Go.Proofs.YtofedlghaopciaaDoorW.PrintMore
attribute [local go_sem] max2_int min2_int max_two min_two max_three min_three max_four min_four   -- for this text's walks alone
set_option linter.unusedVariables false
set_option linter.unusedSimpArgs false



def errW : Option Int → Value
  | none => .nilIface
  | some c => .iface 76 (.int .i64 c)
theorem errW_none : errW none = .nilIface := rfl
theorem errW_some (c : Int) : errW (some c) = .iface 76 (.int .i64 c) := rfl

-- the values' own types

theorem ext41 (x : Int) (W : World) : (callFunc 41 #[.int .u64 x]).run Tryd.prog W = .ok (.value (.float .f64 (u2f x))) W :=
  ext_u2f Tryd.func41 (by kernel_rfl) (by kernel_rfl) (by kernel_rfl) (by kernel_rfl) x W
theorem ext42 (x : Nat) (W : World) : (callFunc 42 #[.float .f64 x]).run Tryd.prog W = .ok (.value (.int .u64 (f2u x))) W :=
  ext_f2u Tryd.func42 (by kernel_rfl) (by kernel_rfl) (by kernel_rfl) (by kernel_rfl) x W
theorem ext43 (x : Nat) (h : ftruncok x = true) (W : World) : (callFunc 43 #[.float .f64 x]).run Tryd.prog W = .ok (.value (.float .f64 (ftrunc x))) W :=
  ext_trunc Tryd.func43 (by kernel_rfl) (by kernel_rfl) (by kernel_rfl) (by kernel_rfl) x h W
end Go.Proofs.YtofedlghaopciaaDoor.PP
