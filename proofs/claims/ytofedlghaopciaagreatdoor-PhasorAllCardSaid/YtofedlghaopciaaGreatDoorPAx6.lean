-- Written by a program of this session for this claim (wip/print2.sh). Lean checks it.
import Derived.Test.YtofedlghaopciaaGreatDoorPAx0
import Derived.Test.YtofedlghaopciaaGreatDoorPk1
namespace Go.Proofs.YtofedlghaopciaaGreatDoor.PA
open Go.Proofs.YtofedlghaopciaaGreatDoorW.PrintWords
attribute [local go_sem high] fx_eql fx_neq fx_lss fx_leq fx_gtr fx_geq fx_add fx_sub fx_mul fx_neg fx_toint cxx_add cxx_sub cxx_mul cxx_eql cxx_neq cxx_pick st_float st_complex
open Go.RowKit Go.Proofs.YtofedlghaopciaaGreatDoorW.PrintWords Go.Proofs.YtofedlghaopciaaGreatDoorW.PrintLast Go.Proofs.YtofedlghaopciaaGreatDoorW.PrintMore
attribute [local go_sem] max2_int min2_int max_two min_two max_three min_three max_four min_four   -- for this text's walks alone
set_option linter.unusedVariables false
set_option linter.unusedSimpArgs false

/-! ### strings_LastIndexAny: function 42 -/
def strings_LastIndexAny.f (a0 : ByteArray) (a1 : ByteArray) : Option (Int) := Go.Proofs.YtofedlghaopciaaGreatDoor.Hand.lastA a0 a1
theorem strings_LastIndexAny.calls (a0 : ByteArray) (a1 : ByteArray) (r : Int) (w : World) (hT_ : Go.Proofs.YtofedlghaopciaaGreatDoor.Hand.T3 w) (h : strings_LastIndexAny.f a0 a1 = some r) :
    Calls Tryz.prog 42 #[.string a0, .string a1] w fun e w' => e = .returned (.int .i64 r) ∧ Below w.heap.size w w' :=
  Go.Proofs.YtofedlghaopciaaGreatDoor.Hand.last_calls3 a0 a1 r w hT_ h

end Go.Proofs.YtofedlghaopciaaGreatDoor.PA
