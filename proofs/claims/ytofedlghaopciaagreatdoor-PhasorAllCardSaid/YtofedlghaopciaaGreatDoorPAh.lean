-- Written by a program of this session for this claim (wip/print2.sh). Lean checks it.
import Derived.Test.YtofedlghaopciaaGreatDoorPAx0
import Derived.Test.YtofedlghaopciaaGreatDoorPk4
import Derived.Test.YtofedlghaopciaaGreatDoorPk1
namespace Go.Proofs.YtofedlghaopciaaGreatDoor.PA
open Go.Proofs.YtofedlghaopciaaGreatDoorW.PrintWords
attribute [local go_sem high] fx_eql fx_neq fx_lss fx_leq fx_gtr fx_geq fx_add fx_sub fx_mul fx_neg fx_toint cxx_add cxx_sub cxx_mul cxx_eql cxx_neq cxx_pick st_float st_complex
open Go.RowKit Go.Proofs.YtofedlghaopciaaGreatDoorW.PrintWords Go.Proofs.YtofedlghaopciaaGreatDoorW.PrintLast Go.Proofs.YtofedlghaopciaaGreatDoorW.PrintMore
attribute [local go_sem] max2_int min2_int max_two min_two max_three min_three max_four min_four   -- for this text's walks alone
set_option linter.unusedVariables false
set_option linter.unusedSimpArgs false

-- NOT PRINTED: function 61 (math_archTrunc)

-- NOT PRINTED: function 78 (math_Float64frombits)

-- NOT PRINTED: function 79 (math_Float64bits)

/-! ### phasor_Four: function 19 -/
def phasor_Four.f (a0_0 : Cx) (a0_1 : Cx) (a0_2 : Cx) (a0_3 : Cx) : Option (Cx × Cx × Cx × Cx × Int) := Go.Proofs.YtofedlghaopciaaGreatDoor.FourW.fourF a0_0 a0_1 a0_2 a0_3
theorem phasor_Four.calls (a0_0 : Cx) (a0_1 : Cx) (a0_2 : Cx) (a0_3 : Cx) (r1 : Cx) (r2 : Cx) (r3 : Cx) (r4 : Cx) (r5 : Int) (w : World) (hT_ : Go.Proofs.YtofedlghaopciaaGreatDoor.Hand.T3 w) (h : phasor_Four.f a0_0 a0_1 a0_2 a0_3 = some (r1, r2, r3, r4, r5)) :
    Calls Tryz.prog 19 #[.agg #[.complex .f64 a0_0.re a0_0.im, .complex .f64 a0_1.re a0_1.im, .complex .f64 a0_2.re a0_2.im, .complex .f64 a0_3.re a0_3.im]] w fun e w' => e = .returned (.tuple #[.agg #[.complex .f64 r1.re r1.im, .complex .f64 r2.re r2.im, .complex .f64 r3.re r3.im, .complex .f64 r4.re r4.im], .int .i64 r5]) ∧ Below w.heap.size w w' :=
  Go.Proofs.YtofedlghaopciaaGreatDoor.FourW.fourF_calls a0_0 a0_1 a0_2 a0_3 r1 r2 r3 r4 r5 w h

/-! ### phasor_Back: function 20 -/
def phasor_Back.f (a0_0 : Cx) (a0_1 : Cx) (a0_2 : Cx) (a0_3 : Cx) : Option (Cx × Cx × Cx × Cx × Int) := Go.Proofs.YtofedlghaopciaaGreatDoor.FourW.backF a0_0 a0_1 a0_2 a0_3
theorem phasor_Back.calls (a0_0 : Cx) (a0_1 : Cx) (a0_2 : Cx) (a0_3 : Cx) (r1 : Cx) (r2 : Cx) (r3 : Cx) (r4 : Cx) (r5 : Int) (w : World) (hT_ : Go.Proofs.YtofedlghaopciaaGreatDoor.Hand.T3 w) (h : phasor_Back.f a0_0 a0_1 a0_2 a0_3 = some (r1, r2, r3, r4, r5)) :
    Calls Tryz.prog 20 #[.agg #[.complex .f64 a0_0.re a0_0.im, .complex .f64 a0_1.re a0_1.im, .complex .f64 a0_2.re a0_2.im, .complex .f64 a0_3.re a0_3.im]] w fun e w' => e = .returned (.tuple #[.agg #[.complex .f64 r1.re r1.im, .complex .f64 r2.re r2.im, .complex .f64 r3.re r3.im, .complex .f64 r4.re r4.im], .int .i64 r5]) ∧ Below w.heap.size w w' :=
  Go.Proofs.YtofedlghaopciaaGreatDoor.FourW.backF_calls a0_0 a0_1 a0_2 a0_3 r1 r2 r3 r4 r5 w h

/-! ### pylonref02_Four: function 31 -/
def pylonref02_Four.f (a0_0 : Cx) (a0_1 : Cx) (a0_2 : Cx) (a0_3 : Cx) : Option (Cx × Cx × Cx × Cx × Int) := Go.Proofs.YtofedlghaopciaaGreatDoor.FourW.rfourF a0_0 a0_1 a0_2 a0_3
theorem pylonref02_Four.calls (a0_0 : Cx) (a0_1 : Cx) (a0_2 : Cx) (a0_3 : Cx) (r1 : Cx) (r2 : Cx) (r3 : Cx) (r4 : Cx) (r5 : Int) (w : World) (hT_ : Go.Proofs.YtofedlghaopciaaGreatDoor.Hand.T3 w) (h : pylonref02_Four.f a0_0 a0_1 a0_2 a0_3 = some (r1, r2, r3, r4, r5)) :
    Calls Tryz.prog 31 #[.agg #[.complex .f64 a0_0.re a0_0.im, .complex .f64 a0_1.re a0_1.im, .complex .f64 a0_2.re a0_2.im, .complex .f64 a0_3.re a0_3.im]] w fun e w' => e = .returned (.tuple #[.agg #[.complex .f64 r1.re r1.im, .complex .f64 r2.re r2.im, .complex .f64 r3.re r3.im, .complex .f64 r4.re r4.im], .int .i64 r5]) ∧ Below w.heap.size w w' :=
  Go.Proofs.YtofedlghaopciaaGreatDoor.FourW.rfourF_calls a0_0 a0_1 a0_2 a0_3 r1 r2 r3 r4 r5 w h

/-! ### pylonref02_Back: function 32 -/
def pylonref02_Back.f (a0_0 : Cx) (a0_1 : Cx) (a0_2 : Cx) (a0_3 : Cx) : Option (Cx × Cx × Cx × Cx × Int) := Go.Proofs.YtofedlghaopciaaGreatDoor.FourW.rbackF a0_0 a0_1 a0_2 a0_3
theorem pylonref02_Back.calls (a0_0 : Cx) (a0_1 : Cx) (a0_2 : Cx) (a0_3 : Cx) (r1 : Cx) (r2 : Cx) (r3 : Cx) (r4 : Cx) (r5 : Int) (w : World) (hT_ : Go.Proofs.YtofedlghaopciaaGreatDoor.Hand.T3 w) (h : pylonref02_Back.f a0_0 a0_1 a0_2 a0_3 = some (r1, r2, r3, r4, r5)) :
    Calls Tryz.prog 32 #[.agg #[.complex .f64 a0_0.re a0_0.im, .complex .f64 a0_1.re a0_1.im, .complex .f64 a0_2.re a0_2.im, .complex .f64 a0_3.re a0_3.im]] w fun e w' => e = .returned (.tuple #[.agg #[.complex .f64 r1.re r1.im, .complex .f64 r2.re r2.im, .complex .f64 r3.re r3.im, .complex .f64 r4.re r4.im], .int .i64 r5]) ∧ Below w.heap.size w w' :=
  Go.Proofs.YtofedlghaopciaaGreatDoor.FourW.rbackF_calls a0_0 a0_1 a0_2 a0_3 r1 r2 r3 r4 r5 w h

end Go.Proofs.YtofedlghaopciaaGreatDoor.PA
