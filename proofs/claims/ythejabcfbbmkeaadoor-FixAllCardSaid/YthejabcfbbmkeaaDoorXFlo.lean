/- Words for floats (their bits) and complex numbers in the printed functions: what the operations give, as plain functions of the bits; where they are fixed. -/
import Derived.Laws.Entries
import Derived.Laws.Externs
import Derived.Laws.FloatArith
import Derived.Laws.ComplexArith
import Derived.Laws.Cover3
import Derived.Test.YthejabcfbbmkeaaDoorWWords
import Derived.Test.YthejabcfbbmkeaaDoorWFoot
set_option linter.unusedVariables false
set_option linter.unusedSimpArgs false
namespace Go.Proofs.YthejabcfbbmkeaaDoorW.PrintWords
open Go.RowKit
/-- A complex number: the bits of its parts. -/
structure Cx where
  re : Nat
  im : Nat
abbrev cx (a b : Nat) : Cx := ⟨a, b⟩
def cxv (z : Cx) : Value := .complex .f64 z.re z.im
def feq (x y : Nat) : Bool := FloatKind.f64.format.order x y == some .eq
def flt (x y : Nat) : Bool := FloatKind.f64.format.order x y == some .lt
def fle (x y : Nat) : Bool := FloatKind.f64.format.order x y == some .lt || FloatKind.f64.format.order x y == some .eq
def fgt (x y : Nat) : Bool := FloatKind.f64.format.order x y == some .gt
def fge (x y : Nat) : Bool := FloatKind.f64.format.order x y == some .gt || FloatKind.f64.format.order x y == some .eq
def faddok (x y : Nat) : Bool := (floatBits .add .f64 x y).isSome
def fsubok (x y : Nat) : Bool := (floatBits .sub .f64 x y).isSome
def fmulok (x y : Nat) : Bool := (floatBits .mul .f64 x y).isSome
def fadd (x y : Nat) : Nat := (floatBits .add .f64 x y).getD 0
def fsub (x y : Nat) : Nat := (floatBits .sub .f64 x y).getD 0
def fmul (x y : Nat) : Nat := (floatBits .mul .f64 x y).getD 0
def fneg (x : Nat) : Nat := x ^^^ 9223372036854775808
def f2iok (x : Nat) : Bool := (floatToIntVal .f64 x .i64).isSome
def f2i (x : Nat) : Int := (floatToIntVal .f64 x .i64).getD 0
def f2u (x : Nat) : Int := x
def u2f (x : Int) : Nat := x.toNat
def ftruncok (x : Nat) : Bool := !(FloatKind.f64.decode x).isNaN
def ftrunc (x : Nat) : Nat := FloatKind.f64.encode ((FloatKind.f64.decode x).integral .zero)
def ceq (a b c d : Nat) : Bool := feq a c && feq b d
def caddok (a b c d : Nat) : Bool := (cSumBits .add .f64 a b c d).isSome
def csubok (a b c d : Nat) : Bool := (cSumBits .sub .f64 a b c d).isSome
def cmulok (a b c d : Nat) : Bool := (cMulBits a b c d).isSome
def caddre (a b c d : Nat) : Nat := ((cSumBits .add .f64 a b c d).getD (0, 0)).1
def caddim (a b c d : Nat) : Nat := ((cSumBits .add .f64 a b c d).getD (0, 0)).2
def csubre (a b c d : Nat) : Nat := ((cSumBits .sub .f64 a b c d).getD (0, 0)).1
def csubim (a b c d : Nat) : Nat := ((cSumBits .sub .f64 a b c d).getD (0, 0)).2
def cmulre (a b c d : Nat) : Nat := ((cMulBits a b c d).getD (0, 0)).1
def cmulim (a b c d : Nat) : Nat := ((cMulBits a b c d).getD (0, 0)).2
/-- The element of a list of four. -/
def pk4 (i : Int) (a b c d : Nat) : Nat := if i = 0 then a else if i = 1 then b else if i = 2 then c else d

theorem fx_eql (t : TypeId) (a b : Nat) : binOp .eql t (.float .f64 a) (.float .f64 b) = pure (.bool (feq a b)) := binOp_float_cmp_eql t .f64 a b
theorem fx_neq (t : TypeId) (a b : Nat) : binOp .neq t (.float .f64 a) (.float .f64 b) = pure (.bool (!feq a b)) := binOp_float_cmp_neq t .f64 a b
theorem fx_lss (t : TypeId) (a b : Nat) : binOp .lss t (.float .f64 a) (.float .f64 b) = pure (.bool (flt a b)) := binOp_float_cmp_lss t .f64 a b
theorem fx_leq (t : TypeId) (a b : Nat) : binOp .leq t (.float .f64 a) (.float .f64 b) = pure (.bool (fle a b)) := binOp_float_cmp_leq t .f64 a b
theorem fx_gtr (t : TypeId) (a b : Nat) : binOp .gtr t (.float .f64 a) (.float .f64 b) = pure (.bool (fgt a b)) := binOp_float_cmp_gtr t .f64 a b
theorem fx_geq (t : TypeId) (a b : Nat) : binOp .geq t (.float .f64 a) (.float .f64 b) = pure (.bool (fge a b)) := binOp_float_cmp_geq t .f64 a b
theorem fx_neg (b : Nat) : Op.unary .neg (.float .f64 b) = pure (.float .f64 (fneg b)) := rfl
section
variable {P : Program} (w : World)
theorem get_some {α : Type} {o : Option α} (d : α) (h : o.isSome = true) : o = some (o.getD d) := by
  cases o with
  | none => cases h
  | some x => rfl
theorem fx_add (t : TypeId) (a b : Nat) (h : faddok a b = true) : (binOp .add t (.float .f64 a) (.float .f64 b)).run P w = .ok (.float .f64 (fadd a b)) w := run_float_arith w .add t .f64 a b _ (get_some 0 h)
theorem fx_sub (t : TypeId) (a b : Nat) (h : fsubok a b = true) : (binOp .sub t (.float .f64 a) (.float .f64 b)).run P w = .ok (.float .f64 (fsub a b)) w := run_float_arith w .sub t .f64 a b _ (get_some 0 h)
theorem fx_mul (t : TypeId) (a b : Nat) (h : fmulok a b = true) : (binOp .mul t (.float .f64 a) (.float .f64 b)).run P w = .ok (.float .f64 (fmul a b)) w := run_float_arith w .mul t .f64 a b _ (get_some 0 h)
theorem fx_toint (src dst : TypeId) (b : Nat) (hs : (P.underlying src).isSome = true) (hd : P.underlying dst = some (.int .i64)) (h : f2iok b = true) : (convert src dst (.float .f64 b)).run P w = .ok (.int .i64 (f2i b)) w :=
  run_convert_float_int w src dst .f64 .i64 b _ hs hd (get_some 0 h)
theorem cxx_add (t : TypeId) (a b c d : Nat) (h : caddok a b c d = true) : (binOp .add t (.complex .f64 a b) (.complex .f64 c d)).run P w = .ok (.complex .f64 (caddre a b c d) (caddim a b c d)) w :=
  run_complex_sum w .add (.inl rfl) t .f64 a b c d _ _ (get_some (0, 0) h)
theorem cxx_sub (t : TypeId) (a b c d : Nat) (h : csubok a b c d = true) : (binOp .sub t (.complex .f64 a b) (.complex .f64 c d)).run P w = .ok (.complex .f64 (csubre a b c d) (csubim a b c d)) w :=
  run_complex_sum w .sub (.inr rfl) t .f64 a b c d _ _ (get_some (0, 0) h)
theorem cxx_mul (t : TypeId) (a b c d : Nat) (h : cmulok a b c d = true) : (binOp .mul t (.complex .f64 a b) (.complex .f64 c d)).run P w = .ok (.complex .f64 (cmulre a b c d) (cmulim a b c d)) w :=
  run_complex_mul w t a b c d _ _ (get_some (0, 0) h)
theorem cxx_eql (t : TypeId) (a b c d : Nat) : (binOp .eql t (.complex .f64 a b) (.complex .f64 c d)).run P w = .ok (.bool (ceq a b c d)) w := run_eql_complex w t .f64 a b c d
theorem cxx_neq (t : TypeId) (a b c d : Nat) : (binOp .neq t (.complex .f64 a b) (.complex .f64 c d)).run P w = .ok (.bool (!ceq a b c d)) w := run_neq_complex w t .f64 a b c d
theorem cxx_pick (t : TypeId) (k : IntKind) (i : Int) (a1 a2 b1 b2 c1 c2 d1 d2 : Nat) (ht : P.underlying t = some (.array 4 (P.elem t))) (he : P.underlying (P.elem t) = some (.complex .f64)) (hc : P.cellsOf (P.elem t) = 1) (hi : (P.info? (P.elem t)).isSome = true) (h0 : 0 ≤ i) (h1 : i < 4) :
    (Instr.index t (.agg #[.complex .f64 a1 a2, .complex .f64 b1 b2, .complex .f64 c1 c2, .complex .f64 d1 d2]) (.int k i)).run P w = .ok (.complex .f64 (pk4 i a1 b1 c1 d1) (pk4 i a2 b2 c2 d2)) w := by
  obtain ⟨fo, hfo⟩ := Option.isSome_iff_exists.mp hi
  have hp : ∀ {xs : Array Value} {off : Nat} {v : Value}, xs[off]? = some v → (part (P.elem t) xs off).run P w = .ok v w := by
    intro xs off v hx
    simp [part, isAgg, run_underlying he, hx]
  have hs := run_sizeOf w hfo
  rw [hc] at hs
  have hn : i = 0 ∨ i = 1 ∨ i = 2 ∨ i = 3 := by omega
  unfold Instr.index
  rcases hn with rfl | rfl | rfl | rfl
  · simp [asIntOf, run_underlying ht, hs]; exact hp rfl
  · simp [asIntOf, run_underlying ht, hs]; exact hp rfl
  · simp [asIntOf, run_underlying ht, hs]; exact hp rfl
  · simp [asIntOf, run_underlying ht, hs]; exact hp rfl
end
theorem st_float (P : Program) (w : World) (a : Addr) (m : Mode) (k : FloatKind) (b : Nat) : (store a (.float k b) m).run P w = stored P w a (.float k b) m := run_store P w a _ m rfl
theorem st_complex (P : Program) (w : World) (a : Addr) (m : Mode) (k : FloatKind) (x y : Nat) : (store a (.complex k x y) m).run P w = stored P w a (.complex k x y) m := run_store P w a _ m rfl
/-! ### The functions that the model stands in for -/
/-! ### Rows of floats and complex numbers -/
namespace Kd
def f64 : Kd Nat := scalar (Value.float .f64) (fun _ => rfl)
def c128 : Kd Cx := scalar cxv (fun _ => rfl)
section
variable {w : World} {A : Option Addr} {n : Nat}
end
end Kd
/-! ### make([]T, 0, c) -/
section
variable {P : Program} {ops : Array Oper} {o : Oper} {rest : List Oper} {a : Act} {Q : Exit → Act → World → Prop}
namespace Kd
end Kd
end
end Go.Proofs.YthejabcfbbmkeaaDoorW.PrintWords
