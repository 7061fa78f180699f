/- Words for the printed functions: the functions that the model stands in for (math/bits.Add64, Sub64), as plain functions on numbers. -/
import Derived.Laws.Externs
import Derived.Laws.FloatArith
import Derived.Laws.ComplexArith
import Derived.Test.YthejabcfbbmkeaaDoorWWords
import Derived.Test.YthejabcfbbmkeaaDoorWLast
import Derived.Test.YthejabcfbbmkeaaDoorWTab
set_option linter.unusedVariables false
set_option linter.unusedSimpArgs false
namespace Go.Proofs.YthejabcfbbmkeaaDoorW.PrintWords
open Go.RowKit Go.Proofs.YthejabcfbbmkeaaDoorW.PrintLast

/-- A carry that is 0 or 1. -/
def c01 (c : Int) : Bool := decide (c.toNat ≤ 1)
def u64add (x y c : Int) : Int := ((x.toNat + y.toNat + c.toNat) % 18446744073709551616 : Nat)
def u64car (x y c : Int) : Int := ((x.toNat + y.toNat + c.toNat) / 18446744073709551616 : Nat)
def u64sub (x y c : Int) : Int := ((x.toNat + 18446744073709551616 - y.toNat - c.toNat) % 18446744073709551616 : Nat)
def u64bor (x y c : Int) : Int := ((if x.toNat < y.toNat + c.toNat then 1 else 0 : Nat) : Int)

def sub64Entry : Array Value → Sem Value := fun args => do
  let (x, y, b) ← Extern.MathBitsCarry.three "Sub64" args
  pure (Extern.MathBitsCarry.pair ((x + Extern.MathBitsCarry.m64 - y - b) % Extern.MathBitsCarry.m64) (if x < y + b then 1 else 0))

theorem run_add64_any {P : Program} (x y c : Int) (h : c01 c = true) (W : World) :
    (add64Entry #[.int .u64 x, .int .u64 y, .int .u64 c]).run P W = .ok (.tuple #[.int .u64 (u64add x y c), .int .u64 (u64car x y c)]) W := by
  have h1 : c.toNat ≤ 1 := of_decide_eq_true h
  rcases c with n | n
  · have : n = 0 ∨ n = 1 := by simp at h1; omega
    rcases this with rfl | rfl <;> rfl
  · rfl
theorem ext_add64 {P : Program} {f : FuncId} {fn : Func} (hf : P.funcs[f]? = some fn) (hname : (fn.name == "runtime.NumGoroutine") = false)
    (hb : fn.body.isNone = true) (hn : Extern.findNext fn = none) (he : Extern.find fn = some add64Entry) (x y c : Int) (h : c01 c = true) (W : World) :
    (callFunc f #[.int .u64 x, .int .u64 y, .int .u64 c]).run P W = .ok (.value (.tuple #[.int .u64 (u64add x y c), .int .u64 (u64car x y c)])) W := by
  rw [run_callFunc_extern hf hname hb hn he, run_add64_any x y c h W]
  rfl
/-- The flags of a region's operations: the first n have come up. -/
def upT (n m : Nat) : Array Bool := (List.replicate n true ++ List.replicate m false).toArray
section
variable {P : Program} {ops : Array Oper} {Q : Exit → Act → World → Prop} {S : World → Prop} {ds : List Nat} {md : Region.Mode}
end
end Go.Proofs.YthejabcfbbmkeaaDoorW.PrintWords
