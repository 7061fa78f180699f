/- Words for the printed functions: the functions that the model stands in for (math/bits.Add64, Sub64), as plain functions on numbers. -/
import Derived.Laws.Externs
import Derived.Laws.FloatArith
import Derived.Laws.ComplexArith
import Derived.Test.YtofedlghaopciaaWWords
import Derived.Test.YtofedlghaopciaaWLast
import Derived.Test.YtofedlghaopciaaWTab
set_option linter.unusedVariables false
set_option linter.unusedSimpArgs false
namespace Go.Proofs.YtofedlghaopciaaW.PrintWords
open Go.RowKit Go.Proofs.YtofedlghaopciaaW.PrintLast

/-- A carry that is 0 or 1. -/
def c01 (c : Int) : Bool := decide (c.toNat ≤ 1)
def u64add (x y c : Int) : Int := ((x.toNat + y.toNat + c.toNat) % 18446744073709551616 : Nat)
def u64car (x y c : Int) : Int := ((x.toNat + y.toNat + c.toNat) / 18446744073709551616 : Nat)
def u64sub (x y c : Int) : Int := ((x.toNat + 18446744073709551616 - y.toNat - c.toNat) % 18446744073709551616 : Nat)
def u64bor (x y c : Int) : Int := ((if x.toNat < y.toNat + c.toNat then 1 else 0 : Nat) : Int)

def sub64Entry : Array Value → Sem Value := fun args => do
  let (x, y, b) ← Extern.MathBitsCarry.three "Sub64" args
  pure (Extern.MathBitsCarry.pair ((x + Extern.MathBitsCarry.m64 - y - b) % Extern.MathBitsCarry.m64) (if x < y + b then 1 else 0))

theorem run_add64_any {P : Program} (x y c : Int) (h : c01 c = true) (W : World) :
    (add64Entry #[.int .u64 x, .int .u64 y, .int .u64 c]).run P W = .ok (.tuple #[.int .u64 (u64add x y c), .int .u64 (u64car x y c)]) W := by
  have h1 : c.toNat ≤ 1 := of_decide_eq_true h
  rcases c with n | n
  · have : n = 0 ∨ n = 1 := by simp at h1; omega
    rcases this with rfl | rfl <;> rfl
  · rfl
theorem run_sub64_any {P : Program} (x y c : Int) (h : c01 c = true) (W : World) :
    (sub64Entry #[.int .u64 x, .int .u64 y, .int .u64 c]).run P W = .ok (.tuple #[.int .u64 (u64sub x y c), .int .u64 (u64bor x y c)]) W := by
  have h1 : c.toNat ≤ 1 := of_decide_eq_true h
  rcases c with n | n
  · have : n = 0 ∨ n = 1 := by simp at h1; omega
    rcases this with rfl | rfl <;> rfl
  · rfl
theorem ext_add64 {P : Program} {f : FuncId} {fn : Func} (hf : P.funcs[f]? = some fn) (hname : (fn.name == "runtime.NumGoroutine") = false)
    (hb : fn.body.isNone = true) (hn : Extern.findNext fn = none) (he : Extern.find fn = some add64Entry) (x y c : Int) (h : c01 c = true) (W : World) :
    (callFunc f #[.int .u64 x, .int .u64 y, .int .u64 c]).run P W = .ok (.value (.tuple #[.int .u64 (u64add x y c), .int .u64 (u64car x y c)])) W := by
  rw [run_callFunc_extern hf hname hb hn he, run_add64_any x y c h W]
  rfl
theorem ext_sub64 {P : Program} {f : FuncId} {fn : Func} (hf : P.funcs[f]? = some fn) (hname : (fn.name == "runtime.NumGoroutine") = false)
    (hb : fn.body.isNone = true) (hn : Extern.findNext fn = none) (he : Extern.find fn = some sub64Entry) (x y c : Int) (h : c01 c = true) (W : World) :
    (callFunc f #[.int .u64 x, .int .u64 y, .int .u64 c]).run P W = .ok (.value (.tuple #[.int .u64 (u64sub x y c), .int .u64 (u64bor x y c)])) W := by
  rw [run_callFunc_extern hf hname hb hn he, run_sub64_any x y c h W]
  rfl
/-- The flags of a region's operations: the first n have come up. -/
def upT (n m : Nat) : Array Bool := (List.replicate n true ++ List.replicate m false).toArray
/-- How a slot is written, in one name. -/
theorem putS : (∀ (a : Act) (d : Tmp) (v : Value), a.put (some d) v = { a with tmps := a.tmps.setIfInBounds d v }) ∧ (∀ (a : Act) (v : Value), a.put none v = a) ∧
    (∀ (l : List Value) (i : Nat) (x : Value), l.toArray.setIfInBounds i x = (l.set i x).toArray) ∧ (∀ (a b : Value) (l : List Value), (a :: l).set 0 b = b :: l) ∧ (∀ (a b : Value) (l : List Value) (i : Nat), (a :: l).set (i + 1) b = a :: l.set i b) ∧
    (∀ n : Int, IntKind.i64.wrap n = wrap64 n) ∧ (∀ n : Int, IntKind.i32.wrap n = wrap32 n) :=
  ⟨fun _ _ _ => rfl, fun _ _ => rfl, fun _ _ _ => List.setIfInBounds_toArray .., fun _ _ _ => rfl, fun _ _ _ _ => rfl, i64_w, i32_w⟩
section
variable {P : Program} {ops : Array Oper} {Q : Exit → Act → World → Prop} {S : World → Prop} {ds : List Nat} {md : Region.Mode}
/-- 'pure_', told in fewer signs. -/
theorem pu {oi : Oper} {fuel : Nat} {l : Array Bool} {a : Act} {w : World} {T : Bool × List (List Nat × List Nat)} (i : Nat) (N : Tmp) (v : Value) (a' : Act) (l' : Array Bool) (hi : ops[i]? = some oi) (hN : oi.dst = some N) (hT : Aside0 (rtab md ops = T))
    (hc : anyT T l.toList l'.toList i = true) (hQ : ∀ c a w, Q (.panic c) (a.put oi.dst v) w → Q (.panic c) a w) (hy : Yields P ops oi v a) (ha : a.put (some N) v = a') (h : wpAnyLast P md ops Q S ds fuel l' a' w) : wpAnyLast P md ops Q S ds (fuel + 1) l a w :=
  pure_ l' hi hN (any_of hT.out hc) hQ hy ha h
end
end Go.Proofs.YtofedlghaopciaaW.PrintWords
