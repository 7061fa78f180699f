/- Words for floats (their bits) and complex numbers in the printed functions: what the operations give, as plain functions of the bits; where they are fixed. -/
import Derived.Laws.Entries
import Derived.Laws.Externs
import Derived.Laws.FloatArith
import Derived.Laws.ComplexArith
import Derived.Laws.Cover3
import Derived.Test.YtofedlghaopciaaWWords
import Derived.Test.YtofedlghaopciaaWFoot
set_option linter.unusedVariables false
set_option linter.unusedSimpArgs false
namespace Go.Proofs.YtofedlghaopciaaW.PrintWords
open Go.RowKit
/-- A complex number: the bits of its parts. -/
structure Cx where
  re : Nat
  im : Nat
abbrev cx (a b : Nat) : Cx := ⟨a, b⟩
theorem cx_re (a b : Nat) : (cx a b).re = a := rfl
theorem cx_im (a b : Nat) : (cx a b).im = b := rfl
def cxv (z : Cx) : Value := .complex .f64 z.re z.im
def feq (x y : Nat) : Bool := FloatKind.f64.format.order x y == some .eq
def flt (x y : Nat) : Bool := FloatKind.f64.format.order x y == some .lt
def fle (x y : Nat) : Bool := FloatKind.f64.format.order x y == some .lt || FloatKind.f64.format.order x y == some .eq
def fgt (x y : Nat) : Bool := FloatKind.f64.format.order x y == some .gt
def fge (x y : Nat) : Bool := FloatKind.f64.format.order x y == some .gt || FloatKind.f64.format.order x y == some .eq
def faddok (x y : Nat) : Bool := (floatBits .add .f64 x y).isSome
def fsubok (x y : Nat) : Bool := (floatBits .sub .f64 x y).isSome
def fmulok (x y : Nat) : Bool := (floatBits .mul .f64 x y).isSome
def fadd (x y : Nat) : Nat := (floatBits .add .f64 x y).getD 0
def fsub (x y : Nat) : Nat := (floatBits .sub .f64 x y).getD 0
def fmul (x y : Nat) : Nat := (floatBits .mul .f64 x y).getD 0
def fneg (x : Nat) : Nat := x ^^^ 9223372036854775808
def f2iok (x : Nat) : Bool := (floatToIntVal .f64 x .i64).isSome
def f2i (x : Nat) : Int := (floatToIntVal .f64 x .i64).getD 0
def f2u (x : Nat) : Int := x
def u2f (x : Int) : Nat := x.toNat
def ftruncok (x : Nat) : Bool := !(FloatKind.f64.decode x).isNaN
def ftrunc (x : Nat) : Nat := FloatKind.f64.encode ((FloatKind.f64.decode x).integral .zero)
def ceq (a b c d : Nat) : Bool := feq a c && feq b d
def caddok (a b c d : Nat) : Bool := (cSumBits .add .f64 a b c d).isSome
def csubok (a b c d : Nat) : Bool := (cSumBits .sub .f64 a b c d).isSome
def cmulok (a b c d : Nat) : Bool := (cMulBits a b c d).isSome
def caddre (a b c d : Nat) : Nat := ((cSumBits .add .f64 a b c d).getD (0, 0)).1
def caddim (a b c d : Nat) : Nat := ((cSumBits .add .f64 a b c d).getD (0, 0)).2
def csubre (a b c d : Nat) : Nat := ((cSumBits .sub .f64 a b c d).getD (0, 0)).1
def csubim (a b c d : Nat) : Nat := ((cSumBits .sub .f64 a b c d).getD (0, 0)).2
def cmulre (a b c d : Nat) : Nat := ((cMulBits a b c d).getD (0, 0)).1
def cmulim (a b c d : Nat) : Nat := ((cMulBits a b c d).getD (0, 0)).2
/-- The element of a list of four. -/
def pk4 (i : Int) (a b c d : Nat) : Nat := if i = 0 then a else if i = 1 then b else if i = 2 then c else d

theorem fx_eql (t : TypeId) (a b : Nat) : binOp .eql t (.float .f64 a) (.float .f64 b) = pure (.bool (feq a b)) := binOp_float_cmp_eql t .f64 a b
theorem fx_neq (t : TypeId) (a b : Nat) : binOp .neq t (.float .f64 a) (.float .f64 b) = pure (.bool (!feq a b)) := binOp_float_cmp_neq t .f64 a b
theorem fx_lss (t : TypeId) (a b : Nat) : binOp .lss t (.float .f64 a) (.float .f64 b) = pure (.bool (flt a b)) := binOp_float_cmp_lss t .f64 a b
theorem fx_leq (t : TypeId) (a b : Nat) : binOp .leq t (.float .f64 a) (.float .f64 b) = pure (.bool (fle a b)) := binOp_float_cmp_leq t .f64 a b
theorem fx_gtr (t : TypeId) (a b : Nat) : binOp .gtr t (.float .f64 a) (.float .f64 b) = pure (.bool (fgt a b)) := binOp_float_cmp_gtr t .f64 a b
theorem fx_geq (t : TypeId) (a b : Nat) : binOp .geq t (.float .f64 a) (.float .f64 b) = pure (.bool (fge a b)) := binOp_float_cmp_geq t .f64 a b
theorem fx_neg (b : Nat) : Op.unary .neg (.float .f64 b) = pure (.float .f64 (fneg b)) := rfl
section
variable {P : Program} (w : World)
theorem get_some {α : Type} {o : Option α} (d : α) (h : o.isSome = true) : o = some (o.getD d) := by
  cases o with
  | none => cases h
  | some x => rfl
theorem fx_add (t : TypeId) (a b : Nat) (h : faddok a b = true) : (binOp .add t (.float .f64 a) (.float .f64 b)).run P w = .ok (.float .f64 (fadd a b)) w := run_float_arith w .add t .f64 a b _ (get_some 0 h)
theorem fx_sub (t : TypeId) (a b : Nat) (h : fsubok a b = true) : (binOp .sub t (.float .f64 a) (.float .f64 b)).run P w = .ok (.float .f64 (fsub a b)) w := run_float_arith w .sub t .f64 a b _ (get_some 0 h)
theorem fx_mul (t : TypeId) (a b : Nat) (h : fmulok a b = true) : (binOp .mul t (.float .f64 a) (.float .f64 b)).run P w = .ok (.float .f64 (fmul a b)) w := run_float_arith w .mul t .f64 a b _ (get_some 0 h)
theorem fx_toint (src dst : TypeId) (b : Nat) (hs : (P.underlying src).isSome = true) (hd : P.underlying dst = some (.int .i64)) (h : f2iok b = true) : (convert src dst (.float .f64 b)).run P w = .ok (.int .i64 (f2i b)) w :=
  run_convert_float_int w src dst .f64 .i64 b _ hs hd (get_some 0 h)
theorem cxx_add (t : TypeId) (a b c d : Nat) (h : caddok a b c d = true) : (binOp .add t (.complex .f64 a b) (.complex .f64 c d)).run P w = .ok (.complex .f64 (caddre a b c d) (caddim a b c d)) w :=
  run_complex_sum w .add (.inl rfl) t .f64 a b c d _ _ (get_some (0, 0) h)
theorem cxx_sub (t : TypeId) (a b c d : Nat) (h : csubok a b c d = true) : (binOp .sub t (.complex .f64 a b) (.complex .f64 c d)).run P w = .ok (.complex .f64 (csubre a b c d) (csubim a b c d)) w :=
  run_complex_sum w .sub (.inr rfl) t .f64 a b c d _ _ (get_some (0, 0) h)
theorem cxx_mul (t : TypeId) (a b c d : Nat) (h : cmulok a b c d = true) : (binOp .mul t (.complex .f64 a b) (.complex .f64 c d)).run P w = .ok (.complex .f64 (cmulre a b c d) (cmulim a b c d)) w :=
  run_complex_mul w t a b c d _ _ (get_some (0, 0) h)
theorem cxx_eql (t : TypeId) (a b c d : Nat) : (binOp .eql t (.complex .f64 a b) (.complex .f64 c d)).run P w = .ok (.bool (ceq a b c d)) w := run_eql_complex w t .f64 a b c d
theorem cxx_neq (t : TypeId) (a b c d : Nat) : (binOp .neq t (.complex .f64 a b) (.complex .f64 c d)).run P w = .ok (.bool (!ceq a b c d)) w := run_neq_complex w t .f64 a b c d
theorem cxx_pick (t : TypeId) (k : IntKind) (i : Int) (a1 a2 b1 b2 c1 c2 d1 d2 : Nat) (ht : P.underlying t = some (.array 4 (P.elem t))) (he : P.underlying (P.elem t) = some (.complex .f64)) (hc : P.cellsOf (P.elem t) = 1) (hi : (P.info? (P.elem t)).isSome = true) (h0 : 0 ≤ i) (h1 : i < 4) :
    (Instr.index t (.agg #[.complex .f64 a1 a2, .complex .f64 b1 b2, .complex .f64 c1 c2, .complex .f64 d1 d2]) (.int k i)).run P w = .ok (.complex .f64 (pk4 i a1 b1 c1 d1) (pk4 i a2 b2 c2 d2)) w := by
  obtain ⟨fo, hfo⟩ := Option.isSome_iff_exists.mp hi
  have hp : ∀ {xs : Array Value} {off : Nat} {v : Value}, xs[off]? = some v → (part (P.elem t) xs off).run P w = .ok v w := by
    intro xs off v hx
    simp [part, isAgg, run_underlying he, hx]
  have hs := run_sizeOf w hfo
  rw [hc] at hs
  have hn : i = 0 ∨ i = 1 ∨ i = 2 ∨ i = 3 := by omega
  unfold Instr.index
  rcases hn with rfl | rfl | rfl | rfl
  · simp [asIntOf, run_underlying ht, hs]; exact hp rfl
  · simp [asIntOf, run_underlying ht, hs]; exact hp rfl
  · simp [asIntOf, run_underlying ht, hs]; exact hp rfl
  · simp [asIntOf, run_underlying ht, hs]; exact hp rfl
end
theorem st_float (P : Program) (w : World) (a : Addr) (m : Mode) (k : FloatKind) (b : Nat) : (store a (.float k b) m).run P w = stored P w a (.float k b) m := run_store P w a _ m rfl
theorem st_complex (P : Program) (w : World) (a : Addr) (m : Mode) (k : FloatKind) (x y : Nat) : (store a (.complex k x y) m).run P w = stored P w a (.complex k x y) m := run_store P w a _ m rfl
/-! ### The functions that the model stands in for -/
theorem ext_f2u {P : Program} {f : FuncId} {fn : Func} (hf : P.funcs[f]? = some fn) (hname : (fn.name == "runtime.NumGoroutine") = false)
    (hb : fn.body.isNone = true) (hn : Extern.findNext fn = none) (he : Extern.find fn = some Extern.MathFloatBits.float64bits) (x : Nat) (W : World) :
    (callFunc f #[.float .f64 x]).run P W = .ok (.value (.int .u64 (f2u x))) W := by
  rw [run_callFunc_extern hf hname hb hn he]
  rfl
theorem ext_u2f {P : Program} {f : FuncId} {fn : Func} (hf : P.funcs[f]? = some fn) (hname : (fn.name == "runtime.NumGoroutine") = false)
    (hb : fn.body.isNone = true) (hn : Extern.findNext fn = none) (he : Extern.find fn = some Extern.MathFloatBits.float64frombits) (x : Int) (W : World) :
    (callFunc f #[.int .u64 x]).run P W = .ok (.value (.float .f64 (u2f x))) W := by
  rw [run_callFunc_extern hf hname hb hn he]
  rfl
theorem run_trunc {P : Program} (x : Nat) (h : ftruncok x = true) (W : World) : (Extern.MathFloor.toIntegral "math.archTrunc" .zero #[.float .f64 x]).run P W = .ok (.float .f64 (ftrunc x)) W := by
  unfold ftruncok at h
  show Sem.run P (match FloatKind.f64.decode x with | .nan s t => _ | d => (pure (Value.float .f64 (FloatKind.f64.encode (d.integral .zero))) : Sem Value)) W = _
  unfold ftrunc
  split
  · rename_i s t e
    rw [e] at h; cases h
  · rfl
theorem ext_trunc {P : Program} {f : FuncId} {fn : Func} (hf : P.funcs[f]? = some fn) (hname : (fn.name == "runtime.NumGoroutine") = false)
    (hb : fn.body.isNone = true) (hn : Extern.findNext fn = none) (he : Extern.find fn = some (Extern.MathFloor.toIntegral "math.archTrunc" .zero)) (x : Nat) (h : ftruncok x = true) (W : World) :
    (callFunc f #[.float .f64 x]).run P W = .ok (.value (.float .f64 (ftrunc x))) W := by
  rw [run_callFunc_extern hf hname hb hn he, run_trunc x h W]
  rfl
/-! ### Rows of floats and complex numbers -/
namespace Kd
def f64 : Kd Nat := scalar (Value.float .f64) (fun _ => rfl)
def c128 : Kd Cx := scalar cxv (fun _ => rfl)
theorem heap_f64 : Heap f64 := ⟨fun _ h => h⟩
theorem heap_c128 : Heap c128 := ⟨fun _ h => h⟩
section
variable {w : World} {A : Option Addr} {n : Nat}
theorem at_f64 {xs : List Nat} (h : f64.C w A n xs) (i : Int) (h0 : 0 ≤ i) (h1 : i < n) : ∃ ad, A = some ad ∧ w.cell? (ad.add i.toNat) = some (.float .f64 (rdOf (0 : Nat) xs i)) := by
  obtain ⟨ad, c, e, _, hK, hc⟩ := C_get h (0 : Nat) i h0 h1
  refine ⟨ad, e, ?_⟩
  have hK' : c = [Value.float .f64 (xs.getD i.toNat 0)] := hK
  subst hK'
  have := hc 0 _ rfl
  have e2 : i.toNat * f64.sz + 0 = i.toNat := by show i.toNat * 1 + 0 = _; omega
  rw [e2] at this
  exact this
theorem at_c128 {xs : List Cx} (h : c128.C w A n xs) (i : Int) (h0 : 0 ≤ i) (h1 : i < n) : ∃ ad, A = some ad ∧ w.cell? (ad.add i.toNat) = some (.complex .f64 (rdOf (cx 0 0) xs i).re (rdOf (cx 0 0) xs i).im) := by
  obtain ⟨ad, c, e, _, hK, hc⟩ := C_get h (cx 0 0) i h0 h1
  refine ⟨ad, e, ?_⟩
  have hK' : c = [cxv (xs.getD i.toNat (cx 0 0))] := hK
  subst hK'
  have := hc 0 _ rfl
  have e2 : i.toNat * c128.sz + 0 = i.toNat := by show i.toNat * 1 + 0 = _; omega
  rw [e2] at this
  exact this
end
end Kd
/-! ### make([]T, 0, c) -/
section
variable {P : Program} {ops : Array Oper} {o : Oper} {rest : List Oper} {a : Act} {Q : Exit → Act → World → Prop}
namespace Kd
theorem R_make0 {α : Type} (d : Kd α) {w0 W : World} (base e : Nat) (hgd : o.guard = none) {N : Tmp} (hd : o.dst = some N) (t : TypeId) (x y : Operand) (ho : o.op = .makeSlice t x y) (n : Int) (hx : a.eval x = .int .i64 0) (hy : a.eval y = .int .i64 n)
    (ht : P.underlying t = some (.slice e)) (z : Value) (bytes : Nat) (hinfo : (P.info? e).map (fun i => (i.zero, i.size, i.bytes)) = some (some z, d.sz, bytes)) (hz : z.cells.size = d.sz) (hs0 : 0 < d.sz) (hb0 : 0 < bytes)
    (z0 : α) {ok okp : Nat → Prop} (hzero : d.M W base okp z0 z.cells.toList) (hok : ∀ k, okp k → ok k) (hfresh : ok W.heap.size) (h0 : 0 ≤ n) (hl : n.toNat * bytes ≤ 281474976710656) (HB : Below base w0 W) (hbase : base ≤ W.heap.size)
    (h : ∀ v1 w1, d.R e w1 base ok v1 (List.replicate 0 z0) → Below base w0 w1 → W.grownBy w1 none → (∃ b, v1.ownBlock = some b ∧ W.heap.size ≤ b) → wpList P ops Q rest (a.put o.dst v1) w1) : wpList P ops Q (o :: rest) a W := by
  obtain ⟨m, rfl⟩ := Int.eq_ofNat_of_zero_le h0
  simp only [Int.toNat_natCast] at hl h
  obtain ⟨i0, hi, hzz⟩ := Option.map_eq_some_iff.1 hinfo
  simp only [Prod.mk.injEq] at hzz
  obtain ⟨hz0, hz1, hz2⟩ := hzz
  have hm : m ≤ 281474976710656 := Nat.le_trans (Nat.le_mul_of_pos_right _ hb0) hl
  have hr := run_make (P := P) W t e i0 z ht hi hz0 .i64 .i64 (0 : Int) (m : Int) (by omega) (by omega)
    (by
      have h3 : ((i0.bytes * m : Nat) : Int) ≤ 281474976710656 := by rw [hz2, Nat.mul_comm]; omega
      rwa [Int.natCast_mul] at h3) (by omega)
  simp only [Int.toNat_natCast, Int.toNat_zero] at hr
  rw [hz1] at hr
  have hrep : Reps (d.M W base okp) d.sz (List.replicate m z0) (madeCells z.cells (m * d.sz)).toList := reps_made hz hs0 hzero m
  have full : d.R e (W.alloc (.cells (madeCells z.cells (m * d.sz)) e)) base ok (.slice (some ⟨W.heap.size, 0, none⟩) m m) (List.replicate m z0) := by
    refine ⟨fun k hk => ?_, (madeCells z.cells (m * d.sz)).toList, ?_, ?_⟩
    · have : W.heap.size = k := by simpa [Value.ownBlock] using hk
      subst this
      exact hfresh
    · have h2 := World.ownsRow_lit (base := base) (e := e) (size := d.sz) W (madeCells z.cells (m * d.sz)) m hbase (by simp [maxLen]; omega) (by simpa using hrep.1)
      simpa using h2
    · refine hrep.imp_ (fun p c hp => d.M_mono (fun k hk => ⟨hok k hk.1, fun he => ?_⟩) (M_below (d.M_bound hp) (below_alloc (Below.refl _ _) _)))
      have h3 : k = W.heap.size := by simpa [Value.ownBlock] using he
      have := hk.2.2.1
      omega
  have none0 := R_take full (m := 0) (Nat.zero_le _)
  exact event_run hgd (by simp [execOp, ho, hx, hy, hr]) (h _ _ none0 (HB.alloc hbase _) (World.grownBy_alloc W _ none) ⟨W.heap.size, by simp [Value.ownBlock], Nat.le_refl _⟩)
end Kd
end
end Go.Proofs.YtofedlghaopciaaW.PrintWords
