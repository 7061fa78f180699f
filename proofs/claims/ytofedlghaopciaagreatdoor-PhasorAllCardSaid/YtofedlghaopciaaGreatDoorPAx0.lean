-- Written by a program of this session for this claim (wip/print2.sh). Lean checks it.
import Derived.Test.YtofedlghaopciaaGreatDoorProg
import Derived.Below
import Derived.Deep.Draws
import Derived.Deep.AppendLies
import Derived.Maps.AppendAt
import Derived.OwnWalk
import Derived.Laws.BytesArg
import Derived.Laws.MakeOwn
import Derived.Laws.OwnMore
import Derived.Deep.OwnRows
import Derived.Tactics
import Derived.Lib.ConvBytes
import Derived.Laws.Slices
import Derived.WalkKit
import Derived.KernelRfl
import Derived.RowKit3
import Derived.Deep.LoopGhost
import Derived.Deep.QuietTactic
import Derived.BigQuiet
import Derived.WideLaws
import Derived.Deep.DeepCutAuto
import Derived.Deep.CutBlock
import Derived.Deep.RegionHeld3
import Derived.Laws.Rows
import Derived.Lib.AppendStr
import Derived.ArgAppend
import Derived.Laws.IdiomCopy
import Derived.OrdersHeld
import Derived.Laws.BitsLemmas
import Derived.RowKit
import Derived.Test.YtofedlghaopciaaGreatDoorPk2
namespace Go.Proofs.YtofedlghaopciaaGreatDoor.PA
open Go.Proofs.YtofedlghaopciaaGreatDoorW.PrintWords
attribute [local go_sem high] fx_eql fx_neq fx_lss fx_leq fx_gtr fx_geq fx_add fx_sub fx_mul fx_neg fx_toint cxx_add cxx_sub cxx_mul cxx_eql cxx_neq cxx_pick st_float st_complex
open Go.RowKit Go.Proofs.YtofedlghaopciaaGreatDoorW.PrintWords Go.Proofs.YtofedlghaopciaaGreatDoorW.PrintLast Go.Proofs.YtofedlghaopciaaGreatDoorW.PrintMore
attribute [local go_sem] max2_int min2_int max_two min_two max_three min_three max_four min_four   -- for this text's walks alone
set_option linter.unusedVariables false
set_option linter.unusedSimpArgs false



def errW : Option Int → Value
  | none => .nilIface
  | some c => .iface 118 (.int .i64 c)
theorem errW_none : errW none = .nilIface := rfl
theorem errW_some (c : Int) : errW (some c) = .iface 118 (.int .i64 c) := rfl

theorem info25 : (Tryz.prog.info? 25).map (fun i => (i.zero, i.size, i.bytes)) = some (some (.complex .f64 0 0), 1, 16) := by kernel_rfl
-- the values' own types
/-! #### struct type 33 -/
structure S33 where
  f0 : Nat
  f1 : Nat
def z33 : S33 := ⟨(0 : Nat), (0 : Nat)⟩
def k33 : Kd S33 := Kd.iso (Kd.pair Kd.f64 Kd.f64) (fun x : S33 => (x.f0, x.f1))
theorem k33_open {w : World} {x : S33} {cs : List Value} (h : k33.K w x cs) : cs = [.float .f64 x.f0, .float .f64 x.f1] := by
  obtain ⟨_, _, rfl, rfl, rfl⟩ := h
  exact rfl
def rd_T33 (xs : List S33) (i : Int) : S33 := xs.getD i.toNat z33
theorem at_T33 {w : World} {A : Option Addr} {n : Nat} {xs : List S33} (h : Kd.C k33 w A n xs) (i : Int) (h0 : 0 ≤ i) (h1 : i < n) : ∃ ad , A = some ad ∧ w.cell? (ad.add (i.toNat * 2)) = some (.float .f64 (rd_T33 xs i).f0) ∧ w.cell? ⟨(ad.add (i.toNat * 2)).block, (ad.add (i.toNat * 2)).off + 1, none⟩ = some (.float .f64 (rd_T33 xs i).f1) := by
  obtain ⟨ad, c, e, _, hK, hc0⟩ := Kd.C_get h z33 i h0 h1
  have hc : ∀ j u, c[j]? = some u → w.cell? (ad.add (i.toNat * 2 + j)) = some u := hc0
  obtain rfl := k33_open hK
  exact ⟨ad, e, hc 0 _ rfl, by rw [← add_field _ _ 1 (by omega)]; exact hc 1 _ rfl⟩

/-! #### struct type 26 -/
structure S26 where
  f0 : Cx
  f1 : Cx
  f2 : Cx
  f3 : Cx
def z26 : S26 := ⟨(cx 0 0), (cx 0 0), (cx 0 0), (cx 0 0)⟩
def k26 : Kd S26 := Kd.iso (Kd.pair Kd.c128 (Kd.pair Kd.c128 (Kd.pair Kd.c128 Kd.c128))) (fun x : S26 => (x.f0, x.f1, x.f2, x.f3))
def rd_T26 (xs : List S26) (i : Int) : S26 := xs.getD i.toNat z26
def rd_L6 (xs : List (List S33)) (i : Int) : (List S33) := xs.getD i.toNat ([] : List S33)
/-! #### struct type 36 -/
structure S36 where
  f0 : Int
  f1 : S33
  f2 : S33
  f3 : S33
  f4 : S33
  f5 : (List S33)
  f6 : (List S33)
  f7 : Int
  f8 : Int
  f9 : Int
  f10 : ByteArray
def z36 : S36 := ⟨(0 : Int), z33, z33, z33, z33, ([] : List S33), ([] : List S33), (0 : Int), (0 : Int), (0 : Int), (⟨#[]⟩ : ByteArray)⟩
def k36 : Kd S36 := Kd.iso (Kd.pair (Kd.int .i64) (Kd.pair k33 (Kd.pair k33 (Kd.pair k33 (Kd.pair k33 (Kd.pair (Kd.slice 33 k33) (Kd.pair (Kd.slice 33 k33) (Kd.pair (Kd.int .i64) (Kd.pair (Kd.int .i64) (Kd.pair (Kd.int .i64) Kd.string)))))))))) (fun x : S36 => (x.f0, x.f1, x.f2, x.f3, x.f4, x.f5, x.f6, x.f7, x.f8, x.f9, x.f10))
theorem k36_open {w : World} {x : S36} {cs : List Value} (h : k36.K w x cs) : ∃ A9 c9 A10 c10, cs = [.int .i64 x.f0, .float .f64 x.f1.f0, .float .f64 x.f1.f1, .float .f64 x.f2.f0, .float .f64 x.f2.f1, .float .f64 x.f3.f0, .float .f64 x.f3.f1, .float .f64 x.f4.f0, .float .f64 x.f4.f1, .slice A9 x.f5.length c9, .slice A10 x.f6.length c10, .int .i64 x.f7, .int .i64 x.f8, .int .i64 x.f9, .string x.f10] ∧ x.f5.length ≤ c9 ∧ k33.C w A9 x.f5.length x.f5 ∧ x.f6.length ≤ c10 ∧ k33.C w A10 x.f6.length x.f6 := by
  obtain ⟨_, _, rfl, rfl, ⟨_, _, rfl, s1, ⟨_, _, rfl, s3, ⟨_, _, rfl, s5, ⟨_, _, rfl, s7, ⟨_, _, rfl, ⟨A9, c9, rfl, l9, g9⟩, ⟨_, _, rfl, ⟨A10, c10, rfl, l10, g10⟩, ⟨_, _, rfl, rfl, ⟨_, _, rfl, rfl, ⟨_, _, rfl, rfl, rfl⟩⟩⟩⟩⟩⟩⟩⟩⟩⟩ := h
  obtain rfl := k33_open s1
  obtain rfl := k33_open s3
  obtain rfl := k33_open s5
  obtain rfl := k33_open s7
  exact ⟨A9, c9, A10, c10, rfl, l9, g9, l10, g10⟩
def rd_T36 (xs : List S36) (i : Int) : S36 := xs.getD i.toNat z36
theorem at_T36 {w : World} {A : Option Addr} {n : Nat} {xs : List S36} (h : Kd.C k36 w A n xs) (i : Int) (h0 : 0 ≤ i) (h1 : i < n) : ∃ ad A9 c9 A10 c10, A = some ad ∧ w.cell? (ad.add (i.toNat * 15)) = some (.int .i64 (rd_T36 xs i).f0) ∧ w.cell? ⟨(ad.add (i.toNat * 15)).block, (ad.add (i.toNat * 15)).off + 1, none⟩ = some (.float .f64 (rd_T36 xs i).f1.f0) ∧ w.cell? ⟨(ad.add (i.toNat * 15)).block, (ad.add (i.toNat * 15)).off + 2, none⟩ = some (.float .f64 (rd_T36 xs i).f1.f1) ∧ w.cell? ⟨(ad.add (i.toNat * 15)).block, (ad.add (i.toNat * 15)).off + 3, none⟩ = some (.float .f64 (rd_T36 xs i).f2.f0) ∧ w.cell? ⟨(ad.add (i.toNat * 15)).block, (ad.add (i.toNat * 15)).off + 4, none⟩ = some (.float .f64 (rd_T36 xs i).f2.f1) ∧ w.cell? ⟨(ad.add (i.toNat * 15)).block, (ad.add (i.toNat * 15)).off + 5, none⟩ = some (.float .f64 (rd_T36 xs i).f3.f0) ∧ w.cell? ⟨(ad.add (i.toNat * 15)).block, (ad.add (i.toNat * 15)).off + 6, none⟩ = some (.float .f64 (rd_T36 xs i).f3.f1) ∧ w.cell? ⟨(ad.add (i.toNat * 15)).block, (ad.add (i.toNat * 15)).off + 7, none⟩ = some (.float .f64 (rd_T36 xs i).f4.f0) ∧ w.cell? ⟨(ad.add (i.toNat * 15)).block, (ad.add (i.toNat * 15)).off + 8, none⟩ = some (.float .f64 (rd_T36 xs i).f4.f1) ∧ w.cell? ⟨(ad.add (i.toNat * 15)).block, (ad.add (i.toNat * 15)).off + 9, none⟩ = some (.slice A9 (rd_T36 xs i).f5.length c9) ∧ w.cell? ⟨(ad.add (i.toNat * 15)).block, (ad.add (i.toNat * 15)).off + 10, none⟩ = some (.slice A10 (rd_T36 xs i).f6.length c10) ∧ w.cell? ⟨(ad.add (i.toNat * 15)).block, (ad.add (i.toNat * 15)).off + 11, none⟩ = some (.int .i64 (rd_T36 xs i).f7) ∧ w.cell? ⟨(ad.add (i.toNat * 15)).block, (ad.add (i.toNat * 15)).off + 12, none⟩ = some (.int .i64 (rd_T36 xs i).f8) ∧ w.cell? ⟨(ad.add (i.toNat * 15)).block, (ad.add (i.toNat * 15)).off + 13, none⟩ = some (.int .i64 (rd_T36 xs i).f9) ∧ w.cell? ⟨(ad.add (i.toNat * 15)).block, (ad.add (i.toNat * 15)).off + 14, none⟩ = some (.string (rd_T36 xs i).f10) ∧ (rd_T36 xs i).f5.length ≤ c9 ∧ k33.C w A9 (rd_T36 xs i).f5.length (rd_T36 xs i).f5 ∧ (rd_T36 xs i).f6.length ≤ c10 ∧ k33.C w A10 (rd_T36 xs i).f6.length (rd_T36 xs i).f6 := by
  obtain ⟨ad, c, e, _, hK, hc0⟩ := Kd.C_get h z36 i h0 h1
  have hc : ∀ j u, c[j]? = some u → w.cell? (ad.add (i.toNat * 15 + j)) = some u := hc0
  obtain ⟨A9, c9, A10, c10, rfl, l9, g9, l10, g10⟩ := k36_open hK
  exact ⟨ad, A9, c9, A10, c10, e, hc 0 _ rfl, by rw [← add_field _ _ 1 (by omega)]; exact hc 1 _ rfl, by rw [← add_field _ _ 2 (by omega)]; exact hc 2 _ rfl, by rw [← add_field _ _ 3 (by omega)]; exact hc 3 _ rfl, by rw [← add_field _ _ 4 (by omega)]; exact hc 4 _ rfl, by rw [← add_field _ _ 5 (by omega)]; exact hc 5 _ rfl, by rw [← add_field _ _ 6 (by omega)]; exact hc 6 _ rfl, by rw [← add_field _ _ 7 (by omega)]; exact hc 7 _ rfl, by rw [← add_field _ _ 8 (by omega)]; exact hc 8 _ rfl, by rw [← add_field _ _ 9 (by omega)]; exact hc 9 _ rfl, by rw [← add_field _ _ 10 (by omega)]; exact hc 10 _ rfl, by rw [← add_field _ _ 11 (by omega)]; exact hc 11 _ rfl, by rw [← add_field _ _ 12 (by omega)]; exact hc 12 _ rfl, by rw [← add_field _ _ 13 (by omega)]; exact hc 13 _ rfl, by rw [← add_field _ _ 14 (by omega)]; exact hc 14 _ rfl, l9, g9, l10, g10⟩

theorem ext58 (x y c : Int) (h : c01 c = true) (W : World) : (callFunc 58 #[.int .u64 x, .int .u64 y, .int .u64 c]).run Tryz.prog W = .ok (.value (.tuple #[.int .u64 (u64add x y c), .int .u64 (u64car x y c)])) W :=
  ext_add64 Tryz.func58 (by kernel_rfl) (by kernel_rfl) (by kernel_rfl) (by kernel_rfl) x y c h W
theorem ext61 (x : Nat) (h : ftruncok x = true) (W : World) : (callFunc 61 #[.float .f64 x]).run Tryz.prog W = .ok (.value (.float .f64 (ftrunc x))) W :=
  ext_trunc Tryz.func61 (by kernel_rfl) (by kernel_rfl) (by kernel_rfl) (by kernel_rfl) x h W
theorem ext78 (x : Int) (W : World) : (callFunc 78 #[.int .u64 x]).run Tryz.prog W = .ok (.value (.float .f64 (u2f x))) W :=
  ext_u2f Tryz.func78 (by kernel_rfl) (by kernel_rfl) (by kernel_rfl) (by kernel_rfl) x W
theorem ext79 (x : Nat) (W : World) : (callFunc 79 #[.float .f64 x]).run Tryz.prog W = .ok (.value (.int .u64 (f2u x))) W :=
  ext_f2u Tryz.func79 (by kernel_rfl) (by kernel_rfl) (by kernel_rfl) (by kernel_rfl) x W
/-- What reading tells of a struct of type 33. -/
def okS33 (x : S33) : Prop := ((Lit.float .f64 x.f0).wf = true) ∧ ((Lit.float .f64 x.f1).wf = true)
theorem opens33 (w : World) : Opens Tryz.prog w 33 k33 okS33 :=
  opens_imp (opens_iso (fun x : S33 => (x.f0, x.f1)) (fun p => ⟨p.1, p.2⟩) (fun _ => rfl) (opens_struct Tryz.underlying33 (by kernel_rfl) (fields_cons rfl (by kernel_rfl) (opens_float Tryz.underlying31) (fields_one rfl (by kernel_rfl) (opens_float Tryz.underlying31))))) (fun _ h => h)
/-- What reading tells of a struct of type 36. -/
def okS36 (x : S36) : Prop := ((Lit.int .i64 x.f0).wf = true) ∧ (okS33 x.f1) ∧ (okS33 x.f2) ∧ (okS33 x.f3) ∧ (okS33 x.f4) ∧ (x.f5.length * 16 ≤ 140737488351232 ∧ ∀ y_ ∈ x.f5, okS33 y_) ∧ (x.f6.length * 16 ≤ 140737488351232 ∧ ∀ y_ ∈ x.f6, okS33 y_) ∧ ((Lit.int .i64 x.f7).wf = true) ∧ ((Lit.int .i64 x.f8).wf = true) ∧ ((Lit.int .i64 x.f9).wf = true) ∧ (x.f10.size ≤ 140737488351232)
theorem opens36 (w : World) : Opens Tryz.prog w 36 k36 okS36 :=
  opens_imp (opens_iso (fun x : S36 => (x.f0, x.f1, x.f2, x.f3, x.f4, x.f5, x.f6, x.f7, x.f8, x.f9, x.f10)) (fun p => ⟨p.1, p.2.1, p.2.2.1, p.2.2.2.1, p.2.2.2.2.1, p.2.2.2.2.2.1, p.2.2.2.2.2.2.1, p.2.2.2.2.2.2.2.1, p.2.2.2.2.2.2.2.2.1, p.2.2.2.2.2.2.2.2.2.1, p.2.2.2.2.2.2.2.2.2.2⟩) (fun _ => rfl) (opens_struct Tryz.underlying36 (by kernel_rfl) (fields_cons rfl (by kernel_rfl) (opens_int Tryz.underlying3) (fields_cons rfl (by kernel_rfl) (opens33 w) (fields_cons rfl (by kernel_rfl) (opens33 w) (fields_cons rfl (by kernel_rfl) (opens33 w) (fields_cons rfl (by kernel_rfl) (opens33 w) (fields_cons rfl (by kernel_rfl) (opens_slice Tryz.underlying34 (B := 16) (by kernel_rfl) (by kernel_rfl) (opens33 w)) (fields_cons rfl (by kernel_rfl) (opens_slice Tryz.underlying34 (B := 16) (by kernel_rfl) (by kernel_rfl) (opens33 w)) (fields_cons rfl (by kernel_rfl) (opens_int Tryz.underlying2) (fields_cons rfl (by kernel_rfl) (opens_int Tryz.underlying2) (fields_cons rfl (by kernel_rfl) (opens_int Tryz.underlying3) (fields_one rfl (by kernel_rfl) (opens_string Tryz.underlying9)))))))))))))) (fun _ h => h)

/-! ### Steps that stand again and again (wip/squeeze.py) -/
theorem bl_ {w W : World} (h : Below w.heap.size w W := by repeat (first | (with_reducible first | exact Aside0.out (by assumption) | apply below_alloc | apply pw_below_drewN | apply below_drew1 | refine below_set ?_ (Aside0.out (by assumption))) | exact Aside0.out (by assumption))) : Below w.heap.size w W := h
theorem bst_ {w W W2 : World} (k : Below W.heap.size W W2) (h : Below w.heap.size w W := by repeat (first | (with_reducible first | exact Aside0.out (by assumption) | apply below_alloc | apply pw_below_drewN | apply below_drew1 | refine below_set ?_ (Aside0.out (by assumption))) | exact Aside0.out (by assumption))) : Below w.heap.size w W2 := below_step h k
theorem ge_ {w W : World} {g : Nat} (hg : g = W.heap.size) (h : Below w.heap.size w W := by repeat (first | (with_reducible first | exact Aside0.out (by assumption) | apply below_alloc | apply pw_below_drewN | apply below_drew1 | refine below_set ?_ (Aside0.out (by assumption))) | exact Aside0.out (by assumption))) : w.heap.size ≤ g := hg ▸ below_size h
theorem nl_ {W : World} {g g' : Nat} {o : Obj} (hg : g' = W.heap.size) (h : W.heap[g]? = some o) : g ≠ g' := by rw [hg]; exact Nat.ne_of_lt (blk_lt h)
theorem ng_ {W : World} {g g' : Nat} {o : Obj} (hg : g' = W.heap.size) (h : W.heap[g]? = some o) : g' ≠ g := by rw [hg]; exact Nat.ne_of_gt (blk_lt h)
theorem fin_ {a b : Ending} {p : Prop} (h : a = b := by first | rfl | (simp [errW_none, errW_some] <;> rfl) | (simp [*, errW_none, errW_some] <;> rfl)) (k : p := by first | ((repeat (first | exact Drawn0.refl _ | apply Drawn0.step)); done) | (repeat (first | (with_reducible first | exact Aside0.out (by assumption) | apply below_alloc | apply pw_below_drewN | apply below_drew1 | refine below_set ?_ (Aside0.out (by assumption))) | exact Aside0.out (by assumption)))) : a = b ∧ p := ⟨h, k⟩
theorem eqT_ {x y : Int} (h : x = y) : (x == y) = true ∧ (x != y) = false := ⟨beq_iff_eq.mpr h, bne_eq_false_iff_eq.mpr h⟩
theorem eqF_ {x y : Int} (h : ¬ x = y) : (x == y) = false ∧ (x != y) = true := ⟨beq_eq_false_iff_ne.mpr h, bne_iff_ne.mpr h⟩
theorem gL_ {P : Program} {ops : Array Oper} {Q : Exit → Act → World → Prop} {rest : List Oper} {oi : Oper} {a : Act} {w : World} (N : Option Tmp) {f : FuncId} {fn : Func} {az : Array Operand} {ts : Array TypeId} (hf : P.funcs[f]? = some fn) (args : Array Value)
    (h : Calls P f args w fun e w' => ∃ v, e = .returned v ∧ wpList P ops Q rest (a.put N v) w') (hd : oi.dst = N := by rfl) (hg : oi.guard = none := by rfl) (hname : (fn.name == "runtime.NumGoroutine") = false := by kernel_rfl) (hb : fn.body.isSome = true := by rfl)
    (hop : oi.op = .call { callee := .value (.func f), args := az, argTypes := ts } := by rfl) (hargs : az.map a.eval = args := by ((try simp only [List.map_toArray, List.map_cons, List.map_nil]); first | done | rfl | (simp only [List.length_drop, List.length_take]; rfl))) : wpList P ops Q (oi :: rest) a w :=
  goesL_ N hd hg hf hname hb args hop hargs h
end Go.Proofs.YtofedlghaopciaaGreatDoor.PA
