-- Written by a program of this session for this claim (wip/print2.sh). Lean checks it.
import Derived.Test.YtapimggcnneabaaProg
import Derived.Below
import Derived.Deep.Draws
import Derived.Deep.AppendLies
import Derived.Maps.AppendAt
import Derived.OwnWalk
import Derived.Laws.BytesArg
import Derived.Laws.MakeOwn
import Derived.Laws.OwnMore
import Derived.Deep.OwnRows
import Derived.Tactics
import Derived.Lib.ConvBytes
import Derived.Laws.Slices
import Derived.WalkKit
import Derived.KernelRfl
import Derived.RowKit3
import Derived.Deep.LoopGhost
import Derived.Deep.QuietTactic
import Derived.BigQuiet
import Derived.WideLaws
import Derived.Deep.DeepCutAuto
import Derived.Deep.CutBlock
import Derived.Deep.RegionHeld3
import Derived.Laws.Rows
import Derived.Lib.AppendStr
import Derived.ArgAppend
import Derived.Laws.IdiomCopy
import Derived.OrdersHeld
import Derived.Laws.BitsLemmas
import Derived.RowKit
import Derived.Test.YtapimggcnneabaaWWords
import Derived.Test.YtapimggcnneabaaWLast
import Derived.Test.YtapimggcnneabaaWTab
import Derived.Test.YtapimggcnneabaaWFour
import Derived.Test.YtapimggcnneabaaWQPut
import Derived.Test.YtapimggcnneabaaWApart
import Derived.Test.YtapimggcnneabaaWArr
import Derived.Test.YtapimggcnneabaaWZeros
import Derived.Test.YtapimggcnneabaaWFoot
import Derived.Test.YtapimggcnneabaaWKept
import Derived.Test.YtapimggcnneabaaWShare
import Derived.Test.YtapimggcnneabaaWN
import Derived.Test.YtapimggcnneabaaWFootNe
import Derived.Test.YtapimggcnneabaaWAt
import Derived.Test.YtapimggcnneabaaWEqStruct
import Derived.Test.YtapimggcnneabaaWRepsOne
import Derived.Test.YtapimggcnneabaaWInv
import Derived.Test.YtapimggcnneabaaWInvWords
import Derived.Test.YtapimggcnneabaaWGuard
import Derived.Test.YtapimggcnneabaaWNEv
import Derived.Test.YtapimggcnneabaaWMore
import Derived.Test.YtapimggcnneabaaXExt
import Derived.Test.YtapimggcnneabaaXFlo
import Derived.Test.YtapimggcnneabaaXOpen
namespace Go.Proofs.Ytapimggcnneabaa.PH
open Go.Proofs.YtapimggcnneabaaW.PrintWords
attribute [local go_sem high] fx_eql fx_neq fx_lss fx_leq fx_gtr fx_geq fx_add fx_sub fx_mul fx_neg fx_toint cxx_add cxx_sub cxx_mul cxx_eql cxx_neq cxx_pick st_float st_complex
open Go.RowKit Go.Proofs.YtapimggcnneabaaW.PrintWords Go.Proofs.YtapimggcnneabaaW.PrintLast Go.Proofs.YtapimggcnneabaaW.PrintMore
attribute [local go_sem] max2_int min2_int max_two min_two max_three min_three max_four min_four   -- for this text's walks alone
set_option linter.unusedVariables false
set_option linter.unusedSimpArgs false



def errW : Option Int → Value
  | none => .nilIface
  | some c => .iface 0 (.int .i64 c)
theorem errW_none : errW none = .nilIface := rfl
theorem errW_some (c : Int) : errW (some c) = .iface 0 (.int .i64 c) := rfl

theorem info31 : (Try.prog.info? 31).map (fun i => (i.zero, i.size, i.bytes)) = some (some (.complex .f64 0 0), 1, 16) := by kernel_rfl
-- the values' own types
/-! #### struct type 105 -/
structure S105 where
  f0 : Nat
  f1 : Nat
def z105 : S105 := ⟨(0 : Nat), (0 : Nat)⟩
def k105 : Kd S105 := Kd.iso (Kd.pair Kd.f64 Kd.f64) (fun x : S105 => (x.f0, x.f1))
theorem k105_open {w : World} {x : S105} {cs : List Value} (h : k105.K w x cs) : cs = [.float .f64 x.f0, .float .f64 x.f1] := by
  obtain ⟨_, _, rfl, rfl, rfl⟩ := h
  exact rfl
theorem k105_openM {w : World} {base : Nat} {ok : Nat → Prop} {x : S105} {cs : List Value} (h : k105.M w base ok x cs) : cs = [.float .f64 x.f0, .float .f64 x.f1] := by
  obtain ⟨_, _, rfl, rfl, rfl⟩ := h
  exact rfl
theorem k105_mk (w : World) (x : S105)  : k105.K w x [.float .f64 x.f0, .float .f64 x.f1] := ⟨[.float .f64 x.f0], [.float .f64 x.f1], rfl, rfl, rfl⟩
theorem k105_mkM (w : World) (base : Nat) (ok : Nat → Prop) (x : S105)  : k105.M w base ok x [.float .f64 x.f0, .float .f64 x.f1] := ⟨[.float .f64 x.f0], [.float .f64 x.f1], rfl, rfl, rfl⟩
def rd_T105 (xs : List S105) (i : Int) : S105 := xs.getD i.toNat z105
theorem at_T105 {w : World} {A : Option Addr} {n : Nat} {xs : List S105} (h : Kd.C k105 w A n xs) (i : Int) (h0 : 0 ≤ i) (h1 : i < n) : ∃ ad , A = some ad ∧ w.cell? (ad.add (i.toNat * 2)) = some (.float .f64 (rd_T105 xs i).f0) ∧ w.cell? ⟨(ad.add (i.toNat * 2)).block, (ad.add (i.toNat * 2)).off + 1, none⟩ = some (.float .f64 (rd_T105 xs i).f1) := by
  obtain ⟨ad, c, e, _, hK, hc0⟩ := Kd.C_get h z105 i h0 h1
  have hc : ∀ j u, c[j]? = some u → w.cell? (ad.add (i.toNat * 2 + j)) = some u := hc0
  obtain rfl := k105_open hK
  exact ⟨ad, e, hc 0 _ rfl, by rw [← add_field _ _ 1 (by omega)]; exact hc 1 _ rfl⟩

theorem ext83 (x : Nat) (h : ftruncok x = true) (W : World) : (callFunc 83 #[.float .f64 x]).run Try.prog W = .ok (.value (.float .f64 (ftrunc x))) W :=
  ext_trunc Try.func83 (by kernel_rfl) (by kernel_rfl) (by kernel_rfl) (by kernel_rfl) x h W
theorem ext93 (x y c : Int) (h : c01 c = true) (W : World) : (callFunc 93 #[.int .u64 x, .int .u64 y, .int .u64 c]).run Try.prog W = .ok (.value (.tuple #[.int .u64 (u64add x y c), .int .u64 (u64car x y c)])) W :=
  ext_add64 Try.func93 (by kernel_rfl) (by kernel_rfl) (by kernel_rfl) (by kernel_rfl) x y c h W
theorem ext96 (x : Int) (W : World) : (callFunc 96 #[.int .u64 x]).run Try.prog W = .ok (.value (.float .f64 (u2f x))) W :=
  ext_u2f Try.func96 (by kernel_rfl) (by kernel_rfl) (by kernel_rfl) (by kernel_rfl) x W
theorem ext97 (x : Nat) (W : World) : (callFunc 97 #[.float .f64 x]).run Try.prog W = .ok (.value (.int .u64 (f2u x))) W :=
  ext_f2u Try.func97 (by kernel_rfl) (by kernel_rfl) (by kernel_rfl) (by kernel_rfl) x W
/-- What reading tells of a struct of type 105. -/
def okS105 (x : S105) : Prop := ((Lit.float .f64 x.f0).wf = true) ∧ ((Lit.float .f64 x.f1).wf = true)
theorem opens105 (w : World) : Opens Try.prog w 105 k105 okS105 :=
  opens_imp (opens_iso (fun x : S105 => (x.f0, x.f1)) (fun p => ⟨p.1, p.2⟩) (fun _ => rfl) (opens_struct Try.underlying105 (by kernel_rfl) (fields_cons rfl (by kernel_rfl) (opens_float Try.underlying38) (fields_one rfl (by kernel_rfl) (opens_float Try.underlying38))))) (fun _ h => h)
end Go.Proofs.Ytapimggcnneabaa.PH
