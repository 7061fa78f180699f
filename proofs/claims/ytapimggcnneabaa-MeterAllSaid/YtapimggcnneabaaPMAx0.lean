-- Written by a program of this session for this claim (wip/print2.sh). Lean checks it.
import Derived.Test.YtapimggcnneabaaProg
import Derived.Below
import Derived.Deep.Draws
import Derived.Deep.AppendLies
import Derived.Maps.AppendAt
import Derived.OwnWalk
import Derived.Laws.BytesArg
import Derived.Laws.MakeOwn
import Derived.Laws.OwnMore
import Derived.Deep.OwnRows
import Derived.Tactics
import Derived.Lib.ConvBytes
import Derived.Laws.Slices
import Derived.WalkKit
import Derived.KernelRfl
import Derived.RowKit3
import Derived.Deep.LoopGhost
import Derived.Deep.QuietTactic
import Derived.BigQuiet
import Derived.WideLaws
import Derived.Deep.DeepCutAuto
import Derived.Deep.CutBlock
import Derived.Deep.RegionHeld3
import Derived.Laws.Rows
import Derived.Lib.AppendStr
import Derived.ArgAppend
import Derived.Laws.IdiomCopy
import Derived.OrdersHeld
import Derived.Laws.BitsLemmas
import Derived.RowKit
import Derived.Test.YtapimggcnneabaaWWords
import Derived.Test.YtapimggcnneabaaWLast
import Derived.Test.YtapimggcnneabaaWTab
import Derived.Test.YtapimggcnneabaaWQPut
import Derived.Test.YtapimggcnneabaaWApart
import Derived.Test.YtapimggcnneabaaWArr
import Derived.Test.YtapimggcnneabaaWZeros
import Derived.Test.YtapimggcnneabaaWFoot
import Derived.Test.YtapimggcnneabaaWKept
import Derived.Test.YtapimggcnneabaaWShare
import Derived.Test.YtapimggcnneabaaWN
import Derived.Test.YtapimggcnneabaaWRepsOne
import Derived.Test.YtapimggcnneabaaWNEv
import Derived.Test.YtapimggcnneabaaWMore
import Derived.Test.YtapimggcnneabaaXCut
import Derived.Test.YtapimggcnneabaaXExt
import Derived.Test.YtapimggcnneabaaXFlo
import Derived.Test.YtapimggcnneabaaXOpen
namespace Go.Proofs.Ytapimggcnneabaa.PMA
open Go.Proofs.YtapimggcnneabaaW.PrintWords
attribute [local go_sem high] fx_eql fx_neq fx_lss fx_leq fx_gtr fx_geq fx_add fx_sub fx_mul fx_neg fx_toint cxx_add cxx_sub cxx_mul cxx_eql cxx_neq cxx_pick st_float st_complex
open Go.RowKit Go.Proofs.YtapimggcnneabaaW.PrintWords Go.Proofs.YtapimggcnneabaaW.PrintLast Go.Proofs.YtapimggcnneabaaW.PrintMore
attribute [local go_sem] max2_int min2_int max_two min_two max_three min_three max_four min_four   -- for this text's walks alone
set_option linter.unusedVariables false
set_option linter.unusedSimpArgs false



def errW : Option Int → Value
  | none => .nilIface
  | some c => .iface 0 (.int .i64 c)
theorem errW_none : errW none = .nilIface := rfl
theorem errW_some (c : Int) : errW (some c) = .iface 0 (.int .i64 c) := rfl

theorem info31 : (Try.prog.info? 31).map (fun i => (i.zero, i.size, i.bytes)) = some (some (.complex .f64 0 0), 1, 16) := by kernel_rfl
-- the values' own types
/-! #### struct type 25 -/
structure S25 where
  f0 : Int
  f1 : Int
  f2 : Int
  f3 : Int
  f4 : Int
def z25 : S25 := ⟨(0 : Int), (0 : Int), (0 : Int), (0 : Int), (0 : Int)⟩
def k25 : Kd S25 := Kd.iso (Kd.pair (Kd.int .i64) (Kd.pair (Kd.int .i64) (Kd.pair (Kd.int .i64) (Kd.pair (Kd.int .i64) (Kd.int .u8))))) (fun x : S25 => (x.f0, x.f1, x.f2, x.f3, x.f4))
theorem k25_open {w : World} {x : S25} {cs : List Value} (h : k25.K w x cs) : cs = [.int .i64 x.f0, .int .i64 x.f1, .int .i64 x.f2, .int .i64 x.f3, .int .u8 x.f4] := by
  obtain ⟨_, _, rfl, rfl, ⟨_, _, rfl, rfl, ⟨_, _, rfl, rfl, ⟨_, _, rfl, rfl, rfl⟩⟩⟩⟩ := h
  exact rfl
theorem k25_openM {w : World} {base : Nat} {ok : Nat → Prop} {x : S25} {cs : List Value} (h : k25.M w base ok x cs) : cs = [.int .i64 x.f0, .int .i64 x.f1, .int .i64 x.f2, .int .i64 x.f3, .int .u8 x.f4] := by
  obtain ⟨_, _, rfl, rfl, ⟨_, _, rfl, rfl, ⟨_, _, rfl, rfl, ⟨_, _, rfl, rfl, rfl⟩⟩⟩⟩ := h
  exact rfl
theorem k25_mk (w : World) (x : S25)  : k25.K w x [.int .i64 x.f0, .int .i64 x.f1, .int .i64 x.f2, .int .i64 x.f3, .int .u8 x.f4] := ⟨[.int .i64 x.f0], [.int .i64 x.f1, .int .i64 x.f2, .int .i64 x.f3, .int .u8 x.f4], rfl, rfl, ⟨[.int .i64 x.f1], [.int .i64 x.f2, .int .i64 x.f3, .int .u8 x.f4], rfl, rfl, ⟨[.int .i64 x.f2], [.int .i64 x.f3, .int .u8 x.f4], rfl, rfl, ⟨[.int .i64 x.f3], [.int .u8 x.f4], rfl, rfl, rfl⟩⟩⟩⟩
theorem k25_mkM (w : World) (base : Nat) (ok : Nat → Prop) (x : S25)  : k25.M w base ok x [.int .i64 x.f0, .int .i64 x.f1, .int .i64 x.f2, .int .i64 x.f3, .int .u8 x.f4] := ⟨[.int .i64 x.f0], [.int .i64 x.f1, .int .i64 x.f2, .int .i64 x.f3, .int .u8 x.f4], rfl, rfl, ⟨[.int .i64 x.f1], [.int .i64 x.f2, .int .i64 x.f3, .int .u8 x.f4], rfl, rfl, ⟨[.int .i64 x.f2], [.int .i64 x.f3, .int .u8 x.f4], rfl, rfl, ⟨[.int .i64 x.f3], [.int .u8 x.f4], rfl, rfl, rfl⟩⟩⟩⟩
def rd_T25 (xs : List S25) (i : Int) : S25 := xs.getD i.toNat z25
theorem at_T25 {w : World} {A : Option Addr} {n : Nat} {xs : List S25} (h : Kd.C k25 w A n xs) (i : Int) (h0 : 0 ≤ i) (h1 : i < n) : ∃ ad , A = some ad ∧ w.cell? (ad.add (i.toNat * 5)) = some (.int .i64 (rd_T25 xs i).f0) ∧ w.cell? ⟨(ad.add (i.toNat * 5)).block, (ad.add (i.toNat * 5)).off + 1, none⟩ = some (.int .i64 (rd_T25 xs i).f1) ∧ w.cell? ⟨(ad.add (i.toNat * 5)).block, (ad.add (i.toNat * 5)).off + 2, none⟩ = some (.int .i64 (rd_T25 xs i).f2) ∧ w.cell? ⟨(ad.add (i.toNat * 5)).block, (ad.add (i.toNat * 5)).off + 3, none⟩ = some (.int .i64 (rd_T25 xs i).f3) ∧ w.cell? ⟨(ad.add (i.toNat * 5)).block, (ad.add (i.toNat * 5)).off + 4, none⟩ = some (.int .u8 (rd_T25 xs i).f4) := by
  obtain ⟨ad, c, e, _, hK, hc0⟩ := Kd.C_get h z25 i h0 h1
  have hc : ∀ j u, c[j]? = some u → w.cell? (ad.add (i.toNat * 5 + j)) = some u := hc0
  obtain rfl := k25_open hK
  exact ⟨ad, e, hc 0 _ rfl, by rw [← add_field _ _ 1 (by omega)]; exact hc 1 _ rfl, by rw [← add_field _ _ 2 (by omega)]; exact hc 2 _ rfl, by rw [← add_field _ _ 3 (by omega)]; exact hc 3 _ rfl, by rw [← add_field _ _ 4 (by omega)]; exact hc 4 _ rfl⟩

/-! #### struct type 47 -/
structure S47 where
  f0 : Nat
  f1 : Nat
def z47 : S47 := ⟨(0 : Nat), (0 : Nat)⟩
def k47 : Kd S47 := Kd.iso (Kd.pair Kd.f64 Kd.f64) (fun x : S47 => (x.f0, x.f1))
theorem k47_open {w : World} {x : S47} {cs : List Value} (h : k47.K w x cs) : cs = [.float .f64 x.f0, .float .f64 x.f1] := by
  obtain ⟨_, _, rfl, rfl, rfl⟩ := h
  exact rfl
theorem k47_openM {w : World} {base : Nat} {ok : Nat → Prop} {x : S47} {cs : List Value} (h : k47.M w base ok x cs) : cs = [.float .f64 x.f0, .float .f64 x.f1] := by
  obtain ⟨_, _, rfl, rfl, rfl⟩ := h
  exact rfl
theorem k47_mk (w : World) (x : S47)  : k47.K w x [.float .f64 x.f0, .float .f64 x.f1] := ⟨[.float .f64 x.f0], [.float .f64 x.f1], rfl, rfl, rfl⟩
theorem k47_mkM (w : World) (base : Nat) (ok : Nat → Prop) (x : S47)  : k47.M w base ok x [.float .f64 x.f0, .float .f64 x.f1] := ⟨[.float .f64 x.f0], [.float .f64 x.f1], rfl, rfl, rfl⟩
def rd_T47 (xs : List S47) (i : Int) : S47 := xs.getD i.toNat z47
theorem at_T47 {w : World} {A : Option Addr} {n : Nat} {xs : List S47} (h : Kd.C k47 w A n xs) (i : Int) (h0 : 0 ≤ i) (h1 : i < n) : ∃ ad , A = some ad ∧ w.cell? (ad.add (i.toNat * 2)) = some (.float .f64 (rd_T47 xs i).f0) ∧ w.cell? ⟨(ad.add (i.toNat * 2)).block, (ad.add (i.toNat * 2)).off + 1, none⟩ = some (.float .f64 (rd_T47 xs i).f1) := by
  obtain ⟨ad, c, e, _, hK, hc0⟩ := Kd.C_get h z47 i h0 h1
  have hc : ∀ j u, c[j]? = some u → w.cell? (ad.add (i.toNat * 2 + j)) = some u := hc0
  obtain rfl := k47_open hK
  exact ⟨ad, e, hc 0 _ rfl, by rw [← add_field _ _ 1 (by omega)]; exact hc 1 _ rfl⟩

def rd_L6 (xs : List (List S25)) (i : Int) : (List S25) := xs.getD i.toNat ([] : List S25)
theorem at_L6 {w : World} {A : Option Addr} {n : Nat} {xs : List (List S25)} (h : Kd.C (Kd.slice 25 k25) w A n xs) (i : Int) (h0 : 0 ≤ i) (h1 : i < n) : ∃ ad A0 c0, A = some ad ∧ w.cell? (ad.add i.toNat) = some (.slice A0 (rd_L6 xs i).length c0) ∧ (rd_L6 xs i).length ≤ c0 ∧ k25.C w A0 (rd_L6 xs i).length (rd_L6 xs i) := by
  obtain ⟨ad, c, e, _, hK, hc0⟩ := Kd.C_get h ([] : List S25) i h0 h1
  have hc : ∀ j u, c[j]? = some u → w.cell? (ad.add (i.toNat * 1 + j)) = some u := hc0
  obtain ⟨A0, c0, rfl, l0, g0⟩ := hK
  exact ⟨ad, A0, c0, e, by have hq := hc 0 _ rfl; rwa [Nat.mul_one, Nat.add_zero] at hq, l0, g0⟩

def rd_L7 (xs : List (List S47)) (i : Int) : (List S47) := xs.getD i.toNat ([] : List S47)
theorem at_L7 {w : World} {A : Option Addr} {n : Nat} {xs : List (List S47)} (h : Kd.C (Kd.slice 47 k47) w A n xs) (i : Int) (h0 : 0 ≤ i) (h1 : i < n) : ∃ ad A0 c0, A = some ad ∧ w.cell? (ad.add i.toNat) = some (.slice A0 (rd_L7 xs i).length c0) ∧ (rd_L7 xs i).length ≤ c0 ∧ k47.C w A0 (rd_L7 xs i).length (rd_L7 xs i) := by
  obtain ⟨ad, c, e, _, hK, hc0⟩ := Kd.C_get h ([] : List S47) i h0 h1
  have hc : ∀ j u, c[j]? = some u → w.cell? (ad.add (i.toNat * 1 + j)) = some u := hc0
  obtain ⟨A0, c0, rfl, l0, g0⟩ := hK
  exact ⟨ad, A0, c0, e, by have hq := hc 0 _ rfl; rwa [Nat.mul_one, Nat.add_zero] at hq, l0, g0⟩

/-! #### struct type 73 -/
structure S73 where
  f0 : Int
  f1 : S47
  f2 : S25
  f3 : Int
  f4 : Int
  f5 : (List S25)
  f6 : (List S47)
def z73 : S73 := ⟨(0 : Int), z47, z25, (0 : Int), (0 : Int), ([] : List S25), ([] : List S47)⟩
def k73 : Kd S73 := Kd.iso (Kd.pair (Kd.int .i64) (Kd.pair k47 (Kd.pair k25 (Kd.pair (Kd.int .i64) (Kd.pair (Kd.int .i64) (Kd.pair (Kd.slice 25 k25) (Kd.slice 47 k47))))))) (fun x : S73 => (x.f0, x.f1, x.f2, x.f3, x.f4, x.f5, x.f6))
theorem k73_open {w : World} {x : S73} {cs : List Value} (h : k73.K w x cs) : ∃ A10 c10 A11 c11, cs = [.int .i64 x.f0, .float .f64 x.f1.f0, .float .f64 x.f1.f1, .int .i64 x.f2.f0, .int .i64 x.f2.f1, .int .i64 x.f2.f2, .int .i64 x.f2.f3, .int .u8 x.f2.f4, .int .i64 x.f3, .int .i64 x.f4, .slice A10 x.f5.length c10, .slice A11 x.f6.length c11] ∧ x.f5.length ≤ c10 ∧ k25.C w A10 x.f5.length x.f5 ∧ x.f6.length ≤ c11 ∧ k47.C w A11 x.f6.length x.f6 := by
  obtain ⟨_, _, rfl, rfl, ⟨_, _, rfl, s1, ⟨_, _, rfl, s3, ⟨_, _, rfl, rfl, ⟨_, _, rfl, rfl, ⟨_, _, rfl, ⟨A10, c10, rfl, l10, g10⟩, ⟨A11, c11, rfl, l11, g11⟩⟩⟩⟩⟩⟩⟩ := h
  obtain rfl := k47_open s1
  obtain rfl := k25_open s3
  exact ⟨A10, c10, A11, c11, rfl, l10, g10, l11, g11⟩
theorem k73_openM {w : World} {base : Nat} {ok : Nat → Prop} {x : S73} {cs : List Value} (h : k73.M w base ok x cs) : ∃ v10 v11, cs = [.int .i64 x.f0, .float .f64 x.f1.f0, .float .f64 x.f1.f1, .int .i64 x.f2.f0, .int .i64 x.f2.f1, .int .i64 x.f2.f2, .int .i64 x.f2.f3, .int .u8 x.f2.f4, .int .i64 x.f3, .int .i64 x.f4, v10, v11] ∧ k25.R 25 w base ok v10 x.f5 ∧ k47.R 47 w base ok v11 x.f6 := by
  obtain ⟨_, _, rfl, rfl, ⟨_, _, rfl, s1, ⟨_, _, rfl, s3, ⟨_, _, rfl, rfl, ⟨_, _, rfl, rfl, ⟨_, _, rfl, ⟨v10, rfl, g10⟩, ⟨v11, rfl, g11⟩⟩⟩⟩⟩⟩⟩ := h
  obtain rfl := k47_openM s1
  obtain rfl := k25_openM s3
  exact ⟨v10, v11, rfl, g10, g11⟩
theorem k73_mk (w : World) (x : S73) {A10 : Option Addr} {c10 : Nat} (l10 : x.f5.length ≤ c10) (g10 : k25.C w A10 x.f5.length x.f5) {A11 : Option Addr} {c11 : Nat} (l11 : x.f6.length ≤ c11) (g11 : k47.C w A11 x.f6.length x.f6) : k73.K w x [.int .i64 x.f0, .float .f64 x.f1.f0, .float .f64 x.f1.f1, .int .i64 x.f2.f0, .int .i64 x.f2.f1, .int .i64 x.f2.f2, .int .i64 x.f2.f3, .int .u8 x.f2.f4, .int .i64 x.f3, .int .i64 x.f4, .slice A10 x.f5.length c10, .slice A11 x.f6.length c11] := ⟨[.int .i64 x.f0], [.float .f64 x.f1.f0, .float .f64 x.f1.f1, .int .i64 x.f2.f0, .int .i64 x.f2.f1, .int .i64 x.f2.f2, .int .i64 x.f2.f3, .int .u8 x.f2.f4, .int .i64 x.f3, .int .i64 x.f4, .slice A10 x.f5.length c10, .slice A11 x.f6.length c11], rfl, rfl, ⟨[.float .f64 x.f1.f0, .float .f64 x.f1.f1], [.int .i64 x.f2.f0, .int .i64 x.f2.f1, .int .i64 x.f2.f2, .int .i64 x.f2.f3, .int .u8 x.f2.f4, .int .i64 x.f3, .int .i64 x.f4, .slice A10 x.f5.length c10, .slice A11 x.f6.length c11], rfl, (k47_mk w x.f1 ), ⟨[.int .i64 x.f2.f0, .int .i64 x.f2.f1, .int .i64 x.f2.f2, .int .i64 x.f2.f3, .int .u8 x.f2.f4], [.int .i64 x.f3, .int .i64 x.f4, .slice A10 x.f5.length c10, .slice A11 x.f6.length c11], rfl, (k25_mk w x.f2 ), ⟨[.int .i64 x.f3], [.int .i64 x.f4, .slice A10 x.f5.length c10, .slice A11 x.f6.length c11], rfl, rfl, ⟨[.int .i64 x.f4], [.slice A10 x.f5.length c10, .slice A11 x.f6.length c11], rfl, rfl, ⟨[.slice A10 x.f5.length c10], [.slice A11 x.f6.length c11], rfl, ⟨A10, c10, rfl, l10, g10⟩, ⟨A11, c11, rfl, l11, g11⟩⟩⟩⟩⟩⟩⟩
theorem k73_mkM (w : World) (base : Nat) (ok : Nat → Prop) (x : S73) {v10 : Value} (g10 : k25.R 25 w base ok v10 x.f5) {v11 : Value} (g11 : k47.R 47 w base ok v11 x.f6) : k73.M w base ok x [.int .i64 x.f0, .float .f64 x.f1.f0, .float .f64 x.f1.f1, .int .i64 x.f2.f0, .int .i64 x.f2.f1, .int .i64 x.f2.f2, .int .i64 x.f2.f3, .int .u8 x.f2.f4, .int .i64 x.f3, .int .i64 x.f4, v10, v11] := ⟨[.int .i64 x.f0], [.float .f64 x.f1.f0, .float .f64 x.f1.f1, .int .i64 x.f2.f0, .int .i64 x.f2.f1, .int .i64 x.f2.f2, .int .i64 x.f2.f3, .int .u8 x.f2.f4, .int .i64 x.f3, .int .i64 x.f4, v10, v11], rfl, rfl, ⟨[.float .f64 x.f1.f0, .float .f64 x.f1.f1], [.int .i64 x.f2.f0, .int .i64 x.f2.f1, .int .i64 x.f2.f2, .int .i64 x.f2.f3, .int .u8 x.f2.f4, .int .i64 x.f3, .int .i64 x.f4, v10, v11], rfl, (k47_mkM w base ok x.f1 ), ⟨[.int .i64 x.f2.f0, .int .i64 x.f2.f1, .int .i64 x.f2.f2, .int .i64 x.f2.f3, .int .u8 x.f2.f4], [.int .i64 x.f3, .int .i64 x.f4, v10, v11], rfl, (k25_mkM w base ok x.f2 ), ⟨[.int .i64 x.f3], [.int .i64 x.f4, v10, v11], rfl, rfl, ⟨[.int .i64 x.f4], [v10, v11], rfl, rfl, ⟨[v10], [v11], rfl, ⟨v10, rfl, g10⟩, ⟨v11, rfl, g11⟩⟩⟩⟩⟩⟩⟩
def rd_T73 (xs : List S73) (i : Int) : S73 := xs.getD i.toNat z73
theorem at_T73 {w : World} {A : Option Addr} {n : Nat} {xs : List S73} (h : Kd.C k73 w A n xs) (i : Int) (h0 : 0 ≤ i) (h1 : i < n) : ∃ ad A10 c10 A11 c11, A = some ad ∧ w.cell? (ad.add (i.toNat * 12)) = some (.int .i64 (rd_T73 xs i).f0) ∧ w.cell? ⟨(ad.add (i.toNat * 12)).block, (ad.add (i.toNat * 12)).off + 1, none⟩ = some (.float .f64 (rd_T73 xs i).f1.f0) ∧ w.cell? ⟨(ad.add (i.toNat * 12)).block, (ad.add (i.toNat * 12)).off + 2, none⟩ = some (.float .f64 (rd_T73 xs i).f1.f1) ∧ w.cell? ⟨(ad.add (i.toNat * 12)).block, (ad.add (i.toNat * 12)).off + 3, none⟩ = some (.int .i64 (rd_T73 xs i).f2.f0) ∧ w.cell? ⟨(ad.add (i.toNat * 12)).block, (ad.add (i.toNat * 12)).off + 4, none⟩ = some (.int .i64 (rd_T73 xs i).f2.f1) ∧ w.cell? ⟨(ad.add (i.toNat * 12)).block, (ad.add (i.toNat * 12)).off + 5, none⟩ = some (.int .i64 (rd_T73 xs i).f2.f2) ∧ w.cell? ⟨(ad.add (i.toNat * 12)).block, (ad.add (i.toNat * 12)).off + 6, none⟩ = some (.int .i64 (rd_T73 xs i).f2.f3) ∧ w.cell? ⟨(ad.add (i.toNat * 12)).block, (ad.add (i.toNat * 12)).off + 7, none⟩ = some (.int .u8 (rd_T73 xs i).f2.f4) ∧ w.cell? ⟨(ad.add (i.toNat * 12)).block, (ad.add (i.toNat * 12)).off + 8, none⟩ = some (.int .i64 (rd_T73 xs i).f3) ∧ w.cell? ⟨(ad.add (i.toNat * 12)).block, (ad.add (i.toNat * 12)).off + 9, none⟩ = some (.int .i64 (rd_T73 xs i).f4) ∧ w.cell? ⟨(ad.add (i.toNat * 12)).block, (ad.add (i.toNat * 12)).off + 10, none⟩ = some (.slice A10 (rd_T73 xs i).f5.length c10) ∧ w.cell? ⟨(ad.add (i.toNat * 12)).block, (ad.add (i.toNat * 12)).off + 11, none⟩ = some (.slice A11 (rd_T73 xs i).f6.length c11) ∧ (rd_T73 xs i).f5.length ≤ c10 ∧ k25.C w A10 (rd_T73 xs i).f5.length (rd_T73 xs i).f5 ∧ (rd_T73 xs i).f6.length ≤ c11 ∧ k47.C w A11 (rd_T73 xs i).f6.length (rd_T73 xs i).f6 := by
  obtain ⟨ad, c, e, _, hK, hc0⟩ := Kd.C_get h z73 i h0 h1
  have hc : ∀ j u, c[j]? = some u → w.cell? (ad.add (i.toNat * 12 + j)) = some u := hc0
  obtain ⟨A10, c10, A11, c11, rfl, l10, g10, l11, g11⟩ := k73_open hK
  exact ⟨ad, A10, c10, A11, c11, e, hc 0 _ rfl, by rw [← add_field _ _ 1 (by omega)]; exact hc 1 _ rfl, by rw [← add_field _ _ 2 (by omega)]; exact hc 2 _ rfl, by rw [← add_field _ _ 3 (by omega)]; exact hc 3 _ rfl, by rw [← add_field _ _ 4 (by omega)]; exact hc 4 _ rfl, by rw [← add_field _ _ 5 (by omega)]; exact hc 5 _ rfl, by rw [← add_field _ _ 6 (by omega)]; exact hc 6 _ rfl, by rw [← add_field _ _ 7 (by omega)]; exact hc 7 _ rfl, by rw [← add_field _ _ 8 (by omega)]; exact hc 8 _ rfl, by rw [← add_field _ _ 9 (by omega)]; exact hc 9 _ rfl, by rw [← add_field _ _ 10 (by omega)]; exact hc 10 _ rfl, by rw [← add_field _ _ 11 (by omega)]; exact hc 11 _ rfl, l10, g10, l11, g11⟩

theorem ext83 (x : Nat) (h : ftruncok x = true) (W : World) : (callFunc 83 #[.float .f64 x]).run Try.prog W = .ok (.value (.float .f64 (ftrunc x))) W :=
  ext_trunc Try.func83 (by kernel_rfl) (by kernel_rfl) (by kernel_rfl) (by kernel_rfl) x h W
theorem ext96 (x : Int) (W : World) : (callFunc 96 #[.int .u64 x]).run Try.prog W = .ok (.value (.float .f64 (u2f x))) W :=
  ext_u2f Try.func96 (by kernel_rfl) (by kernel_rfl) (by kernel_rfl) (by kernel_rfl) x W
theorem ext97 (x : Nat) (W : World) : (callFunc 97 #[.float .f64 x]).run Try.prog W = .ok (.value (.int .u64 (f2u x))) W :=
  ext_f2u Try.func97 (by kernel_rfl) (by kernel_rfl) (by kernel_rfl) (by kernel_rfl) x W
/-- What reading tells of a struct of type 47. -/
def okS47 (x : S47) : Prop := ((Lit.float .f64 x.f0).wf = true) ∧ ((Lit.float .f64 x.f1).wf = true)
theorem opens47 (w : World) : Opens Try.prog w 47 k47 okS47 :=
  opens_imp (opens_iso (fun x : S47 => (x.f0, x.f1)) (fun p => ⟨p.1, p.2⟩) (fun _ => rfl) (opens_struct Try.underlying47 (by kernel_rfl) (fields_cons rfl (by kernel_rfl) (opens_float Try.underlying38) (fields_one rfl (by kernel_rfl) (opens_float Try.underlying38))))) (fun _ h => h)
/-- What reading tells of a struct of type 25. -/
def okS25 (x : S25) : Prop := ((Lit.int .i64 x.f0).wf = true) ∧ ((Lit.int .i64 x.f1).wf = true) ∧ ((Lit.int .i64 x.f2).wf = true) ∧ ((Lit.int .i64 x.f3).wf = true) ∧ ((Lit.int .u8 x.f4).wf = true)
theorem opens25 (w : World) : Opens Try.prog w 25 k25 okS25 :=
  opens_imp (opens_iso (fun x : S25 => (x.f0, x.f1, x.f2, x.f3, x.f4)) (fun p => ⟨p.1, p.2.1, p.2.2.1, p.2.2.2.1, p.2.2.2.2⟩) (fun _ => rfl) (opens_struct Try.underlying25 (by kernel_rfl) (fields_cons rfl (by kernel_rfl) (opens_int Try.underlying3) (fields_cons rfl (by kernel_rfl) (opens_int Try.underlying2) (fields_cons rfl (by kernel_rfl) (opens_int Try.underlying2) (fields_cons rfl (by kernel_rfl) (opens_int Try.underlying2) (fields_one rfl (by kernel_rfl) (opens_int Try.underlying5)))))))) (fun _ h => h)
/-- What reading tells of a struct of type 73. -/
def okS73 (x : S73) : Prop := ((Lit.int .i64 x.f0).wf = true) ∧ (okS47 x.f1) ∧ (okS25 x.f2) ∧ ((Lit.int .i64 x.f3).wf = true) ∧ ((Lit.int .i64 x.f4).wf = true) ∧ (x.f5.length * 40 ≤ 140737488351232 ∧ ∀ y_ ∈ x.f5, okS25 y_) ∧ (x.f6.length * 16 ≤ 140737488351232 ∧ ∀ y_ ∈ x.f6, okS47 y_)
theorem opens73 (w : World) : Opens Try.prog w 73 k73 okS73 :=
  opens_imp (opens_iso (fun x : S73 => (x.f0, x.f1, x.f2, x.f3, x.f4, x.f5, x.f6)) (fun p => ⟨p.1, p.2.1, p.2.2.1, p.2.2.2.1, p.2.2.2.2.1, p.2.2.2.2.2.1, p.2.2.2.2.2.2⟩) (fun _ => rfl) (opens_struct Try.underlying73 (by kernel_rfl) (fields_cons rfl (by kernel_rfl) (opens_int Try.underlying3) (fields_cons rfl (by kernel_rfl) (opens47 w) (fields_cons rfl (by kernel_rfl) (opens25 w) (fields_cons rfl (by kernel_rfl) (opens_int Try.underlying2) (fields_cons rfl (by kernel_rfl) (opens_int Try.underlying3) (fields_cons rfl (by kernel_rfl) (opens_slice Try.underlying22 (B := 40) (by kernel_rfl) (by kernel_rfl) (opens25 w)) (fields_one rfl (by kernel_rfl) (opens_slice Try.underlying62 (B := 16) (by kernel_rfl) (by kernel_rfl) (opens47 w))))))))))) (fun _ h => h)
set_option linter.defProp false
def bN_ := @blk_drewN
def bD_ := @blk_drew
def bA_ := @blk_alloc
def lA_ := @below_alloc
def lN_ := @pw_below_drewN
def l1_ := @below_drew1
def lS_ := @below_set
def bF_ := @blk_far
def bP_ := @blk_put
def bB_ := @blk_below
def bZ_ := @blk_frozen
def bC_ := @blk_cell
end Go.Proofs.Ytapimggcnneabaa.PMA
