/- What the calls into strconv give: fix.Text and (api.Errno).Error, over the shelf's contracts; what they lean on, carried along whatever the call makes. -/
import Derived.Test.YtofedlghaopciaaDoorShelf
import Derived.Lib.AppendIntMem
import Derived.Lib.ItoaLen
import Derived.WalkKit
import Derived.Laws.BytesArg
import Derived.Lib.AppendStr
import Derived.Tactics
import Derived.Below
import Derived.RowKit3
set_option linter.unusedVariables false
set_option linter.unusedSimpArgs false
namespace Go.Proofs.YtofedlghaopciaaDoor.Hand
open Go Go.RowKit Go.Lib Go.Proofs
/-- The table of the powers of ten reads as its initialiser lays it. -/
def Tab (w : World) : Prop := Lib.TabIs Tryd.prog w "internal/strconv.uint64pow10" .u64 Lib.pow10Tab
/-- strconv's two errors hold values. -/
def Errs (w : World) : Prop := (∃ tp p, w.var? Tryd.prog "strconv.ErrSyntax" = some #[.iface tp p]) ∧ (∃ tp p, w.var? Tryd.prog "strconv.ErrRange" = some #[.iface tp p])
/-- Now, and behind whatever is made from here on. -/
def GW (X : World → Prop) (w : World) : Prop := ∀ w', Below w.heap.size w w' → X w'
theorem GW.here {X : World → Prop} {w : World} (h : GW X w) : X w := h w (Below.refl _ _)
theorem GW.on {X : World → Prop} {w w1 : World} (h : GW X w) (hb : Below w.heap.size w w1) : GW X w1 := fun w' h' => h w' (hb.trans (h'.mono hb.size))
theorem GW.imp {X Y : World → Prop} {w : World} (h : GW X w) (f : ∀ w, X w → Y w) : GW Y w := fun w' h' => f _ (h w' h')
abbrev T1 : World → Prop := GW Tab
abbrev T2 : World → Prop := GW fun w => Tab w ∧ Errs w
def textA (n : Int) : Option ByteArray := if -9223372036854775808 ≤ n ∧ n ≤ 9223372036854775807 then some ⟨(Lib.itoa n).toArray⟩ else none
theorem text_calls (n : Int) (r : ByteArray) (w : World) (hT : T1 w) (h : textA n = some r) : Calls Tryd.prog 12 #[.int .i64 n] w fun e w' => e = .returned (.string r) ∧ Below w.heap.size w w' := by
  unfold textA at h
  by_cases hn : -9223372036854775808 ≤ n ∧ n ≤ 9223372036854775807
  · rw [if_pos hn] at h
    obtain rfl := Option.some.inj h
    have htab := hT.here
    unfold Tab at htab
    clear h hT
    go_enter Tryd.func12, Tryd.ntmps12
    go_wp2_with (go_at_call 19; refine (Tryd.strconv_FormatInt_10 n hn.1 hn.2 _ htab).mono ?_; rintro e w' ⟨rfl, k, os, rfl⟩)
    go_ret
    exact ⟨rfl, Lib.below_grow _ _ (Nat.le_refl _) k os⟩
  · rw [if_neg hn] at h
    cases h
theorem text_calls2 (n : Int) (r : ByteArray) (w : World) (hT : T2 w) (h : textA n = some r) : Calls Tryd.prog 12 #[.int .i64 n] w fun e w' => e = .returned (.string r) ∧ Below w.heap.size w w' := text_calls n r w (hT.imp fun _ h => h.1) h
def parseFit (s : ByteArray) : Bool := decide (s.size ≤ 281474976710656)
def parseOk (s : ByteArray) : Bool := match Lib.parseIntB 64 s.data.toList with
  | .ok _ => true
  | _ => false
def parseV (s : ByteArray) : Int := match Lib.parseIntB 64 s.data.toList with
  | .ok v => v
  | _ => 0
def parseS (s : ByteArray) : Int := match Lib.parseIntB 64 s.data.toList with
  | .ok _ => 0
  | .range => Lib.intSat 64 s.data.toList
  | _ => 0
theorem parse_ok (s : ByteArray) (hf : parseFit s = true) (h : parseOk s = true) (w : World) :
    Calls Tryd.prog 25 #[.string s, .int .i64 10, .int .i64 64] w fun e w' => e = .returned (.tuple #[.int .i64 (parseV s), .nilIface]) ∧ Below w.heap.size w w' := by
  have hs : s.size ≤ 281474976710656 := of_decide_eq_true hf
  unfold parseOk at h
  unfold parseV
  cases hp : Lib.parseIntB 64 s.data.toList with
  | ok v =>
    refine (Tryd.strconv_ParseInt_10_at64_ok s (by omega) v hp w).mono ?_
    rintro e w' ⟨rfl, hw⟩
    refine ⟨rfl, ?_⟩
    rcases hw with rfl | ⟨t, rfl⟩
    · exact Below.refl _ _
    · exact Lib.bytesWorld_below _ _ _
  | _ => rw [hp] at h; exact absurd h (by simp)
theorem parse_bad (s : ByteArray) (hf : parseFit s = true) (h : parseOk s = false) (w : World) (hT : T2 w) :
    Calls Tryd.prog 25 #[.string s, .int .i64 10, .int .i64 64] w fun e w' => ∃ N, e = .returned (.tuple #[.int .i64 (parseS s), .iface 79 (.pointer (some ⟨N, 0, none⟩))]) ∧ Below w.heap.size w w' := by
  have hs : s.size ≤ 281474976710656 := of_decide_eq_true hf
  obtain ⟨_, ⟨tp1, p1, hv1⟩, ⟨tp2, p2, hv2⟩⟩ := hT.here
  unfold parseOk at h
  unfold parseS
  cases hp : Lib.parseIntB 64 s.data.toList with
  | ok v => rw [hp] at h; exact absurd h (by simp)
  | range =>
    refine (Any.strconv_ParseInt_10_at64_range_var Tryd.laysC174 s hs hp tp2 p2 w hv2).mono ?_
    rintro e w' ⟨N, he, _, _, hb⟩
    exact ⟨N, he, hb⟩
  | _ =>
    refine (Any.strconv_ParseInt_10_at64_syntax_var Tryd.laysC174 s hs hp tp1 p1 w hv1).mono ?_
    rintro e w' ⟨N, he, _, _, hb⟩
    exact ⟨N, he, hb⟩
end Go.Proofs.YtofedlghaopciaaDoor.Hand
