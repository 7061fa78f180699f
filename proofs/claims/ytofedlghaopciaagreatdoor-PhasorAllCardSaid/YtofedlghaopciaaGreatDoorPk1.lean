/- Texts of this claim, joined. -/
import Derived.Test.YtofedlghaopciaaGreatDoorShelf
import Derived.Lib.AppendIntMem
import Derived.Lib.ItoaLen
import Derived.WalkKit
import Derived.Laws.BytesArg
import Derived.Lib.AppendStr
import Derived.Tactics
import Derived.Below
import Derived.RowKit3
import Derived.Lib.TrimU
import Derived.Lib.TrimAscii
import Derived.Laws.RangeString
import Derived.Laws.Strings3
import Derived.Lib.Walk
import Derived.Lib.Strings
import Derived.Lib.IndexBytes
import Derived.Lib.AsciiSet
import Derived.Laws.ResultCell
import Derived.Deep.LoopGhost
import Derived.Deep.WholeRow
import Derived.Lib.Builder
import Derived.Shelf.Unicode.DecodeLast
import Derived.Test.YtofedlghaopciaaGreatDoorRows
import Derived.Lib.LaidU8T
import Derived.Lib.LaidTab
import Derived.Stop.LaidErr
import Derived.KernelRfl
section
/- What the calls into strconv give: fix.Text and (api.Errno).Error, over the shelf's contracts; what they lean on, carried along whatever the call makes. -/
set_option linter.unusedVariables false
set_option linter.unusedSimpArgs false
namespace Go.Proofs.YtofedlghaopciaaGreatDoor.Hand
open Go Go.RowKit Go.Lib Go.Proofs
/-- The table of the powers of ten reads as its initialiser lays it. -/
def Tab (w : World) : Prop := Lib.TabIs Tryz.prog w "internal/strconv.uint64pow10" .u64 Lib.pow10Tab
/-- strconv's two errors hold values. -/
def Errs (w : World) : Prop := (∃ tp p, w.var? Tryz.prog "strconv.ErrSyntax" = some #[.iface tp p]) ∧ (∃ tp p, w.var? Tryz.prog "strconv.ErrRange" = some #[.iface tp p])
/-- Now, and behind whatever is made from here on. -/
def GW (X : World → Prop) (w : World) : Prop := ∀ w', Below w.heap.size w w' → X w'
theorem GW.here {X : World → Prop} {w : World} (h : GW X w) : X w := h w (Below.refl _ _)
theorem GW.on {X : World → Prop} {w w1 : World} (h : GW X w) (hb : Below w.heap.size w w1) : GW X w1 := fun w' h' => h w' (hb.trans (h'.mono hb.size))
theorem GW.imp {X Y : World → Prop} {w : World} (h : GW X w) (f : ∀ w, X w → Y w) : GW Y w := fun w' h' => f _ (h w' h')
abbrev T1 : World → Prop := GW Tab
abbrev T2 : World → Prop := GW fun w => Tab w ∧ Errs w
def textA (n : Int) : Option ByteArray := if -9223372036854775808 ≤ n ∧ n ≤ 9223372036854775807 then some ⟨(Lib.itoa n).toArray⟩ else none
theorem text_calls (n : Int) (r : ByteArray) (w : World) (hT : T1 w) (h : textA n = some r) : Calls Tryz.prog 41 #[.int .i64 n] w fun e w' => e = .returned (.string r) ∧ Below w.heap.size w w' := by
  unfold textA at h
  by_cases hn : -9223372036854775808 ≤ n ∧ n ≤ 9223372036854775807
  · rw [if_pos hn] at h
    obtain rfl := Option.some.inj h
    have htab := hT.here
    unfold Tab at htab
    clear h hT
    go_enter Tryz.func41, Tryz.ntmps41
    go_wp2_with (go_at_call 63; refine (Tryz.strconv_FormatInt_10 n hn.1 hn.2 _ htab).mono ?_; rintro e w' ⟨rfl, k, os, rfl⟩)
    go_ret
    exact ⟨rfl, Lib.below_grow _ _ (Nat.le_refl _) k os⟩
  · rw [if_neg hn] at h
    cases h
def parseFit (s : ByteArray) : Bool := decide (s.size ≤ 281474976710656)
def parseOk (s : ByteArray) : Bool := match Lib.parseIntB 64 s.data.toList with
  | .ok _ => true
  | _ => false
def parseV (s : ByteArray) : Int := match Lib.parseIntB 64 s.data.toList with
  | .ok v => v
  | _ => 0
def parseS (s : ByteArray) : Int := match Lib.parseIntB 64 s.data.toList with
  | .ok _ => 0
  | .range => Lib.intSat 64 s.data.toList
  | _ => 0
theorem parse_ok (s : ByteArray) (hf : parseFit s = true) (h : parseOk s = true) (w : World) :
    Calls Tryz.prog 69 #[.string s, .int .i64 10, .int .i64 64] w fun e w' => e = .returned (.tuple #[.int .i64 (parseV s), .nilIface]) ∧ Below w.heap.size w w' := by
  have hs : s.size ≤ 281474976710656 := of_decide_eq_true hf
  unfold parseOk at h
  unfold parseV
  cases hp : Lib.parseIntB 64 s.data.toList with
  | ok v =>
    refine (Tryz.strconv_ParseInt_10_at64_ok s (by omega) v hp w).mono ?_
    rintro e w' ⟨rfl, hw⟩
    refine ⟨rfl, ?_⟩
    rcases hw with rfl | ⟨t, rfl⟩
    · exact Below.refl _ _
    · exact Lib.bytesWorld_below _ _ _
  | _ => rw [hp] at h; exact absurd h (by simp)
theorem parse_bad (s : ByteArray) (hf : parseFit s = true) (h : parseOk s = false) (w : World) (hT : T2 w) :
    Calls Tryz.prog 69 #[.string s, .int .i64 10, .int .i64 64] w fun e w' => ∃ N, e = .returned (.tuple #[.int .i64 (parseS s), .iface 121 (.pointer (some ⟨N, 0, none⟩))]) ∧ Below w.heap.size w w' := by
  have hs : s.size ≤ 281474976710656 := of_decide_eq_true hf
  obtain ⟨_, ⟨tp1, p1, hv1⟩, ⟨tp2, p2, hv2⟩⟩ := hT.here
  unfold parseOk at h
  unfold parseS
  cases hp : Lib.parseIntB 64 s.data.toList with
  | ok v => rw [hp] at h; exact absurd h (by simp)
  | range =>
    refine (Any.strconv_ParseInt_10_at64_range_var Tryz.laysC174 s hs hp tp2 p2 w hv2).mono ?_
    rintro e w' ⟨N, he, _, _, hb⟩
    exact ⟨N, he, hb⟩
  | _ =>
    refine (Any.strconv_ParseInt_10_at64_syntax_var Tryz.laysC174 s hs hp tp1 p1 w hv1).mono ?_
    rintro e w' ⟨N, he, _, _, hb⟩
    exact ⟨N, he, hb⟩
end Go.Proofs.YtofedlghaopciaaGreatDoor.Hand
end
section
/- The last sign in a text: what strings.LastIndexAny(s, "+-") answers, in plain words. -/
set_option linter.unusedVariables false
set_option linter.unusedSimpArgs false
namespace Go.Proofs.YtofedlghaopciaaGreatDoor.Sign
open Go.Lib
def signs : List UInt8 := [43, 45]
def runeAt (r : Nat) : Int := if r = 43 then 0 else if r = 45 then 1 else -1
/-- Byte by byte, from place k down. -/
def lastL (l : List UInt8) : Nat → Int
  | 0 => -1
  | k + 1 => if signs.contains (l.getD k 0) then (k : Int) else lastL l k
/-- Rune by rune, from place i down. -/
def lastS (l : List UInt8) : Nat → Nat → Int
  | 0, _ => -1
  | f + 1, i => if i = 0 then -1 else if 0 ≤ runeAt (decodeLastL (l.take i)).1 then ((i - (decodeLastL (l.take i)).2 : Nat) : Int) else lastS l f (i - (decodeLastL (l.take i)).2)
def oneA (l : List UInt8) : Int := if 0 ≤ runeAt (if (l.getD 0 0).toNat < 128 then (l.getD 0 0).toNat else 65533) then 0 else -1
def lastAny (l : List UInt8) : Int := if l.length = 1 then oneA l else if 8 < l.length then lastL l l.length else lastS l l.length l.length
theorem lastL_range (l : List UInt8) : ∀ k, -1 ≤ lastL l k ∧ lastL l k < k
  | 0 => by simp [lastL]
  | k + 1 => by
    have := lastL_range l k
    unfold lastL
    split <;> omega
theorem lastS_range (l : List UInt8) : ∀ f i, i ≤ l.length → -1 ≤ lastS l f i ∧ lastS l f i < i ∨ lastS l f i = -1
  | 0, i, h => .inr rfl
  | f + 1, i, h => by
    unfold lastS
    by_cases c : i = 0
    · rw [if_pos c]; exact .inr rfl
    · rw [if_neg c]
      have hw := decodeLastL_width (l.take i) (by rw [List.length_take]; omega)
      have hl : (l.take i).length = i := by rw [List.length_take]; omega
      split
      · left; omega
      · have := lastS_range l f (i - (decodeLastL (l.take i)).2) (by omega)
        omega
theorem lastAny_range (l : List UInt8) : -1 ≤ lastAny l ∧ lastAny l < l.length ∨ lastAny l = -1 := by
  unfold lastAny
  split
  · unfold oneA; split <;> omega
  · split
    · have := lastL_range l l.length; omega
    · exact lastS_range l l.length l.length (Nat.le_refl _)
theorem sign_rune {c : UInt8} : signs.contains c = true ↔ 0 ≤ runeAt c.toNat := by
  unfold signs runeAt
  have e3 : c = 43 ↔ c.toNat = 43 := ⟨fun h => by subst h; rfl, fun h => UInt8.toNat_inj.1 h⟩
  have e5 : c = 45 ↔ c.toNat = 45 := ⟨fun h => by subst h; rfl, fun h => UInt8.toNat_inj.1 h⟩
  simp only [List.contains_cons, List.contains_nil, Bool.or_false, Bool.or_eq_true, beq_iff_eq, e3, e5]
  split
  · simp [*]
  · split
    · simp [*]
    · simp [*]
theorem sign_ascii {c : UInt8} (h : signs.contains c = true) : c.toNat < 128 := by
  have := sign_rune.1 h
  unfold runeAt at this
  split at this
  · omega
  · split at this <;> omega
theorem get_at (p : List UInt8) (c : UInt8) (q : List UInt8) : (p ++ c :: q).getD p.length 0 = c := by simp [List.getD]
theorem get_in (p : List UInt8) (c : UInt8) (q : List UInt8) (j : Nat) (h : j < q.length) : (p ++ c :: q).getD (p.length + 1 + j) 0 = q[j] := by
  rw [List.getD_eq_getElem?_getD, List.getElem?_append_right (by omega), show p.length + 1 + j - p.length = j + 1 by omega, List.getElem?_cons_succ, List.getElem?_eq_getElem h]
  rfl
theorem lastL_at {p q : List UInt8} {c : UInt8} (hc : signs.contains c = true) (hq : ∀ x ∈ q, signs.contains x = false) : ∀ j, j ≤ q.length → lastL (p ++ c :: q) (p.length + 1 + j) = p.length
  | 0, _ => by
    show lastL (p ++ c :: q) (p.length + 1) = _
    unfold lastL
    rw [get_at, if_pos hc]
  | j + 1, h => by
    show lastL (p ++ c :: q) (p.length + 1 + j + 1) = _
    unfold lastL
    rw [get_in p c q j (by omega), if_neg (by rw [hq _ (List.getElem_mem (by omega))]; simp)]
    exact lastL_at hc hq j (by omega)
theorem take_last {l : List UInt8} {n : Nat} (h : n < l.length) : l.take (n + 1) = l.take n ++ [l.getD n 0] := by
  rw [List.take_succ_eq_append_getElem h, List.getD_eq_getElem?_getD, List.getElem?_eq_getElem h]
  rfl
theorem lastS_at {p q : List UInt8} {c : UInt8} (hc : signs.contains c = true) (hq : ∀ x ∈ q, signs.contains x = false ∧ x.toNat < 128) : ∀ j f, j ≤ q.length → p.length + 1 + j ≤ f → lastS (p ++ c :: q) f (p.length + 1 + j) = p.length
  | _, 0, _, hf => by omega
  | 0, f + 1, h, hf => by
    show lastS (p ++ c :: q) (f + 1) (p.length + 1) = _
    unfold lastS
    rw [if_neg (by omega), take_last (by simp), get_at, decodeLastL_ascii _ _ (sign_ascii hc), if_pos (sign_rune.1 hc)]
    omega
  | j + 1, f + 1, h, hf => by
    show lastS (p ++ c :: q) (f + 1) (p.length + 1 + j + 1) = _
    have hx := hq _ (List.getElem_mem (show j < q.length by omega))
    unfold lastS
    rw [if_neg (by omega), take_last (by simp; omega), get_in p c q j (by omega), decodeLastL_ascii _ _ hx.2, if_neg (fun h => by rw [sign_rune.2 h] at hx; exact absurd hx.1 (by simp))]
    exact lastS_at hc hq j f (by omega) (by omega)
theorem lastAny_at {p q : List UInt8} {c : UInt8} (hp : p ≠ []) (hc : signs.contains c = true) (hq : ∀ x ∈ q, signs.contains x = false ∧ x.toNat < 128) : lastAny (p ++ c :: q) = p.length := by
  have h1 := List.length_pos_iff.2 hp
  have hl : (p ++ c :: q).length = p.length + 1 + q.length := by simp; omega
  unfold lastAny
  rw [if_neg (by omega), hl]
  split
  · exact lastL_at hc (fun x hx => (hq x hx).1) q.length (Nat.le_refl _)
  · exact lastS_at hc hq q.length _ (Nat.le_refl _) (Nat.le_refl _)
end Go.Proofs.YtofedlghaopciaaGreatDoor.Sign
end
section
/- strings.LastIndexAny(s, "+-") at any s: what it answers, what it leaves as it was. -/
set_option linter.unusedVariables false
set_option linter.unusedSimpArgs false
namespace Go.Proofs.YtofedlghaopciaaGreatDoor.Hand
open Go Go.RowKit Go.Lib Go.Proofs Go.Proofs.YtofedlghaopciaaGreatDoor.Sign
abbrev pm : ByteArray := ⟨#[43, 45]⟩
theorem pm_list : pm.data.toList = [43, 45] := rfl
theorem index_pm (x : UInt8) : Lib.indexByte [43, 45] x = runeAt x.toNat := by
  have e3 : (43 : UInt8) = x ↔ x.toNat = 43 := ⟨fun h => by subst h; rfl, fun h => (UInt8.toNat_inj.1 h).symm⟩
  have e5 : (45 : UInt8) = x ↔ x.toNat = 45 := ⟨fun h => by subst h; rfl, fun h => (UInt8.toNat_inj.1 h).symm⟩
  unfold runeAt
  by_cases h3 : x.toNat = 43
  · have := e3.2 h3; subst this; rfl
  · by_cases h5 : x.toNat = 45
    · have := e5.2 h5; subst this; rfl
    · rw [if_neg h3, if_neg h5]
      have n3 : ¬ (43 : UInt8) = x := fun h => h3 (e3.1 h)
      have n5 : ¬ (45 : UInt8) = x := fun h => h5 (e5.1 h)
      simp [Lib.indexByte, n3, n5]
set_option maxHeartbeats 2000000 in
set_option maxRecDepth 1000000 in
theorem rune_err (w : World) : Calls Tryz.prog 64 #[.string pm, .int .i32 65533] w fun e w' => e = .returned (.int .i64 (-1)) ∧ Below w.heap.size w w' := by
  go_enter Tryz.func64, Tryz.ntmps64
  go_wp2
  go_loopg [5, 6] 2 (fun g _ _ wx => ∃ i : Nat, i + g = 2 ∧ wx = w.iter pm i)
  case atStart => exact ⟨0, rfl, rfl⟩
  case round =>
    obtain ⟨i, hig, rfl⟩ := hrel
    cases gk with
    | zero =>
      obtain rfl : i = 2 := by omega
      have hnx := run_next_end (P := Tryz.prog) w pm 2
      go_wp2
      go_ret
      exact ⟨rfl, (Below.refl _ _).alloc (Nat.le_refl _) _⟩
    | succ g =>
      have hi : i < pm.size := by show i < 2; omega
      obtain ⟨x, hx⟩ : ∃ x : UInt8, pm[i]'hi = x := ⟨_, rfl⟩
      have hx128 : x.toNat < 128 := by
        subst hx
        have : i = 0 ∨ i = 1 := by omega
        rcases this with rfl | rfl
        · exact (by decide : (43 : UInt8).toNat < 128)
        · exact (by decide : (45 : UInt8).toNat < 128)
      have hnx := fun ty => run_next_ascii (P := Tryz.prog) w pm i ty hi (by rw [hx]; exact hx128)
      rw [hx] at hnx
      have hne : ((x.toNat : Int) == 65533) = false := beq_eq_false_iff_ne.2 (by omega)
      go_wp2
      go_roundg g
      case measure => omega
      case rel => exact ⟨i + 1, by omega, rfl⟩
theorem rune_err' (r : Int) (h : r = 65533) (w : World) : Calls Tryz.prog 64 #[.string pm, .int .i32 r] w fun e w' => e = .returned (.int .i64 (-1)) ∧ Below w.heap.size w w' := h ▸ rune_err w
theorem enc_far (r : Nat) (h0 : 128 ≤ r) : (∃ x y : UInt8, Go.Utf8.encode r = ⟨#[x, y]⟩ ∧ 128 ≤ y.toNat) ∨ (∃ x y z : UInt8, Go.Utf8.encode r = ⟨#[x, y, z]⟩) ∨ ∃ x y z v : UInt8, Go.Utf8.encode r = ⟨#[x, y, z, v]⟩ := by
  unfold Go.Utf8.encode
  generalize hc : (if Go.Utf8.valid (r : Int) = true then (r : Int).toNat else Go.Utf8.runeError) = c
  have hc0 : 128 ≤ c := by
    subst hc
    split
    · omega
    · decide
  simp only
  rw [if_neg (by omega)]
  by_cases h1 : c < 2048
  · rw [if_pos h1]
    refine .inl ⟨_, _, rfl, ?_⟩
    simp
    omega
  · rw [if_neg h1]
    by_cases h2 : c < 65536
    · rw [if_pos h2]; exact .inr (.inl ⟨_, _, _, rfl⟩)
    · rw [if_neg h2]; exact .inr (.inr ⟨_, _, _, _, rfl⟩)
theorem index_empty (c : Int) (w : World) : Calls Tryz.prog 84 #[.string ⟨#[]⟩, .int .u8 c] w fun e w' => e = .returned (.int .i64 (-1)) ∧ w' = w := Tryz.strings_IndexByte ⟨#[]⟩ c w
set_option maxHeartbeats 800000 in
set_option maxRecDepth 1000000 in
theorem rune_far (r : Nat) (h0 : 128 ≤ r) (h1 : r ≠ 65533) (h2 : r ≤ 1114111) (w : World) : Calls Tryz.prog 64 #[.string pm, .int .i32 r] w fun e w' => e = .returned (.int .i64 (-1)) ∧ Below w.heap.size w w' := by
  have e1 : decide ((0 : Int) ≤ (r : Int)) = true := decide_eq_true (by omega)
  have e2 : decide ((r : Int) < 128) = false := decide_eq_false (by omega)
  have e3 : ((r : Int) == 65533) = false := beq_eq_false_iff_ne.2 (by omega)
  cases hv : Lib.validRune (r : Int)
  · go_enter Tryz.func64, Tryz.ntmps64
    go_wp2_with (go_at_call 85; refine (Tryz.utf8_ValidRune _ _).mono ?_; rintro e w' ⟨rfl, hw⟩; rw [hw, hv])
    go_ret
    exact ⟨rfl, Below.refl _ _⟩
  · rcases enc_far r h0 with ⟨x, y, he, hy⟩ | ⟨x, y, z, he⟩ | ⟨x, y, z, v, he⟩
    · have hny : ((45 : UInt8) == y) = false := beq_eq_false_iff_ne.2 (fun h => by subst h; exact absurd hy (by decide))
      have hw2 : IntKind.i64.wrap 2 = 2 := by decide
      have hps : pm.size = 2 := rfl
      have hex : pm.extract 2 2 = ⟨#[]⟩ := rfl
      have hex2 : pm.extract 2 pm.size = ⟨#[]⟩ := rfl
      have hny2 : ((45 : Int) == (y.toNat : Int)) = false := beq_eq_false_iff_ne.2 (by omega)
      have hb : (((pm[1]'(by decide)).toNat : Int) != (((⟨#[x, y]⟩ : ByteArray)[1]'(by show 1 < 2; omega)).toNat : Int)) = true := by
        show (((45 : UInt8).toNat : Int) != (y.toNat : Int)) = true
        rw [bne_iff_ne, show (45 : UInt8).toNat = 45 by rfl]; omega
      have hcv : ∀ (W : World), (convert 21 9 (.int .i32 (r : Int))).run Tryz.prog W = .ok (.string ⟨#[x, y]⟩) W := fun W => by rw [← he]; rfl
      go_enter Tryz.func64, Tryz.ntmps64
      go_wp2_with (go_at_call 85; refine (Tryz.utf8_ValidRune _ _).mono ?_; rintro e w' ⟨rfl, hw⟩; rw [hw, hv])
      go_step3
      go_wp2
      go_loopg [9] 0 (fun g s9 wx => s9 = .int .i64 1 ∧ wx = w)
      case atStart => exact ⟨rfl, rfl⟩
      case round =>
        obtain ⟨rfl, rfl⟩ := hrel
        go_wp2_with (go_at_call 84; refine (Tryz.strings_IndexByte _ _ _).mono ?_; rintro e w' ⟨rfl, hw⟩; rw [hw])
        go_step3
        go_wp2_with (go_at_call 84; refine (Tryz.strings_IndexByte _ _ _).mono ?_; rintro e w' ⟨rfl, hw⟩; rw [hw])
        go_quiet (fail)
        go_wp2_with (go_at_call 84; refine (Tryz.strings_IndexByte _ _ _).mono ?_; rintro e w' ⟨rfl, hw⟩; rw [hw])
        go_quiet (first | (go_at_call 84; refine (index_empty _ _).mono ?_; rintro e w' ⟨rfl, hw⟩; exact ⟨rfl, _, hw⟩))
        go_wp2
        (try simp only [Exit.noGoto, Exit.then, Exit.inBlock])
        go_ret
        exact ⟨rfl, ⟨rfl, rfl, rfl, Nat.le_refl _, fun _ _ => rfl⟩⟩
    · have hcv : ∀ (W : World), (convert 21 9 (.int .i32 (r : Int))).run Tryz.prog W = .ok (.string ⟨#[x, y, z]⟩) W := fun W => by rw [← he]; rfl
      go_enter Tryz.func64, Tryz.ntmps64
      go_wp2_with (go_at_call 85; refine (Tryz.utf8_ValidRune _ _).mono ?_; rintro e w' ⟨rfl, hw⟩; rw [hw, hv])
      go_step3
      go_wp2
      go_loopg [9] 0 (fun g s9 wx => s9 = .int .i64 2 ∧ wx = w)
      case atStart => exact ⟨rfl, rfl⟩
      case round =>
        obtain ⟨rfl, rfl⟩ := hrel
        go_wp2
        unfold Exit.noGoto
        go_ret
        exact ⟨rfl, Below.refl _ _⟩
    · have hcv : ∀ (W : World), (convert 21 9 (.int .i32 (r : Int))).run Tryz.prog W = .ok (.string ⟨#[x, y, z, v]⟩) W := fun W => by rw [← he]; rfl
      go_enter Tryz.func64, Tryz.ntmps64
      go_wp2_with (go_at_call 85; refine (Tryz.utf8_ValidRune _ _).mono ?_; rintro e w' ⟨rfl, hw⟩; rw [hw, hv])
      go_step3
      go_wp2
      go_loopg [9] 0 (fun g s9 wx => s9 = .int .i64 3 ∧ wx = w)
      case atStart => exact ⟨rfl, rfl⟩
      case round =>
        obtain ⟨rfl, rfl⟩ := hrel
        go_wp2
        unfold Exit.noGoto
        go_ret
        exact ⟨rfl, Below.refl _ _⟩
theorem rune_calls (r : Nat) (h2 : r ≤ 1114111) (w : World) : Calls Tryz.prog 64 #[.string pm, .int .i32 r] w fun e w' => e = .returned (.int .i64 (runeAt r)) ∧ Below w.heap.size w w' := by
  by_cases h : r < 128
  · refine (Tryz.strings_IndexRune_ascii pm r w (by omega) (by omega)).mono ?_
    rintro e w' ⟨rfl, rfl⟩
    refine ⟨?_, Below.refl _ _⟩
    rw [pm_list, index_pm, Int.toNat_natCast]
    congr 3
    simp
    omega
  · have hm : runeAt r = -1 := by unfold runeAt; rw [if_neg (by omega), if_neg (by omega)]
    rw [hm]
    by_cases h1 : r = 65533
    · subst h1; exact rune_err w
    · exact rune_far r (by omega) h1 h2 w
theorem pm_ascii : ∀ (j : Nat) b, pm.data.toList[j]? = some b → b.toNat < 128 := by
  intro j b h
  rw [pm_list] at h
  match j, h with
  | 0, h => simp at h; subst h; decide
  | 1, h => simp at h; subst h; decide
  | j + 2, h => simp at h
set_option maxHeartbeats 1000000 in
set_option maxRecDepth 1000000 in
theorem last_long (s : ByteArray) (h8 : 8 < s.size) (hs : s.size ≤ 281474976710656) (w : World) :
    Calls Tryz.prog 42 #[.string s, .string pm] w fun e w' => e = .returned (.int .i64 (lastL s.data.toList s.size)) ∧ Below w.heap.size w w' := by
  have hz := zero_of_info (P := Tryz.prog) (show (Tryz.prog.info? 88).map (fun i => (i.zero, i.size)) = some (some (.agg (Array.replicate 256 (.bool false))), 256) by kernel_rfl)
  have hM := Tryz.strings_makeASCIISet hz.1 pm w (by decide) pm_ascii
  have hsz := Lib.setCells_size pm.data.toList
  have hcc := Lib.setCells_at pm.data.toList
  have hone := Lib.setCells_one pm.data.toList
  rw [pm_list] at hM hsz hcc hone
  obtain ⟨C, hC⟩ : ∃ C, C = Lib.setCells [43, 45] := ⟨_, rfl⟩
  rw [← hC] at hM hsz hcc hone
  clear hC
  have h8z : decide ((8 : Int) < (s.size : Int)) = true := decide_eq_true (by omega)
  have h1z : ((s.size : Int) == 1) = false := beq_eq_false_iff_ne.2 (by omega)
  have hsc : (storeCells ⟨w.heap.size + 1, 0, none⟩ C.toList 0).run Tryz.prog ((w.alloc (.cells C 88)).alloc (.cells (Array.replicate 256 (.bool false)) 88)) = .ok () ((w.alloc (.cells C 88)).alloc (.cells C 88)) := by
    have := run_storeCells_new (P := Tryz.prog) (w.alloc (.cells C 88)) 88 (Array.replicate 256 (.bool false)) C (by rw [hsz]; exact hz.2) (by rw [hsz, Array.size_replicate]) hone
    simpa using this
  have hcellAt : ∀ x : UInt8, ((w.alloc (.cells C 88)).alloc (.cells C 88)).cell? ⟨w.heap.size + 1, x.toNat, none⟩ = some (.bool ([43, 45].contains x)) := fun x => by
    rw [World.cell?_alloc_at _ _ _ _ (by simp), hcc]
  have HC : Aside (∀ x : UInt8, ((w.alloc (.cells C 88)).alloc (.cells C 88)).cell? ⟨w.heap.size + 1, x.toNat, none⟩ = some (.bool ([43, 45].contains x))) := hcellAt
  clear hcellAt hcc hone
  go_enter Tryz.func42, Tryz.ntmps42
  go_wp2_with (first
    | (go_at_call 65; refine (Tryz.strings_shouldUseASCIISet _ _).mono ?_; rintro e w' ⟨rfl, hw⟩; rw [hw, h8z])
    | (go_at_call 66; refine hM.mono ?_; rintro e w' ⟨rfl, hw⟩; rw [hw]))
  clear hM hsc
  go_loopg [8] s.size (fun g s8 wx => g ≤ s.size ∧ s8 = .int .i64 ((g : Int) - 1) ∧ wx = ((w.alloc (.cells C 88)).alloc (.cells C 88)) ∧ lastL s.data.toList s.size = lastL s.data.toList g)
  case atStart => exact ⟨Nat.le_refl _, by first | rfl | (simp; done), rfl, rfl⟩
  case round =>
    obtain ⟨hg, rfl, rfl, hl⟩ := hrel
    cases gk with
    | zero =>
      have HL : Aside (lastL s.data.toList s.size = lastL s.data.toList 0) := hl
      clear hl
      have e0 : ((0 : Nat) : Int) - 1 = -1 := by decide
      rw [e0]
      go_wp2
      go_ret
      exact ⟨by rw [HL.out]; rfl, ((Below.refl _ _).alloc (Nat.le_refl _) _).alloc (by simp) _⟩
    | succ g =>
      have e0 : ((g + 1 : Nat) : Int) - 1 = (g : Int) := by omega
      rw [e0]
      have hi : g < s.size := by omega
      obtain ⟨x, hx⟩ : ∃ x : UInt8, s[g]'hi = x := ⟨_, rfl⟩
      have hxl : s.data.toList.getD g 0 = x := by
        rw [← hx, List.getD_eq_getElem?_getD, Lib.data_getElem? s g hi]; rfl
      have hL : lastL s.data.toList (g + 1) = if signs.contains x then (g : Int) else lastL s.data.toList g := by
        rw [← hxl]; rfl
      have HL : Aside (lastL s.data.toList s.size = lastL s.data.toList (g + 1)) := hl
      have HL2 : Aside (lastL s.data.toList (g + 1) = if signs.contains x then (g : Int) else lastL s.data.toList g) := hL
      clear hl hL hxl
      have hcx := HC.out x
      cases hin : ([43, 45] : List UInt8).contains x <;> rw [hin] at hcx
      · go_wp2_with (go_at_call 67; refine (Tryz.asciiSet_contains _ x _ _ hcx).mono ?_; rintro e w' ⟨rfl, hw⟩; rw [hw])
        go_roundg g
        case measure => omega
        case rel => exact ⟨by omega, by first | rfl | (simp; done), rfl, by rw [HL.out, HL2.out, show signs.contains x = false from hin]; rfl⟩
      · go_wp2_with (go_at_call 67; refine (Tryz.asciiSet_contains _ x _ _ hcx).mono ?_; rintro e w' ⟨rfl, hw⟩; rw [hw])
        go_ret
        exact ⟨by rw [HL.out, HL2.out, show signs.contains x = true from hin]; rfl, ((Below.refl _ _).alloc (Nat.le_refl _) _).alloc (by simp) _⟩
set_option maxHeartbeats 1000000 in
set_option maxRecDepth 1000000 in
theorem last_short (s : ByteArray) (h8 : s.size ≤ 8) (h1 : s.size ≠ 1) (w : World) (hT : GW (fun w => Lib.Utf8Tabs 5 6 w) w) :
    Calls Tryz.prog 42 #[.string s, .string pm] w fun e w' => e = .returned (.int .i64 (lastS s.data.toList s.size s.size)) ∧ Below w.heap.size w w' := by
  have HT : Aside (GW (fun w => Lib.Utf8Tabs 5 6 w) w) := hT
  clear hT
  have h8z : decide ((8 : Int) < (s.size : Int)) = false := decide_eq_false (by omega)
  have h1z : ((s.size : Int) == 1) = false := beq_eq_false_iff_ne.2 (by omega)
  go_enter Tryz.func42, Tryz.ntmps42
  go_wp2_with (go_at_call 65; refine (Tryz.strings_shouldUseASCIISet _ _).mono ?_; rintro e w' ⟨rfl, hw⟩; rw [hw, h8z])
  go_loopg [13] s.size (fun g s13 wx => ∃ i f : Nat, s13 = .int .i64 i ∧ i ≤ s.size ∧ i ≤ g ∧ i ≤ f ∧ lastS s.data.toList s.size s.size = lastS s.data.toList f i ∧ Below w.heap.size w wx)
  case atStart => exact ⟨s.size, s.size, rfl, Nat.le_refl _, Nat.le_refl _, Nat.le_refl _, rfl, Below.refl _ _⟩
  case round =>
    obtain ⟨i, f, rfl, hi, hg, hf, hl, hbel⟩ := hrel
    have HL : Aside (lastS s.data.toList s.size s.size = lastS s.data.toList f i) := hl
    have HB : Aside (Below w.heap.size w wr) := hbel
    clear hl hbel
    rcases Nat.eq_zero_or_pos i with h0 | h0
    · subst h0
      have hres : lastS s.data.toList f 0 = -1 := by
        cases f
        · rfl
        · unfold lastS; rw [if_pos rfl]
      have HR : Aside (lastS s.data.toList f 0 = -1) := hres
      clear hres
      go_wp2
      go_ret
      exact ⟨by rw [HL.out, HR.out]; rfl, HB.out⟩
    · obtain ⟨f, rfl⟩ : ∃ f', f = f' + 1 := ⟨f - 1, by omega⟩
      have hlen : (s.extract 0 i).data.toList = s.data.toList.take i := by
        rw [ByteArray.data_extract, Array.toList_extract]; simp
      have hls : s.data.toList.length = s.size := rfl
      have hW := decodeLastL_width (s.data.toList.take i) (by rw [List.length_take, hls]; omega)
      rw [List.length_take, hls] at hW
      have hR := decodeLastL_rune (s.data.toList.take i)
      have hL : lastS s.data.toList (f + 1) i = if 0 ≤ runeAt (decodeLastL (s.data.toList.take i)).1 then ((i - (decodeLastL (s.data.toList.take i)).2 : Nat) : Int) else lastS s.data.toList f (i - (decodeLastL (s.data.toList.take i)).2) := by
        show (if i = 0 then _ else _) = _
        rw [if_neg (by omega)]
      have hDec := fun (ww : World) h => Tryz.utf8_DecodeLastRuneInString (s.extract 0 i) ww (by rw [ByteArray.size_extract]; omega) h
      rw [hlen] at hDec
      obtain ⟨rr, nn, hd⟩ : ∃ rr nn, decodeLastL (s.data.toList.take i) = (rr, nn) := ⟨_, _, rfl⟩
      rw [hd] at hW hR hL hDec
      simp only at hW hR hL hDec
      have HL2 : Aside (lastS s.data.toList (f + 1) i = if 0 ≤ runeAt rr then ((i - nn : Nat) : Int) else lastS s.data.toList f (i - nn)) := hL
      have HD : Aside (∀ ww, Utf8Tabs 5 6 ww → Calls Tryz.prog 68 #[.string (s.extract 0 i)] ww fun e w' => e = .returned (.tuple #[.int .i32 rr, .int .i64 nn]) ∧ Below ww.heap.size ww w') := hDec
      clear hL hDec hlen hd
      have hz : decide ((0 : Int) < (i : Int)) = true := decide_eq_true (by omega)
      have hsub : IntKind.i64.wrap ((i : Int) - (nn : Int)) = ((i - nn : Nat) : Int) := by rw [IntKind.wrap_i64]; omega
      by_cases hc : 0 ≤ runeAt rr
      · have hcd : decide ((0 : Int) ≤ runeAt rr) = true := decide_eq_true hc
        go_wp2_with (first
          | (go_at_call 68; refine (HD.out _ (HT.out _ HB.out)).mono ?_; rintro e w1 ⟨rfl, hb1⟩)
          | (go_at_call 64; refine (rune_calls rr hR _).mono ?_; rintro e w2 ⟨rfl, hb2⟩))
        go_ret
        exact ⟨by rw [HL.out, HL2.out, if_pos hc]; rfl, (HB.out.trans (hb1.mono HB.out.size)).trans (hb2.mono (Nat.le_trans HB.out.size hb1.size))⟩
      · have hcd : decide ((0 : Int) ≤ runeAt rr) = false := decide_eq_false hc
        go_wp2_with (first
          | (go_at_call 68; refine (HD.out _ (HT.out _ HB.out)).mono ?_; rintro e w1 ⟨rfl, hb1⟩)
          | (go_at_call 64; refine (rune_calls rr hR _).mono ?_; rintro e w2 ⟨rfl, hb2⟩))
        go_roundg (gk - 1)
        case measure => omega
        case rel => exact ⟨i - nn, f, rfl, by omega, by omega, by omega, by rw [HL.out, HL2.out, if_neg (show ¬ 0 ≤ runeAt rr by omega)], (HB.out.trans (hb1.mono HB.out.size)).trans (hb2.mono (Nat.le_trans HB.out.size hb1.size))⟩
set_option maxHeartbeats 1000000 in
set_option maxRecDepth 1000000 in
theorem last_one (s : ByteArray) (h1 : s.size = 1) (w : World) :
    Calls Tryz.prog 42 #[.string s, .string pm] w fun e w' => e = .returned (.int .i64 (oneA s.data.toList)) ∧ Below w.heap.size w w' := by
  have h1z : ((s.size : Int) == 1) = true := beq_iff_eq.2 (by omega)
  have h0z : (0 : Int) < (s.size : Int) := by omega
  have hi : 0 < s.size := by omega
  obtain ⟨x, hx⟩ : ∃ x : UInt8, s[0]'hi = x := ⟨_, rfl⟩
  have hxl : s.data.toList.getD 0 0 = x := by
    rw [← hx, List.getD_eq_getElem?_getD, Lib.data_getElem? s 0 hi]; rfl
  have hO : oneA s.data.toList = if 0 ≤ runeAt (if x.toNat < 128 then x.toNat else 65533) then 0 else -1 := by unfold oneA; rw [hxl]
  have HO : Aside (oneA s.data.toList = if 0 ≤ runeAt (if x.toNat < 128 then x.toNat else 65533) then 0 else -1) := hO
  clear hO hxl
  by_cases ha : x.toNat < 128
  · have hge : decide ((128 : Int) ≤ (x.toNat : Int)) = false := decide_eq_false (by omega)
    by_cases hc : 0 ≤ runeAt x.toNat
    · have hcd : decide ((0 : Int) ≤ runeAt x.toNat) = true := decide_eq_true hc
      go_enter Tryz.func42, Tryz.ntmps42
      go_wp2_with (go_at_call 64; refine (rune_calls x.toNat (by omega) _).mono ?_; rintro e w2 ⟨rfl, hb2⟩)
      go_ret
      exact ⟨by rw [HO.out, if_pos ha, if_pos hc]; rfl, hb2⟩
    · have hcd : decide ((0 : Int) ≤ runeAt x.toNat) = false := decide_eq_false hc
      go_enter Tryz.func42, Tryz.ntmps42
      go_wp2_with (go_at_call 64; refine (rune_calls x.toNat (by omega) _).mono ?_; rintro e w2 ⟨rfl, hb2⟩)
      go_ret
      exact ⟨by rw [HO.out, if_pos ha, if_neg (show ¬ 0 ≤ runeAt x.toNat by omega)]; rfl, hb2⟩
  · have hO2 : oneA s.data.toList = -1 := by
      have hm : runeAt 65533 = -1 := by unfold runeAt; rw [if_neg (by omega), if_neg (by omega)]
      rw [HO.out, if_neg ha, hm, if_neg (by omega)]
    rw [hO2]
    clear HO hO2
    have hge : decide ((128 : Int) ≤ (x.toNat : Int)) = true := decide_eq_true (by omega)
    have hcd : decide ((0 : Int) ≤ -1) = false := by decide
    have hw32 : wrap32 (x.toNat : Int) = (x.toNat : Int) := by unfold wrap32; have := UInt8.toNat_lt x; omega
    go_enter Tryz.func42, Tryz.ntmps42
    go_wp2_with (go_at_call 64; refine (rune_err' _ (by first | rfl | decide | simp) _).mono ?_; rintro e w2 ⟨rfl, hb2⟩)
    go_ret
    exact ⟨rfl, hb2⟩
abbrev T3 : World → Prop := GW fun w => (Tab w ∧ Errs w) ∧ Lib.Utf8Tabs 5 6 w
theorem text_calls3 (n : Int) (r : ByteArray) (w : World) (hT : T3 w) (h : textA n = some r) : Calls Tryz.prog 41 #[.int .i64 n] w fun e w' => e = .returned (.string r) ∧ Below w.heap.size w w' := text_calls n r w (hT.imp fun _ h => h.1.1) h
def lastA (s c : ByteArray) : Option Int := if c.data.toList = [43, 45] ∧ s.size ≤ 281474976710656 then some (lastAny s.data.toList) else none
theorem last_calls3 (s c : ByteArray) (r : Int) (w : World) (hT : T3 w) (h : lastA s c = some r) : Calls Tryz.prog 42 #[.string s, .string c] w fun e w' => e = .returned (.int .i64 r) ∧ Below w.heap.size w w' := by
  unfold lastA at h
  by_cases hc : c.data.toList = [43, 45] ∧ s.size ≤ 281474976710656
  · rw [if_pos hc] at h
    obtain rfl := Option.some.inj h
    have e : c = pm := by
      apply ByteArray.ext
      apply Array.ext'
      rw [hc.1]
    subst e
    have hls : s.data.toList.length = s.size := rfl
    unfold lastAny
    rw [hls]
    by_cases h1 : s.size = 1
    · rw [if_pos h1]; exact last_one s h1 w
    · rw [if_neg h1]
      by_cases h8 : 8 < s.size
      · rw [if_pos h8]; exact last_long s h8 hc.2 w
      · rw [if_neg h8]; exact last_short s (by omega) h1 w (hT.imp fun _ h => h.2)
  · rw [if_neg hc] at h; cases h
end Go.Proofs.YtofedlghaopciaaGreatDoor.Hand
end
section
/- From a row's condition (what the listed variables read as) to what the walks lean on. -/
set_option linter.unusedVariables false
namespace Go.Proofs.YtofedlghaopciaaGreatDoor.Hand
open Go Go.RowKit Go.Lib Go.Proofs
theorem var_below {P : Program} {w w' : World} {name : String} {cs : Array Value} (h : w.var? P name = some cs) (hb : Below w.heap.size w w') : w'.var? P name = some cs := by
  unfold World.var? at *
  cases hg : P.globalNamed name with
  | none => simp [hg] at h
  | some g =>
    simp only [hg, Option.bind_some] at h ⊢
    have hlt : g < w.heap.size := by
      rcases Nat.lt_or_ge g w.heap.size with h' | h'
      · exact h'
      · rw [Array.getElem?_eq_none h'] at h; simp at h
    rw [hb.block g hlt]
    exact h
theorem gTab : Tryz.prog.globalNamed "internal/strconv.uint64pow10" = some 4 := by kernel_rfl
theorem gTabType : (Tryz.prog.globals[4]?).map (·.type) = some 125 := by kernel_rfl
theorem cells50 : Tryz.prog.cellsOf 77 = 1 := by kernel_rfl
theorem cells81 : Tryz.prog.cellsOf 125 = 20 := by kernel_rfl
theorem t1_of {rest : List (String × DataW Unit)} {W : World} (h : laidMet Tryz.prog (("internal/strconv.uint64pow10", Rows.laid_internal_strconv_uint64pow10) :: rest) W) : T1 W := fun w' hb =>
  Lib.tabBelow_of_tabIs (Lib.tabIs_of_head (zs := Lib.pow10Tab) (k := .u64) gTab gTabType Tryz.underlying125 Tryz.underlying77 cells50 cells81 h) w' hb
theorem gRange : Tryz.prog.globalNamed "strconv.ErrRange" = some 8 := by kernel_rfl
theorem gRangeType : (Tryz.prog.globals[8]?).map (·.type) = some 95 := by kernel_rfl
theorem gSyntax : Tryz.prog.globalNamed "strconv.ErrSyntax" = some 7 := by kernel_rfl
theorem gSyntaxType : (Tryz.prog.globals[7]?).map (·.type) = some 95 := by kernel_rfl
theorem cellsES : Tryz.prog.cellsOf 142 = 1 := by kernel_rfl
theorem cellsS : Tryz.prog.cellsOf 9 = 1 := by kernel_rfl
theorem starES : "*" ++ "errors.errorString" = "*errors.errorString" := by decide
theorem rowES (u : TypeId) (h : Tryz.prog.typeName? 3 u = some "*errors.errorString") : u = 140 :=
  typeName_ptr_named (nm := "errors.errorString") (by rw [starES]; kernel_rfl) (by kernel_rfl) (by decide) u (by rw [starES]; exact h)
theorem u8types : U8Types Tryz.prog Tryz.lays271_ren := { Tryz.lays271 with }
theorem u8extra : U8Extra Tryz.prog Tryz.lays271_ren := ⟨by kernel_rfl, by kernel_rfl, by kernel_rfl, by kernel_rfl, by kernel_rfl, by kernel_rfl, by kernel_rfl⟩
theorem first_is : Rows.laid_unicode_utf8_first = firstData := by kernel_rfl
theorem accept_is : Rows.laid_unicode_utf8_acceptRanges = acceptData := by kernel_rfl
theorem tabs_below {w w' : World} {a b : Nat} (h : Lib.Utf8Tabs a b w) (ha : a < w.heap.size) (hb : b < w.heap.size) (hw : Below w.heap.size w w') : Lib.Utf8Tabs a b w' :=
  ⟨fun c hc => (hw.cell ha).trans (h.1 c hc), fun i hi => ⟨(hw.cell hb).trans (h.2 i hi).1, (hw.cell hb).trans (h.2 i hi).2⟩⟩
theorem lt_of_cell {w : World} {a o : Nat} {v : Value} (h : w.cell? ⟨a, o, none⟩ = some v) : a < w.heap.size := by
  rcases Nat.lt_or_ge a w.heap.size with g | g
  · exact g
  · unfold World.cell? at h
    rw [Array.getElem?_eq_none g] at h
    simp at h
theorem t3_of {rest : List (String × DataW Unit)} {W : World} (h : laidMet Tryz.prog (("internal/strconv.uint64pow10", Rows.laid_internal_strconv_uint64pow10) :: ("unicode/utf8.acceptRanges", Rows.laid_unicode_utf8_acceptRanges) :: ("strconv.ErrRange", Rows.laid_strconv_ErrRange) :: ("strconv.ErrSyntax", Rows.laid_strconv_ErrSyntax) :: ("unicode/utf8.first", Rows.laid_unicode_utf8_first) :: rest) W) : T3 W := fun w' hb => by
  refine ⟨⟨t1_of h w' hb, ?_, ?_⟩, ?_⟩
  · obtain ⟨a, s, hv, _, _, _⟩ := laid_sentinel h.tail.tail.tail gSyntax gSyntaxType Tryz.underlying95 rowES Tryz.underlying140 Tryz.underlying142 rfl rfl Tryz.underlying9 cellsES cellsS
    exact ⟨_, _, var_below hv hb⟩
  · obtain ⟨a, s, hv, _, _, _⟩ := laid_sentinel h.tail.tail gRange gRangeType Tryz.underlying95 rowES Tryz.underlying140 Tryz.underlying142 rfl rfl Tryz.underlying9 cellsES cellsS
    exact ⟨_, _, var_below hv hb⟩
  · have h3 := Go.Lib.laidMet.reads h (n := "unicode/utf8.first") (d := Rows.laid_unicode_utf8_first) (by simp)
    have h4 := Go.Lib.laidMet.reads h (n := "unicode/utf8.acceptRanges") (d := Rows.laid_unicode_utf8_acceptRanges) (by simp)
    rw [first_is] at h3
    rw [accept_is] at h4
    have ht := utf8Tabs_of_readsT u8types u8extra h3 h4
    exact tabs_below ht (lt_of_cell (ht.1 0 (by decide))) (lt_of_cell (ht.2 0 (by decide)).1) hb
end Go.Proofs.YtofedlghaopciaaGreatDoor.Hand
end
