/- Texts of this claim, joined. -/
import Derived.Test.YtofedlghaopciaaGreatDoorPAx1
import Derived.Test.YtofedlghaopciaaGreatDoorPAx2
import Derived.Test.YtofedlghaopciaaGreatDoorPAd
import Derived.Test.YtofedlghaopciaaGreatDoorPk4
section
/- PhasorAll: op by op, the program's answer and the document's are the same. -/
set_option linter.unusedVariables false
set_option linter.unusedSimpArgs false
namespace Go.Proofs.YtofedlghaopciaaGreatDoor.PureA
open Go.RowKit Go.Proofs.YtofedlghaopciaaGreatDoor.PA Go.Proofs.YtofedlghaopciaaGreatDoor.Num Go.Proofs.YtofedlghaopciaaGreatDoor.Flt Go.Proofs.YtofedlghaopciaaGreatDoor.FourW Go.Proofs.YtofedlghaopciaaGreatDoorW.PrintWords Go.Proofs.YtofedlghaopciaaGreatDoorW.PrintLast Go.Proofs.YtofedlghaopciaaGreatDoorW.PrintMore
abbrev Ans := Cx × Cx × Cx × Cx × Cx × Int × Int × Int × Bool × ByteArray × Int
def same (X Y : Ans) : Option Bool := pylonlaw02_same.f X.1 X.2.1 X.2.2.1 X.2.2.2.1 X.2.2.2.2.1 X.2.2.2.2.2.1 X.2.2.2.2.2.2.1 X.2.2.2.2.2.2.2.1 X.2.2.2.2.2.2.2.2.1 X.2.2.2.2.2.2.2.2.2.1 X.2.2.2.2.2.2.2.2.2.2 Y.1 Y.2.1 Y.2.2.1 Y.2.2.2.1 Y.2.2.2.2.1 Y.2.2.2.2.2.1 Y.2.2.2.2.2.2.1 Y.2.2.2.2.2.2.2.1 Y.2.2.2.2.2.2.2.2.1 Y.2.2.2.2.2.2.2.2.2.1 Y.2.2.2.2.2.2.2.2.2.2
def SameA (g h : Nat → Option Ans) : Prop := ∃ X Y, Ev g X ∧ Ev h Y ∧ same X Y = some true
theorem same_ok {z y a b c d a' b' c' d' : Cx} {n m k e : Int} {o : Bool} {s : ByteArray} (h : ceq z.re z.im y.re y.im = true) (h1 : ceq a.re a.im a'.re a'.im = true) (h2 : ceq b.re b.im b'.re b'.im = true) (h3 : ceq c.re c.im c'.re c'.im = true) (h4 : ceq d.re d.im d'.re d'.im = true) :
    same (z, a, b, c, d, n, m, k, o, s, e) (y, a', b', c', d', n, m, k, o, s, e) = some true := by
  unfold same pylonlaw02_same.f
  simp only [h]
  unfold ceq4
  simp [h1, h2, h3, h4]
theorem same_z {z y : Cx} {n m k e : Int} {o : Bool} {s : ByteArray} (h : ceq z.re z.im y.re y.im = true) : same (z, cx 0 0, cx 0 0, cx 0 0, cx 0 0, n, m, k, o, s, e) (y, cx 0 0, cx 0 0, cx 0 0, cx 0 0, n, m, k, o, s, e) = some true :=
  same_ok h zero_same zero_same zero_same zero_same
theorem same_n {n m k e : Int} {o : Bool} {s : ByteArray} : same (cx 0 0, cx 0 0, cx 0 0, cx 0 0, cx 0 0, n, m, k, o, s, e) (cx 0 0, cx 0 0, cx 0 0, cx 0 0, cx 0 0, n, m, k, o, s, e) = some true := same_z zero_same
theorem refl_is {A B : Int} (a : A.natAbs ≤ 33554432) (b : B.natAbs ≤ 33554432) : ceq (zOf A B).re (zOf A B).im (zOf A B).re (zOf A B).im = true := by
  have h := small_of a b
  exact ceq_of h.1.1 h.2.1 h.1.1 h.2.1
end Go.Proofs.YtofedlghaopciaaGreatDoor.PureA
end
section
/- PhasorAll: each of the thirteen calls. -/
set_option linter.unusedVariables false
set_option linter.unusedSimpArgs false
namespace Go.Proofs.YtofedlghaopciaaGreatDoor.PureA
open Go.RowKit Go.Proofs.YtofedlghaopciaaGreatDoor.PA Go.Proofs.YtofedlghaopciaaGreatDoor.Num Go.Proofs.YtofedlghaopciaaGreatDoor.Flt Go.Proofs.YtofedlghaopciaaGreatDoor.FourW Go.Proofs.YtofedlghaopciaaGreatDoorW.PrintWords Go.Proofs.YtofedlghaopciaaGreatDoorW.PrintLast Go.Proofs.YtofedlghaopciaaGreatDoorW.PrintMore
theorem read_refl {l : List UInt8} (hl : l.length ≤ 281474976710655) {r : Cx × Int} (h : Ev (fun k => phasor_Read.f k ⟨l.toArray⟩) r) : ceq r.1.re r.1.im r.1.re r.1.im = true := by
  by_cases g : isTxt l
  · obtain ⟨a, b, ha, hb, rfl⟩ := g
    rw [Ev.unique h (pread_txt ha hb)]
    exact refl_is ha hb
  · rw [Ev.unique h (pread_not (by omega) g)]
    exact zero_same
section
variable {a1 a2 a3 a4 a5 a6 a7 a8 : Nat} {u v : List S33} {re im kk : Int} {s : ByteArray}
theorem op1 (h : Bits (cx a1 a2)) : SameA (fun k => pylonlaw02_plays.f k 1 a1 a2 a3 a4 a5 a6 a7 a8 u v re im kk s) (fun k => pylonlaw02_wants.f k 1 a1 a2 a3 a4 a5 a6 a7 a8 u v re im kk s) := by
  simp only [pylonlaw02_plays.f, pylonlaw02_wants.f, Int.reduceEq, ↓reduceIte, pylonlaw02_Z_c.f, Option.bind_some]
  by_cases g : Good (cx a1 a2)
  · rw [fits_yes h g.small, rfits_yes g.small]
    exact ⟨_, _, Ev.now _, Ev.now _, same_n⟩
  · obtain ⟨a, b, e⟩ := rfits_no g
    rw [fits_no h g, e]
    exact ⟨_, _, Ev.now _, Ev.now _, same_n⟩
theorem op2 : SameA (fun k => pylonlaw02_plays.f k 2 a1 a2 a3 a4 a5 a6 a7 a8 u v re im kk s) (fun k => pylonlaw02_wants.f k 2 a1 a2 a3 a4 a5 a6 a7 a8 u v re im kk s) := by
  simp only [pylonlaw02_plays.f, pylonlaw02_wants.f, Int.reduceEq, ↓reduceIte]
  by_cases g : re.natAbs ≤ 33554432 ∧ im.natAbs ≤ 33554432
  · rw [of_yes g.1 g.2, rof_yes g.1 g.2]
    exact ⟨_, _, Ev.now _, Ev.now _, same_z (refl_is g.1 g.2)⟩
  · rw [of_no g, rof_no g]
    exact ⟨_, _, Ev.now _, Ev.now _, same_n⟩
theorem op3 (h : Bits (cx a1 a2)) : SameA (fun k => pylonlaw02_plays.f k 3 a1 a2 a3 a4 a5 a6 a7 a8 u v re im kk s) (fun k => pylonlaw02_wants.f k 3 a1 a2 a3 a4 a5 a6 a7 a8 u v re im kk s) := by
  simp only [pylonlaw02_plays.f, pylonlaw02_wants.f, Int.reduceEq, ↓reduceIte, pylonlaw02_Z_c.f, Option.bind_some]
  by_cases g : Good (cx a1 a2)
  · rw [parts_yes h g.small, rfits_yes g.small]
    exact ⟨_, _, Ev.now _, Ev.now _, same_n⟩
  · obtain ⟨a, b, e⟩ := rfits_no g
    rw [parts_no h g, e]
    exact ⟨_, _, Ev.now _, Ev.now _, same_n⟩
theorem op4 (h1 : Bits (cx a1 a2)) (h2 : Bits (cx a3 a4)) : SameA (fun k => pylonlaw02_plays.f k 4 a1 a2 a3 a4 a5 a6 a7 a8 u v re im kk s) (fun k => pylonlaw02_wants.f k 4 a1 a2 a3 a4 a5 a6 a7 a8 u v re im kk s) := by
  simp only [pylonlaw02_plays.f, pylonlaw02_wants.f, Int.reduceEq, ↓reduceIte, pylonlaw02_Z_c.f, Option.bind_some]
  obtain ⟨z, y, e, p, q, r⟩ := power_same h1 h2
  exact ⟨_, _, Ev.bind p (Ev.now _), Ev.bind q (Ev.now _), same_z r⟩
theorem op5 (hu : u.length ≤ 8796093021952) (hv : v.length ≤ 8796093021952) (bu : ∀ y ∈ u, okS33 y) (bv : ∀ y ∈ v, okS33 y) : SameA (fun k => pylonlaw02_plays.f k 5 a1 a2 a3 a4 a5 a6 a7 a8 u v re im kk s) (fun k => pylonlaw02_wants.f k 5 a1 a2 a3 a4 a5 a6 a7 a8 u v re im kk s) := by
  simp only [pylonlaw02_plays.f, pylonlaw02_wants.f, Int.reduceEq, ↓reduceIte]
  have n1 := numbers_f (l := u) (by omega) (by omega)
  have n2 := numbers_f (l := v) (by omega) (by omega)
  obtain ⟨z, y, e, p, q, r⟩ := phases_same (bits_conv bu) (bits_conv bv)
  exact ⟨_, _, Ev.bind n1 (Ev.bind n2 (Ev.bind p (Ev.now _))), Ev.bind n1 (Ev.bind n2 (Ev.bind q (Ev.now _))), same_z r⟩
theorem op6 (h1 : Bits (cx a1 a2)) (h2 : Bits (cx a3 a4)) (h3 : Bits (cx a5 a6)) (h4 : Bits (cx a7 a8)) : SameA (fun k => pylonlaw02_plays.f k 6 a1 a2 a3 a4 a5 a6 a7 a8 u v re im kk s) (fun k => pylonlaw02_wants.f k 6 a1 a2 a3 a4 a5 a6 a7 a8 u v re im kk s) := by
  simp only [pylonlaw02_plays.f, pylonlaw02_wants.f, Int.reduceEq, ↓reduceIte, pylonlaw02_Z_c.f, Option.bind_some]
  obtain ⟨z, y, e, p, q, r⟩ := aron_same h1 h2 h3 h4
  exact ⟨_, _, Ev.bind p (Ev.now _), Ev.bind q (Ev.now _), same_z r⟩
theorem op7 (h : Bits (cx a1 a2)) : SameA (fun k => pylonlaw02_plays.f k 7 a1 a2 a3 a4 a5 a6 a7 a8 u v re im kk s) (fun k => pylonlaw02_wants.f k 7 a1 a2 a3 a4 a5 a6 a7 a8 u v re im kk s) := by
  simp only [pylonlaw02_plays.f, pylonlaw02_wants.f, Int.reduceEq, ↓reduceIte, pylonlaw02_Z_c.f, Option.bind_some]
  obtain ⟨z, y, e, p, q, r⟩ := turn_same h kk
  rw [p, q]
  exact ⟨_, _, Ev.now _, Ev.now _, same_z r⟩
theorem op8 : SameA (fun k => pylonlaw02_plays.f k 8 a1 a2 a3 a4 a5 a6 a7 a8 u v re im kk s) (fun k => pylonlaw02_wants.f k 8 a1 a2 a3 a4 a5 a6 a7 a8 u v re im kk s) := by
  simp only [pylonlaw02_plays.f, pylonlaw02_wants.f, Int.reduceEq, ↓reduceIte, pylonlaw02_Z_c.f, Option.bind_some]
  obtain ⟨r, p, q⟩ := quadrant_same (cx a1 a2)
  exact ⟨_, _, Ev.bind p (Ev.now _), Ev.bind q (Ev.now _), same_n⟩
theorem op9 (h : Bits (cx a1 a2)) : SameA (fun k => pylonlaw02_plays.f k 9 a1 a2 a3 a4 a5 a6 a7 a8 u v re im kk s) (fun k => pylonlaw02_wants.f k 9 a1 a2 a3 a4 a5 a6 a7 a8 u v re im kk s) := by
  simp only [pylonlaw02_plays.f, pylonlaw02_wants.f, Int.reduceEq, ↓reduceIte, pylonlaw02_Z_c.f, Option.bind_some]
  obtain ⟨r, p, q⟩ := apparent_same h
  exact ⟨_, _, Ev.bind p (Ev.now _), Ev.bind q (Ev.now _), same_n⟩
theorem bits4 {a b c d : Cx} (h1 : Bits a) (h2 : Bits b) (h3 : Bits c) (h4 : Bits d) : ∀ j, Bits (x4 a b c d j)
  | 0 => h1 | 1 => h2 | 2 => h3 | _ + 3 => h4
theorem op10 (h1 : Bits (cx a1 a2)) (h2 : Bits (cx a3 a4)) (h3 : Bits (cx a5 a6)) (h4 : Bits (cx a7 a8)) : SameA (fun k => pylonlaw02_plays.f k 10 a1 a2 a3 a4 a5 a6 a7 a8 u v re im kk s) (fun k => pylonlaw02_wants.f k 10 a1 a2 a3 a4 a5 a6 a7 a8 u v re im kk s) := by
  simp only [pylonlaw02_plays.f, pylonlaw02_wants.f, Int.reduceEq, ↓reduceIte, pylonlaw02_Z_c.f, Option.bind_some, phasor_Four.f, pylonref02_Four.f]
  obtain ⟨f, g, e, p, q, r⟩ := fours_same (bits4 h1 h2 h3 h4)
  rw [p, q]
  exact ⟨_, _, Ev.now _, Ev.now _, same_ok zero_same (r 0 (by decide)) (r 1 (by decide)) (r 2 (by decide)) (r 3 (by decide))⟩
theorem op11 (h1 : Bits (cx a1 a2)) (h2 : Bits (cx a3 a4)) (h3 : Bits (cx a5 a6)) (h4 : Bits (cx a7 a8)) : SameA (fun k => pylonlaw02_plays.f k 11 a1 a2 a3 a4 a5 a6 a7 a8 u v re im kk s) (fun k => pylonlaw02_wants.f k 11 a1 a2 a3 a4 a5 a6 a7 a8 u v re im kk s) := by
  simp only [pylonlaw02_plays.f, pylonlaw02_wants.f, Int.reduceEq, ↓reduceIte, pylonlaw02_Z_c.f, Option.bind_some, phasor_Back.f, pylonref02_Back.f]
  obtain ⟨f, g, e, p, q, r⟩ := backs_same (bits4 h1 h2 h3 h4)
  rw [p, q]
  exact ⟨_, _, Ev.now _, Ev.now _, same_ok zero_same (r 0 (by decide)) (r 1 (by decide)) (r 2 (by decide)) (r 3 (by decide))⟩
theorem op12 (h : Bits (cx a1 a2)) : SameA (fun k => pylonlaw02_plays.f k 12 a1 a2 a3 a4 a5 a6 a7 a8 u v re im kk s) (fun k => pylonlaw02_wants.f k 12 a1 a2 a3 a4 a5 a6 a7 a8 u v re im kk s) := by
  simp only [pylonlaw02_plays.f, pylonlaw02_wants.f, Int.reduceEq, ↓reduceIte, pylonlaw02_Z_c.f, Option.bind_some]
  obtain ⟨r, p, q⟩ := text_same h
  rw [p]
  exact ⟨_, _, Ev.now _, Ev.bind q (Ev.now _), same_n⟩
theorem op13 (h : s.size ≤ 281474976710655) : SameA (fun k => pylonlaw02_plays.f k 13 a1 a2 a3 a4 a5 a6 a7 a8 u v re im kk s) (fun k => pylonlaw02_wants.f k 13 a1 a2 a3 a4 a5 a6 a7 a8 u v re im kk s) := by
  simp only [pylonlaw02_plays.f, pylonlaw02_wants.f, Int.reduceEq, ↓reduceIte]
  obtain ⟨l, rfl⟩ : ∃ l : List UInt8, s = ⟨l.toArray⟩ := ⟨s.data.toList, by simp⟩
  rw [sz_mk] at h
  obtain ⟨r, p, q⟩ := read_same h
  have hz : ceq r.1.re r.1.im r.1.re r.1.im = true := read_refl h p
  exact ⟨_, _, Ev.bind p (Ev.now _), Ev.bind q (Ev.now _), same_z hz⟩
end
end Go.Proofs.YtofedlghaopciaaGreatDoor.PureA
end
section
/- Three boxes of a call's own: its argument, its result, its answer; what becomes of them. -/
set_option linter.unusedVariables false
namespace Go.Proofs.YtofedlghaopciaaGreatDoor.PA
open Go Go.RowKit Go.Proofs.YtofedlghaopciaaGreatDoorW.PrintWords Go.Proofs.YtofedlghaopciaaGreatDoorW.PrintLast Go.Proofs.YtofedlghaopciaaGreatDoorW.PrintMore
structure Bx (w : World) (g1 g2 g3 : Nat) (c1 c2 c3 : Array Value) (W : World) : Prop where
  hb : Below w.heap.size w W
  b1 : W.heap[g1]? = some (.cells c1 36 (0, 0))
  b2 : W.heap[g2]? = some (.cells c2 29 (0, 0))
  b3 : W.heap[g3]? = some (.cells c3 29 (0, 0))
  l2 : w.heap.size ≤ g2
  l3 : w.heap.size ≤ g3
  n13 : g1 ≠ g3
  n23 : g2 ≠ g3
  n12 : g1 ≠ g2
section
variable {w W W' : World} {g1 g2 g3 : Nat} {c1 c2 c3 c' : Array Value}
theorem Bx.below (h : Bx w g1 g2 g3 c1 c2 c3 W) (k : Below W.heap.size W W') : Bx w g1 g2 g3 c1 c2 c3 W' :=
  ⟨below_step h.hb k, blk_below h.b1 k, blk_below h.b2 k, blk_below h.b3 k, h.l2, h.l3, h.n13, h.n23, h.n12⟩
theorem Bx.draw (h : Bx w g1 g2 g3 c1 c2 c3 W) : Bx w g1 g2 g3 c1 c2 c3 W.drew :=
  ⟨h.hb.drew, blk_drew h.b1, blk_drew h.b2, blk_drew h.b3, h.l2, h.l3, h.n13, h.n23, h.n12⟩
theorem Bx.put3 (h : Bx w g1 g2 g3 c1 c2 c3 W) (i : Nat) (v : Value) (e : c3.setIfInBounds i v = c') : Bx w g1 g2 g3 c1 c2 c' (W.setCell ⟨g3, i, none⟩ v) :=
  ⟨below_set h.hb h.l3, blk_far h.b1 h.n13 v, blk_far h.b2 h.n23 v, blk_put h.b3 i v e, h.l2, h.l3, h.n13, h.n23, h.n12⟩
theorem Bx.put2 (h : Bx w g1 g2 g3 c1 c2 c3 W) (i : Nat) (v : Value) (e : c2.setIfInBounds i v = c') : Bx w g1 g2 g3 c1 c' c3 (W.setCell ⟨g2, i, none⟩ v) :=
  ⟨below_set h.hb h.l2, blk_far h.b1 h.n12 v, blk_put h.b2 i v e, blk_far h.b3 h.n23.symm v, h.l2, h.l3, h.n13, h.n23, h.n12⟩
theorem Bx.apart {g : Nat} (h : Bx w g1 g2 g3 c1 c2 c3 W) (hg : g = W.heap.size) : g1 ≠ g ∧ g2 ≠ g ∧ g3 ≠ g ∧ w.heap.size ≤ g :=
  ⟨by have := blk_lt h.b1; omega, by have := blk_lt h.b2; omega, by have := blk_lt h.b3; omega, by have := h.hb.size; omega⟩
theorem Bx.away {g : Nat} (h : Bx w g1 g2 g3 c1 c2 c3 W) (d : g1 ≠ g ∧ g2 ≠ g ∧ g3 ≠ g ∧ w.heap.size ≤ g) (i : Nat) (v : Value) : Bx w g1 g2 g3 c1 c2 c3 (W.setCell ⟨g, i, none⟩ v) :=
  ⟨below_set h.hb d.2.2.2, blk_far h.b1 d.1 v, blk_far h.b2 d.2.1 v, blk_far h.b3 d.2.2.1 v, h.l2, h.l3, h.n13, h.n23, h.n12⟩
theorem Bx.made {W1 W2 W3 : World} {g1 g2 g3 : Nat} {c1 c2 c3 : Array Value} (h0 : Below w.heap.size w w) (b1 : W1.heap[g1]? = some (.cells c1 36 (0, 0))) (e1 : g1 = w.heap.size) (k1 : Below w.heap.size w W1)
    (b2 : W2.heap[g2]? = some (.cells c2 29 (0, 0))) (e2 : g2 = W1.heap.size) (k2 : Below W1.heap.size W1 W2) (b3 : W3.heap[g3]? = some (.cells c3 29 (0, 0))) (e3 : g3 = W2.heap.size) (k3 : Below W2.heap.size W2 W3) : Bx w g1 g2 g3 c1 c2 c3 W3 := by
  have s1 := k1.size
  have s2 := k2.size
  have l1 := blk_lt b1
  have l2 := blk_lt b2
  exact ⟨below_step (below_step k1 k2) k3, blk_below (blk_below b1 k2) k3, blk_below b2 k3, b3, by omega, by omega, by omega, by omega, by omega⟩
theorem Bx.fill {v0 v1 v2 v3 v4 v5 v6 v7 v8 v9 v10 z0 z1 z2 z3 z4 z5 z6 z7 z8 z9 z10 : Value} (h : Bx w g1 g2 g3 c1 #[z0, z1, z2, z3, z4, z5, z6, z7, z8, z9, z10] c3 W) : Bx w g1 g2 g3 c1 #[v0, v1, v2, v3, v4, v5, v6, v7, v8, v9, v10] c3 (((((((((((W.setCell ⟨g2, 0, none⟩ v0).setCell ⟨g2, 1, none⟩ v1).setCell ⟨g2, 2, none⟩ v2).setCell ⟨g2, 3, none⟩ v3).setCell ⟨g2, 4, none⟩ v4).setCell ⟨g2, 5, none⟩ v5).setCell ⟨g2, 6, none⟩ v6).setCell ⟨g2, 7, none⟩ v7).setCell ⟨g2, 8, none⟩ v8).setCell ⟨g2, 9, none⟩ v9).setCell ⟨g2, 10, none⟩ v10) :=
  (((((((((((h.put2 (c' := #[v0, z1, z2, z3, z4, z5, z6, z7, z8, z9, z10]) 0 v0 rfl).put2 (c' := #[v0, v1, z2, z3, z4, z5, z6, z7, z8, z9, z10]) 1 v1 rfl).put2 (c' := #[v0, v1, v2, z3, z4, z5, z6, z7, z8, z9, z10]) 2 v2 rfl).put2 (c' := #[v0, v1, v2, v3, z4, z5, z6, z7, z8, z9, z10]) 3 v3 rfl).put2 (c' := #[v0, v1, v2, v3, v4, z5, z6, z7, z8, z9, z10]) 4 v4 rfl).put2 (c' := #[v0, v1, v2, v3, v4, v5, z6, z7, z8, z9, z10]) 5 v5 rfl).put2 (c' := #[v0, v1, v2, v3, v4, v5, v6, z7, z8, z9, z10]) 6 v6 rfl).put2 (c' := #[v0, v1, v2, v3, v4, v5, v6, v7, z8, z9, z10]) 7 v7 rfl).put2 (c' := #[v0, v1, v2, v3, v4, v5, v6, v7, v8, z9, z10]) 8 v8 rfl).put2 (c' := #[v0, v1, v2, v3, v4, v5, v6, v7, v8, v9, z10]) 9 v9 rfl).put2 (c' := #[v0, v1, v2, v3, v4, v5, v6, v7, v8, v9, v10]) 10 v10 rfl)
end
attribute [local go_sem high] fx_eql fx_neq fx_lss fx_leq fx_gtr fx_geq fx_add fx_sub fx_mul fx_neg fx_toint cxx_add cxx_sub cxx_mul cxx_eql cxx_neq cxx_pick st_float st_complex
section
variable {P : Program} {ops : Array Oper} {Q : Exit → Act → World → Prop} {S : World → Prop} {ds : List Nat} {md : Region.Mode} {oi : Oper} {fuel : Nat} {l : Array Bool} {a a' : Act} {w w1 : World} {T : Bool × List (List Nat × List Nat)} {K : Act → World → Prop}
theorem gN_ {N : Option Tmp} {f : FuncId} {fn : Func} {az : Array Operand} {ts : Array TypeId} (hf : P.funcs[f]? = some fn) (args : Array Value) (h : Calls P f args w fun e w' => ∃ v, e = .returned v ∧ K (a.put N v) w') (hname : (fn.name == "runtime.NumGoroutine") = false := by kernel_rfl) (hb : fn.body.isSome = true := by rfl)
    (hw : Region.wanted oi (yielded ops a.tmps) = true := by rfl) (hN : oi.dst = N := by rfl) (hop : oi.op = .call { callee := .value (.func f), args := az, argTypes := ts } := by rfl) (hargs : az.map a.eval = args := by ((try simp only [List.map_toArray, List.map_cons, List.map_nil]); first | done | rfl)) :
    if Region.wanted oi (yielded ops a.tmps) = true then Oper.wp P oi a w K Q else K (a.put N undef) w := goes_ hf hname hb args hw hN hop hargs h
theorem pq_ {v : Value} (i : Nat) (N : Tmp) (l' : Array Bool) (hT : Aside0 (rtab md ops = T)) (h : wpAnyLast P md ops Q S ds fuel l' a' w) (hi : ops[i]? = some oi := by rfl) (hN : oi.dst = some N := by rfl) (hc : anyT T l.toList l'.toList i = true := by kernel_rfl) (hQ : ∀ c a w, Q (.panic c) (a.put oi.dst v) w → Q (.panic c) a w := by exact fun _ _ _ h => h)
    (hy : Yields P ops oi v a := by (refine Or.inl ⟨by rfl, ?_⟩; intro w'; go_simp; with_reducible rfl)) (ha : a.put (some N) v = a' := by (simp only [putS]; rfl)) : wpAnyLast P md ops Q S ds (fuel + 1) l a w := pure_ l' hi hN (any_of hT.out hc) hQ hy ha h
theorem tk_ (v : Value) (i : Nat) (N : Tmp) (l' : Array Bool) {B : List Nat} (hT : Aside0 (rtab md ops = T)) (hB : Aside0 (waitsOk T.2 B = true)) (hS : S w) (hy : YieldsIf P ops S oi v a) (h : wpAnyLast P md ops Q S ds fuel l' a' w) (hi : ops[i]? = some oi := by rfl) (hN : oi.dst = some N := by rfl)
    (hc : takeW T B ds l.toList l'.toList i = true := by kernel_rfl) (hQ : ∀ c a w, Q (.panic c) (a.put oi.dst v) w → Q (.panic c) a w := by exact fun _ _ _ h => h) (ha : a.put (some N) v = a' := by (simp only [putS]; rfl)) : wpAnyLast P md ops Q S ds (fuel + 1) l a w :=
  take_ l' hi hN (take_ofW hT.out hB.out hc) hQ hy hS ha h
theorem on_ (i : Nat) (N : Option Tmp) (l' : Array Bool) (hT : Aside0 (rtab md ops = T)) (h : ∀ K : Act → World → Prop, Shut (∀ a' w', S w' → (S w' → wpAnyLast P md ops Q S ds fuel l' a' w') → K a' w') → if Region.wanted oi (yielded ops a.tmps) = true then Oper.wp P oi a w K Q else K (a.put N undef) w)
    (hi : ops[i]? = some oi := by rfl) (hN : oi.dst = N := by rfl) (hc : (readyT T.2 l.toList == [i] && l.toList.set i true == l'.toList) = true := by kernel_rfl) (hd : i ∉ ds := by decide) : wpAnyLast P md ops Q S ds (fuel + 1) l a w := one_ l' hi hN (one_of hT.out hc) hd h
theorem sk_ (h : K a w1) (hw : Region.wanted oi (yielded ops a.tmps) = true := by rfl) (hN : oi.dst = none := by rfl) (hrun : (execOp a.eval oi).run P w = .ok .skip w1 := by (go_simp; rfl)) : if Region.wanted oi (yielded ops a.tmps) = true then Oper.wp P oi a w K Q else K (a.put none undef) w := skip_ hw hN hrun h
theorem nm_ (N : Tmp) (v : Value) (h : wpAnyLast P md ops Q S ds fuel l a' w) (ha : a.put (some N) v = a' := by (simp only [putS]; rfl)) : wpAnyLast P md ops Q S ds fuel l (a.put (some N) v) w := norm_ ha h
end
end Go.Proofs.YtofedlghaopciaaGreatDoor.PA
end
section
/- PhasorAll: every call of every script is answered as the document answers it. -/
set_option linter.unusedVariables false
set_option linter.unusedSimpArgs false
namespace Go.Proofs.YtofedlghaopciaaGreatDoor.Pure
open Go.RowKit Go.Proofs.YtofedlghaopciaaGreatDoor.PA Go.Proofs.YtofedlghaopciaaGreatDoor.PureA Go.Proofs.YtofedlghaopciaaGreatDoor.Num Go.Proofs.YtofedlghaopciaaGreatDoor.Flt Go.Proofs.YtofedlghaopciaaGreatDoor.FourW Go.Proofs.YtofedlghaopciaaGreatDoorW.PrintWords Go.Proofs.YtofedlghaopciaaGreatDoorW.PrintLast Go.Proofs.YtofedlghaopciaaGreatDoorW.PrintMore
theorem bits_of_ok {y : S33} (h : okS33 y) : Bits (cx y.f0 y.f1) := ⟨wf_lt h.1, wf_lt h.2⟩
theorem op_same (x : S36) (h : okS36 x) : SameA (fun k => pylonlaw02_plays.f k x.f0 x.f1.f0 x.f1.f1 x.f2.f0 x.f2.f1 x.f3.f0 x.f3.f1 x.f4.f0 x.f4.f1 x.f5 x.f6 x.f7 x.f8 x.f9 x.f10) (fun k => pylonlaw02_wants.f k x.f0 x.f1.f0 x.f1.f1 x.f2.f0 x.f2.f1 x.f3.f0 x.f3.f1 x.f4.f0 x.f4.f1 x.f5 x.f6 x.f7 x.f8 x.f9 x.f10) := by
  obtain ⟨_, h1, h2, h3, h4, h5, h6, _, _, _, h10⟩ := h
  have b1 := bits_of_ok h1
  have b2 := bits_of_ok h2
  have b3 := bits_of_ok h3
  have b4 := bits_of_ok h4
  generalize x.f0 = n
  by_cases c1 : n = 1
  · subst c1; exact op1 b1
  by_cases c2 : n = 2
  · subst c2; exact op2
  by_cases c3 : n = 3
  · subst c3; exact op3 b1
  by_cases c4 : n = 4
  · subst c4; exact op4 b1 b2
  by_cases c5 : n = 5
  · subst c5; exact op5 (by omega) (by omega) h5.2 h6.2
  by_cases c6 : n = 6
  · subst c6; exact op6 b1 b2 b3 b4
  by_cases c7 : n = 7
  · subst c7; exact op7 b1
  by_cases c8 : n = 8
  · subst c8; exact op8
  by_cases c9 : n = 9
  · subst c9; exact op9 b1
  by_cases c10 : n = 10
  · subst c10; exact op10 b1 b2 b3 b4
  by_cases c11 : n = 11
  · subst c11; exact op11 b1 b2 b3 b4
  by_cases c12 : n = 12
  · subst c12; exact op12 b1
  by_cases c13 : n = 13
  · subst c13; exact op13 (by omega)
  simp only [pylonlaw02_plays.f, pylonlaw02_wants.f, if_neg c1, if_neg c2, if_neg c3, if_neg c4, if_neg c5, if_neg c6, if_neg c7, if_neg c8, if_neg c9, if_neg c10, if_neg c11, if_neg c12, if_neg c13]
  exact ⟨_, _, Ev.now _, Ev.now _, same_n⟩
theorem all_l0 {l : List S36} (hl : (l.length : Int) ≤ 140737488355328) (h : ∀ y ∈ l, okS36 y) : ∀ (d : Nat) (i : Int), 0 ≤ i → (l.length : Int) - i = d → Ev (fun k => pylonlaw02_PhasorAll.l0 k l (l.length : Int) i) true
  | 0, i, i0, hd => by
    refine Ev.shift ?_
    simp only [pylonlaw02_PhasorAll.l0, if_neg (show ¬ i < (l.length : Int) by omega)]
    exact Ev.now _
  | d + 1, i, i0, hd => by
    have hi : i < (l.length : Int) := by omega
    have hm : rd_T36 l i ∈ l := by
      have hz : i.toNat < l.length := by omega
      show l.getD i.toNat z36 ∈ l
      rw [List.getD_eq_getElem?_getD, List.getElem?_eq_getElem hz]
      exact List.getElem_mem hz
    obtain ⟨X, Y, p, q, r⟩ := op_same _ (h _ hm)
    refine Ev.shift ?_
    simp only [pylonlaw02_PhasorAll.l0, if_pos hi, if_pos i0, i64in (x := i + 1) (by omega) (by omega)]
    refine Ev.bind p (Ev.bind q ?_)
    have r' := r
    unfold same at r'
    simp only [r', Option.bind_some, if_true]
    exact all_l0 hl h d (i + 1) (by omega) (by omega)
theorem PhasorAll : pylonlaw02_PhasorAll.Pure := by
  intro l h
  obtain ⟨h1, h2⟩ := h
  have g := all_l0 (l := l) (by omega) h2 l.length 0 (by omega) (by omega)
  apply ev_ex
  unfold pylonlaw02_PhasorAll.f
  simp only [awake_ok, Option.bind_some, if_true]
  exact g
end Go.Proofs.YtofedlghaopciaaGreatDoor.Pure
end
