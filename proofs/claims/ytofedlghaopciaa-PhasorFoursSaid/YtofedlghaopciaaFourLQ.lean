/- The law PhasorFours, walked by hand. -/
import Derived.Test.YtofedlghaopciaaFourBAQ
import Derived.Test.YtofedlghaopciaaPQx1
import Derived.Laws.StructEq
set_option linter.unusedVariables false
set_option linter.unusedSimpArgs false
namespace Go.Proofs.Ytofedlghaopciaa.FourW
open Go Go.RowKit Go.Proofs.Ytofedlghaopciaa.PQ Go.Proofs.YtofedlghaopciaaW.PrintWords Go.Proofs.YtofedlghaopciaaW.PrintLast Go.Proofs.YtofedlghaopciaaW.PrintMore
attribute [local go_sem high] fx_eql fx_neq fx_lss fx_leq fx_gtr fx_geq fx_add fx_sub fx_mul fx_neg fx_toint cxx_add cxx_sub cxx_mul cxx_eql cxx_neq cxx_pick st_float st_complex
theorem part_c {xs : Array Value} {off : Nat} {v : Value} (w : World) (hx : xs[off]? = some v) : (Go.part 25 xs off).run Try.prog w = .ok v w := by
  have he : Try.prog.underlying 25 = some (.complex .f64) := Try.underlying25
  simp [Go.part, isAgg, run_underlying he, hx]
theorem eq_c (w : World) (d a b a' b' : Nat) : (Op.equalIn (d + 1) 25 (.complex .f64 a b) (.complex .f64 a' b')).run Try.prog w = .ok (ceq a b a' b') w := by
  have he : Try.prog.underlying 25 = some (.complex .f64) := Try.underlying25
  unfold Op.equalIn
  simp [run_underlying he]
  rfl
theorem arr_eq (x y : Nat → Cx) (w : World) (h : ∀ j, j < 4 → ceq (x j).re (x j).im (y j).re (y j).im = true) : (Op.equalIn 10000 26 (.agg (arr x)) (.agg (arr y))).run Try.prog w = .ok true w := by
  have ht : Try.prog.underlying 26 = some (.array 4 25) := Try.underlying26
  obtain ⟨fo, hfo⟩ : ∃ fo, Try.prog.info? 25 = some fo := Option.isSome_iff_exists.mp (by kernel_rfl)
  have hs := run_sizeOf (P := Try.prog) w hfo
  have hc : Try.prog.cellsOf 25 = 1 := by kernel_rfl
  rw [hc] at hs
  have px : ∀ j, j < 4 → (Go.part 25 (arr x) j).run Try.prog w = .ok (.complex .f64 (x j).re (x j).im) w := fun j hj => part_c w (by rcases four_of hj with rfl | rfl | rfl | rfl <;> rfl)
  have py : ∀ j, j < 4 → (Go.part 25 (arr y) j).run Try.prog w = .ok (.complex .f64 (y j).re (y j).im) w := fun j hj => part_c w (by rcases four_of hj with rfl | rfl | rfl | rfl <;> rfl)
  have hq : ∀ j, j < 4 → (Op.equalIn 9999 25 (.complex .f64 (x j).re (x j).im) (.complex .f64 (y j).re (y j).im)).run Try.prog w = .ok true w := fun j hj => by
    have := eq_c w 9998 (x j).re (x j).im (y j).re (y j).im
    rw [h j hj] at this
    exact this
  unfold Op.equalIn
  simp only [Sem.run_bind, run_underlying ht, Result.andThen_ok, hs, Std.Legacy.Range.forIn_eq_forIn_range', Std.Legacy.Range.size, List.range', show (4 - 0 + 1 - 1) / 1 = 4 from rfl, Nat.zero_mul, Nat.one_mul, Nat.mul_one, Nat.zero_add, Nat.reduceAdd, Bool.not_true, Bool.false_eq_true, if_false, Sem.run_pure, List.forIn_cons, List.forIn_nil, px 0 (by decide), px 1 (by decide), px 2 (by decide), px 3 (by decide), py 0 (by decide), py 1 (by decide), py 2 (by decide), py 3 (by decide), hq 0 (by decide), hq 1 (by decide), hq 2 (by decide), hq 3 (by decide)]
theorem arr_neq (x y : Nat → Cx) (h : ∀ j, j < 4 → ceq (x j).re (x j).im (y j).re (y j).im = true) (w : World) : (binOp .neq 26 (.agg (arr x)) (.agg (arr y))).run Try.prog w = .ok (.bool false) w := by
  rw [run_neq_struct, arr_eq x y w h]
  rfl
def numZ (a b : Int) : Cx := cx (floatOfInt .f64 a) (floatOfInt .f64 b)
set_option maxRecDepth 100000 in
theorem small_same (a b : Int) (w : World) : Calls Try.prog 5 #[.int .i16 a, .int .i16 b] w fun e w' => e = .returned (.complex .f64 (numZ a b).re (numZ a b).im) ∧ w' = w := by
  go_enter Try.func5, Try.ntmps5
  go_wp2
  go_ret
  exact ⟨rfl, rfl⟩
abbrev arr8 (f : Nat → Int) : Array Value := #[.int .i16 (f 0), .int .i16 (f 1), .int .i16 (f 2), .int .i16 (f 3), .int .i16 (f 4), .int .i16 (f 5), .int .i16 (f 6), .int .i16 (f 7)]
abbrev zz : Nat → Cx := fun _ => cx 0 0
def sumZ (a b : Cx) : Cx := cx (caddre a.re a.im b.re b.im) (caddim a.re a.im b.re b.im)
theorem eight_of {k : Nat} (h : k < 8) : k = 0 ∨ k = 1 ∨ k = 2 ∨ k = 3 ∨ k = 4 ∨ k = 5 ∨ k = 6 ∨ k = 7 := by omega
/-- A block holds four complex numbers. -/
def Row (w : World) (b : Nat) (f : Nat → Cx) : Prop := (∀ j, j < 4 → w.cell? ⟨b, j, none⟩ = some (.complex .f64 (f j).re (f j).im)) ∧ (∀ j, w.frozen? ⟨b, j, none⟩ = false) ∧ b < w.heap.size
theorem Row.below {w w' : World} {b : Nat} {f : Nat → Cx} (h : Row w b f) (hb : Below w.heap.size w w') : Row w' b f :=
  ⟨fun j hj => ((bcell hb).1 _ j h.2.2).trans (h.1 j hj), fun j => ((bcell hb).2 _ j h.2.2).trans (h.2.1 j), Nat.lt_of_lt_of_le h.2.2 hb.size⟩
theorem Row.alloc {w : World} {b : Nat} {f : Nat → Cx} (h : Row w b f) (o : Obj) : Row (w.alloc o) b f := h.below ((Below.refl _ _).alloc (Nat.le_refl _) _)
theorem Row.draw {w : World} {b : Nat} {f : Nat → Cx} (h : Row w b f) (n : Nat) : Row (w.drewN n) b f := h
theorem Row.made (w : World) (f : Nat → Cx) : Row (w.alloc (.cells (arr f) 26)) w.heap.size f :=
  ⟨fun j hj => by rw [World.cell?_alloc_at _ _ _ _ rfl]; rcases four_of hj with rfl | rfl | rfl | rfl <;> rfl, fun j => World.frozen?_alloc_at _ _ _ _ rfl, by simp⟩
theorem Row.congr {w : World} {b : Nat} {f g : Nat → Cx} (h : Row w b f) (e : ∀ j, j < 4 → f j = g j) : Row w b g := ⟨fun j hj => by rw [← e j hj]; exact h.1 j hj, h.2⟩
theorem Row.here {w : World} {b : Nat} {f : Nat → Cx} (h : Row w b f) (k : Nat) (hk : k < 4) (z : Cx) : Row (w.setCell ⟨b, k, none⟩ (.complex .f64 z.re z.im)) b (fun j => if j = k then z else f j) := by
  refine ⟨fun j hj => ?_, fun j => ?_, ?_⟩
  · by_cases e : j = k
    · subst e
      simp only [if_true]
      exact World.cell?_setCell_same (h := h.1 j hj) ..
    · simp only [if_neg e]
      exact (World.cell?_setCell_other (h := fun x => e (by injection x with _ y; exact y.symm)) ..).trans (h.1 j hj)
  · rw [World.frozen?_setCell]; exact h.2.1 j
  · simpa using h.2.2
theorem Row.away {w : World} {b c : Nat} {f : Nat → Cx} (h : Row w b f) (k : Nat) (v : Value) (hc : c ≠ b) : Row (w.setCell ⟨c, k, none⟩ v) b f := by
  refine ⟨fun j hj => ?_, fun j => ?_, ?_⟩
  · exact (World.cell?_setCell_other (h := fun x => hc (by injection x)) ..).trans (h.1 j hj)
  · rw [World.frozen?_setCell]; exact h.2.1 j
  · simpa using h.2.2
/-- What came in. -/
def Ints (w : World) (b : Nat) (f : Nat → Int) : Prop := (∀ j, j < 8 → w.cell? ⟨b, j, none⟩ = some (.int .i16 (f j))) ∧ b < w.heap.size
theorem Ints.below {w w' : World} {b : Nat} {f : Nat → Int} (h : Ints w b f) (hb : Below w.heap.size w w') : Ints w' b f :=
  ⟨fun j hj => ((bcell hb).1 _ j h.2).trans (h.1 j hj), Nat.lt_of_lt_of_le h.2 hb.size⟩
theorem Ints.alloc {w : World} {b : Nat} {f : Nat → Int} (h : Ints w b f) (o : Obj) : Ints (w.alloc o) b f := h.below ((Below.refl _ _).alloc (Nat.le_refl _) _)
theorem Ints.draw {w : World} {b : Nat} {f : Nat → Int} (h : Ints w b f) (n : Nat) : Ints (w.drewN n) b f := h
theorem Ints.made (w : World) (f : Nat → Int) (t : TypeId) : Ints (w.alloc (.cells (arr8 f) t)) w.heap.size f :=
  ⟨fun j hj => by rw [World.cell?_alloc_at _ _ _ _ rfl]; rcases eight_of hj with rfl | rfl | rfl | rfl | rfl | rfl | rfl | rfl <;> rfl, by simp⟩
theorem Ints.away {w : World} {b c : Nat} {f : Nat → Int} (h : Ints w b f) (k : Nat) (v : Value) (hc : c ≠ b) : Ints (w.setCell ⟨c, k, none⟩ v) b f :=
  ⟨fun j hj => (World.cell?_setCell_other (h := fun x => hc (by injection x)) ..).trans (h.1 j hj), by simpa using h.2⟩
/-- The five arrays of the first loop. -/
structure Lay (w0 : World) (b : Nat) (xs ys : Nat → Int) (p q s : Nat → Cx) (w : World) : Prop where
  x : Ints w w0.heap.size xs
  y : Ints w (w0.heap.size + 1) ys
  p : Row w b p
  q : Row w (b + 1) q
  s : Row w (b + 1 + 1) s
  lo : w0.heap.size + 1 < b
  below : Below w0.heap.size w0 w
theorem Lay.step {w0 : World} {b : Nat} {xs ys : Nat → Int} {p q s : Nat → Cx} {w w' : World} (h : Lay w0 b xs ys p q s w) (hb : Below w.heap.size w w') : Lay w0 b xs ys p q s w' :=
  ⟨h.x.below hb, h.y.below hb, h.p.below hb, h.q.below hb, h.s.below hb, h.lo, h.below.trans (hb.mono (by have := h.x.2; omega))⟩
theorem Lay.draw {w0 : World} {b : Nat} {xs ys : Nat → Int} {p q s : Nat → Cx} {w : World} (h : Lay w0 b xs ys p q s w) (n : Nat) : Lay w0 b xs ys p q s (w.drewN n) :=
  ⟨h.x.draw n, h.y.draw n, h.p.draw n, h.q.draw n, h.s.draw n, h.lo, pw_below_drewN h.below n⟩
theorem Lay.setp {w0 : World} {b : Nat} {xs ys : Nat → Int} {p q s : Nat → Cx} {w : World} (h : Lay w0 b xs ys p q s w) (k : Nat) (hk : k < 4) (z : Cx) : Lay w0 b xs ys (fun j => if j = k then z else p j) q s (w.setCell ⟨b, k, none⟩ (.complex .f64 z.re z.im)) :=
  have := h.lo
  ⟨h.x.away k _ (by omega), h.y.away k _ (by omega), h.p.here k hk z, h.q.away k _ (by omega), h.s.away k _ (by omega), h.lo, h.below.setCell (by simp; omega) _⟩
theorem Lay.setq {w0 : World} {b : Nat} {xs ys : Nat → Int} {p q s : Nat → Cx} {w : World} (h : Lay w0 b xs ys p q s w) (k : Nat) (hk : k < 4) (z : Cx) : Lay w0 b xs ys p (fun j => if j = k then z else q j) s (w.setCell ⟨b + 1, k, none⟩ (.complex .f64 z.re z.im)) :=
  have := h.lo
  ⟨h.x.away k _ (by omega), h.y.away k _ (by omega), h.p.away k _ (by omega), h.q.here k hk z, h.s.away k _ (by omega), h.lo, h.below.setCell (by simp; omega) _⟩
theorem Lay.sets {w0 : World} {b : Nat} {xs ys : Nat → Int} {p q s : Nat → Cx} {w : World} (h : Lay w0 b xs ys p q s w) (k : Nat) (hk : k < 4) (z : Cx) : Lay w0 b xs ys p q (fun j => if j = k then z else s j) (w.setCell ⟨b + 1 + 1, k, none⟩ (.complex .f64 z.re z.im)) :=
  have := h.lo
  ⟨h.x.away k _ (by omega), h.y.away k _ (by omega), h.p.away k _ (by omega), h.q.away k _ (by omega), h.s.here k hk z, h.lo, h.below.setCell (by simp; omega) _⟩
theorem Lay.congr {w0 : World} {b : Nat} {xs ys : Nat → Int} {p q s p' q' s' : Nat → Cx} {w : World} (h : Lay w0 b xs ys p q s w) (hp : ∀ j, j < 4 → p j = p' j) (hq : ∀ j, j < 4 → q j = q' j) (hs : ∀ j, j < 4 → s j = s' j) : Lay w0 b xs ys p' q' s' w :=
  ⟨h.x, h.y, h.p.congr hp, h.q.congr hq, h.s.congr hs, h.lo, h.below⟩
theorem code_world {P : Program} {c : Code} {Q : Exit → Act → World → Prop} {a : Act} {w : World} (R : World → Prop) (h : R w) (k : ∀ w', R w' → c.wp P Q a w') : c.wp P Q a w := k w h
theorem still_all {P : Program} {id : Nat} {Q : Exit → Act → World → Prop} {a : Act} {w : World} {l : List Oper} (hm : P.follows .mixedOrders = true) (hB : Region.lexB .any l.toArray = true)
    (h : wpStill P l.toArray w.drew (fun a' => Q .normal a' w.drew) l a) : (Code.region id l.toArray true).wp P Q a w := wp_region_still_lit hm hB h
theorem mid_self (y z : Nat → Cx) (k : Nat) : mid y z (k + 1) k = z k := by unfold mid; rw [if_pos (by omega)]
end Go.Proofs.Ytofedlghaopciaa.FourW
