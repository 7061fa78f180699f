/- Texts of this claim, joined. -/
import Derived.Test.YtofedlghaopciaaGreatDoorPAx2
import Derived.Test.YtofedlghaopciaaGreatDoorPAx11
import Derived.Test.YtofedlghaopciaaGreatDoorPk3
import Derived.Test.YtofedlghaopciaaGreatDoorPAx5
import Derived.Test.YtofedlghaopciaaGreatDoorPAx12
import Derived.Test.YtofedlghaopciaaGreatDoorPAx13
import Derived.Test.YtofedlghaopciaaGreatDoorPAx3
import Derived.Test.YtofedlghaopciaaGreatDoorPAx15
import Derived.Test.YtofedlghaopciaaGreatDoorPAx9
section
/- PhasorAll: Phases, Power, Aron, Turn, both sides. -/
set_option linter.unusedVariables false
set_option linter.unusedSimpArgs false
namespace Go.Proofs.YtofedlghaopciaaGreatDoor.PureA
open Go.RowKit Go.Proofs.YtofedlghaopciaaGreatDoor.PA Go.Proofs.YtofedlghaopciaaGreatDoor.Num Go.Proofs.YtofedlghaopciaaGreatDoor.Flt Go.Proofs.YtofedlghaopciaaGreatDoor.FourW Go.Proofs.YtofedlghaopciaaGreatDoorW.PrintWords Go.Proofs.YtofedlghaopciaaGreatDoorW.PrintLast Go.Proofs.YtofedlghaopciaaGreatDoorW.PrintMore
/-- The same answer, a number and a word: the numbers equal as floats are. -/
def Same1 (g h : Nat → Option (Cx × Int)) : Prop := ∃ z y : Cx, ∃ e : Int, Ev g (z, e) ∧ Ev h (y, e) ∧ ceq z.re z.im y.re y.im = true
theorem zero_same : ceq (cx 0 0).re (cx 0 0).im (cx 0 0).re (cx 0 0).im = true := by
  rw [ceq_is is_zero is_zero is_zero is_zero]; rfl
theorem ceq_of' {x : Cx} {A B : Int} (h1 : Is x.re A) (h2 : Is x.im B) (a : A.natAbs ≤ 4503599627370496) (b : B.natAbs ≤ 4503599627370496) : ceq x.re x.im (numZ A B).re (numZ A B).im = true := by
  have i1 : Is (numZ A B).re A := of_int (by omega)
  have i2 : Is (numZ A B).im B := of_int (by omega)
  rw [ceq_is h1 h2 i1 i2, decide_eq_true rfl, decide_eq_true rfl]; rfl
theorem phases_same {u v : List Cx} (bu : ∀ z ∈ u, Bits z) (bv : ∀ z ∈ v, Bits z) : Same1 (fun k => phasor_Phases.f k u v) (fun k => pylonref02_Phases.f k u v) := by
  by_cases h : u.length = v.length ∧ u.length ≤ 4
  · obtain ⟨p1, p2⟩ := phases_f h.1 h.2 bu bv
    obtain ⟨r1, r2⟩ := rphases_f h.1 h.2
    by_cases g : ∀ p ∈ u.zip v, PGood p
    · obtain ⟨z, e, z1, z2, z3, z4⟩ := p1 g
      have hm : u.length * 2251799813685248 ≤ 4 * 2251799813685248 := Nat.mul_le_mul_right _ h.2
      exact ⟨_, _, 0, e, r1 g, ceq_top z1 z2 (of_intT (by omega)) (of_intT (by omega))⟩
    · exact ⟨_, _, 5, p2 g, r2 g, zero_same⟩
  · obtain ⟨p, r⟩ := phases_arg h
    exact ⟨_, _, 8, p, r, zero_same⟩
theorem bind_same {g : Nat → Option (Cx × Int)} {r : Cx × Int} (h : Ev g r) : Ev (fun k => (g k).bind fun b => some (b.1, b.2)) r := by
  obtain ⟨K, h⟩ := h
  exact ⟨K, fun k hk => by simp only [h k hk, Option.bind_some]⟩
theorem power_same {u v : Cx} (bu : Bits u) (bv : Bits v) : Same1 (fun _ => phasor_Power.f u v) (fun k => pylonref02_Power.f k u v) := by
  obtain ⟨r1, r2⟩ := rphases_f (u := [u]) (v := [v]) rfl (by simp)
  unfold pylonref02_Power.f
  by_cases g : PGood (u, v)
  · obtain ⟨z, e, z1, z2, z3, z4⟩ := pair_ok g bu bv
    have hr := r1 (fun p hp => by
      have : p = (u, v) := by simpa using hp
      rw [this]; exact g)
    have e1 : sRe ([u].zip [v]) = pRe (u, v) := by simp [sRe]
    have e2 : sIm ([u].zip [v]) = pIm (u, v) := by simp [sIm]
    rw [e1, e2] at hr
    exact ⟨z, _, 0, Ev.ofEq e, bind_same hr, ceq_of' z1 z2 (by omega) (by omega)⟩
  · have hr := r2 (fun q => g (q (u, v) (by simp)))
    exact ⟨_, _, 5, Ev.ofEq (power_no bu bv g), bind_same hr, zero_same⟩
theorem aron_same {a b c d : Cx} (ba : Bits a) (bb : Bits b) (bc : Bits c) (bd : Bits d) : Same1 (fun _ => phasor_Aron.f a b c d) (fun k => pylonref02_Aron.f k a b c d) := by
  obtain ⟨r1, r2⟩ := rphases_f (u := [a, b]) (v := [c, d]) rfl (by simp)
  unfold pylonref02_Aron.f phasor_Aron.f
  by_cases g1 : PGood (a, c)
  · obtain ⟨z, e, z1, z2, z3, z4⟩ := pair_ok g1 ba bc
    by_cases g2 : PGood (b, d)
    · obtain ⟨y, f, y1, y2, y3, y4⟩ := pair_ok g2 bb bd
      have hr := r1 (fun p hp => by
        have : p = (a, c) ∨ p = (b, d) := by simpa using hp
        rcases this with h | h <;> rw [h]
        · exact g1
        · exact g2)
      have e1 : sRe ([a, b].zip [c, d]) = pRe (a, c) + pRe (b, d) := by simp [sRe]
      have e2 : sIm ([a, b].zip [c, d]) = pIm (a, c) + pIm (b, d) := by simp [sIm]
      rw [e1, e2] at hr
      obtain ⟨o, s1, s2⟩ := cadd_is z1 z2 y1 y2 (by omega) (by omega)
      refine ⟨cx (caddre z.re z.im y.re y.im) (caddim z.re z.im y.re y.im), _, 0, Ev.ofEq ?_, bind_same hr, ceq_of' (x := cx (caddre z.re z.im y.re y.im) (caddim z.re z.im y.re y.im)) s1 s2 (by omega) (by omega)⟩
      rw [e, Option.bind_some, f, Option.bind_some, if_pos rfl, if_pos rfl, if_pos o]
    · have hr := r2 (fun q => g2 (q (b, d) (by simp)))
      refine ⟨_, _, 5, Ev.ofEq ?_, bind_same hr, zero_same⟩
      rw [e, Option.bind_some, power_no bb bd g2, Option.bind_some, if_pos rfl, if_neg (by decide)]
  · have hr := r2 (fun q => g1 (q (a, c) (by simp)))
    obtain ⟨y, f, hy⟩ : ∃ y f, phasor_Power.f b d = some (y, f) := by
      by_cases g2 : PGood (b, d)
      · obtain ⟨y, f, _⟩ := pair_ok g2 bb bd
        exact ⟨_, _, f⟩
      · exact ⟨_, _, power_no bb bd g2⟩
    refine ⟨_, _, 5, Ev.ofEq ?_, bind_same hr, zero_same⟩
    rw [power_no ba bc g1, Option.bind_some, hy, Option.bind_some, if_neg (by decide)]
theorem turn_same {z : Cx} (bz : Bits z) (k : Int) : ∃ r y : Cx, ∃ e : Int, phasor_Turn.f z k = some (r, e) ∧ pylonref02_Turn.f z k = some (y, e) ∧ ceq r.re r.im y.re y.im = true := by
  by_cases g : Good z
  · obtain ⟨a, b, g⟩ := g
    obtain ⟨m1, m2, m3, m4⟩ := mulp (k := k % 4) g.1.2 g.2.2
    obtain ⟨r, e, r1, r2⟩ := turn_yes bz g k
    exact ⟨r, _, 0, e, rturn_yes g k, ceq_of' r1 r2 (by omega) (by omega)⟩
  · exact ⟨_, _, 5, turn_no bz g k, rturn_no g k, zero_same⟩
end Go.Proofs.YtofedlghaopciaaGreatDoor.PureA
end
section
/- pylonref02.Back, walked by hand. -/
set_option linter.unusedVariables false
set_option linter.unusedSimpArgs false
namespace Go.Proofs.YtofedlghaopciaaGreatDoor.FourW
open Go Go.RowKit Go.Proofs.YtofedlghaopciaaGreatDoor.PA Go.Proofs.YtofedlghaopciaaGreatDoor.Num Go.Proofs.YtofedlghaopciaaGreatDoor.Flt Go.Proofs.YtofedlghaopciaaGreatDoor.PureA Go.Proofs.YtofedlghaopciaaGreatDoorW.PrintWords Go.Proofs.YtofedlghaopciaaGreatDoorW.PrintLast Go.Proofs.YtofedlghaopciaaGreatDoorW.PrintMore
attribute [local go_sem high] fx_eql fx_neq fx_lss fx_leq fx_gtr fx_geq fx_add fx_sub fx_mul fx_neg fx_toint cxx_add cxx_sub cxx_mul cxx_eql cxx_neq cxx_pick st_float st_complex
def refb.T : Bool × List (List Nat × List Nat) := (true, [([], []), ([], []), ([], []), ([], []), ([2, 3], [2, 3]), ([4], [4]), ([1, 5, 5], [1, 5]), ([0, 6, 6], [0, 6]), ([7, 7, 0, 1, 2, 3, 4, 5, 6, 7], [7])])
def refb.B : List Nat := [0, 0, 0, 0, 12, 28, 62, 127, 255]
theorem refb.tab : rtab .any (opsOf Tryz.f32 17) = refb.T := by kernel_rfl
theorem refb.bits : waitsOk refb.T.2 refb.B = true := by kernel_rfl
/-- What the way back gives. -/
def resB (A B : Nat → Int) (j : Nat) : Cx := numZ (wrap64 (Int.tdiv (sR A B 1 j 4) 4)) (wrap64 (Int.tdiv (sI A B 1 j 4) 4))
set_option maxHeartbeats 4000000 in
set_option maxRecDepth 100000 in
theorem rback_range (x : Nat → Cx) (A B : Nat → Int) (w : World) (m : Nat) (hm : m < 4) (hN : ∃ a b, pylonref02_Within.f (x m) 134217728 = some (a, b, false)) (hF : ∀ j, j < m → pylonref02_Within.f (x j) 134217728 = some (A j, B j, true)) :
    Calls Tryz.prog 32 #[.agg (arr x)] w fun e w' => e = .returned (.tuple #[.agg arr0, .int .i64 5]) ∧ Below w.heap.size w w' := by
  have H := Aside0.mk hF
  have HN := Aside0.mk hN
  have HMM := Aside0.mk hm
  clear hF hN hm
  go_enter Tryz.func32, Tryz.ntmps32
  go_wp2
  go_loopg [13] 4 (fun g s13 wx => ∃ n : Nat, n + g = 4 ∧ n ≤ m ∧ s13 = .int .i64 n ∧ Row wx w.heap.size x ∧ Row wx (w.heap.size + 1) zz ∧ Row wx (w.heap.size + 1 + 1) zz ∧ Below w.heap.size w wx)
  case atStart =>
    have h1 := Row.made w x
    have e2 := Row.made (w.alloc (.cells (arr x) 26)) zz
    have e3 := Row.made ((w.alloc (.cells (arr x) 26)).alloc (.cells arr0 26)) zz
    simp only [World.size_alloc] at e2 e3
    exact ⟨0, rfl, Nat.zero_le _, rfl, (h1.alloc _).alloc _, e2.alloc _, e3, (((Below.refl _ _).alloc (Nat.le_refl _) _).alloc (by simp) _).alloc (by simp; omega) _⟩
  case round =>
    obtain ⟨n, hn, hnm, rfl, hrx, hrz, hro, hb0⟩ := hrel
    have JX := Aside0.mk hrx
    have JZ := Aside0.mk hrz
    have JO := Aside0.mk hro
    have JB := Aside0.mk hb0
    have JS := Aside0.mk hb0.size
    clear hrx hrz hro hb0
    cases gk with
    | zero => have := HMM.out; omega
    | succ g =>
      have hltn : n < 4 := by omega
      by_cases hlm : n < m
      · have HL := Aside0.mk (show n + 1 ≤ m by omega)
        have HLM := Aside0.mk hlm
        clear hnm hlm
        have h0n : (0 : Int) ≤ (n : Int) := by omega
        have HK := Aside0.mk (show n + 1 + g = 4 by omega)
        have cx0 := JX.out.1 n hltn
        go_wp2_with (fail)
        (with_reducible refine (pylonref02_Within.calls (x n) 134217728 (A n) (B n) true _ (H.out n HLM.out)).mono ?_)
        rintro e w1 ⟨rfl, hb⟩
        clear cx0
        have KX := Aside0.mk ((JX.out.below hb).alloc (.cells #[.int .i64 (A n), .int .i64 (B n)] 59))
        have KZ := Aside0.mk ((JZ.out.below hb).alloc (.cells #[.int .i64 (A n), .int .i64 (B n)] 59))
        have KO := Aside0.mk ((JO.out.below hb).alloc (.cells #[.int .i64 (A n), .int .i64 (B n)] 59))
        have KB := Aside0.mk ((JB.out.trans (hb.mono JS.out)).alloc (Nat.le_trans JS.out hb.size) (.cells #[.int .i64 (A n), .int .i64 (B n)] 59))
        clear hb
        go_wp2
        go_roundg g
        case measure => omega
        case rel => exact ⟨n + 1, HK.out, HL.out, by go_num, KX.out, KZ.out, KO.out, KB.out⟩
      · obtain rfl : n = m := by omega
        have h0n : (0 : Int) ≤ (n : Int) := by omega
        obtain ⟨a, b, hab⟩ := HN.out
        have cx0 := JX.out.1 n hltn
        clear hnm hlm
        go_wp2_with (fail)
        (with_reducible refine (pylonref02_Within.calls (x n) 134217728 a b false _ hab).mono ?_)
        rintro e w1 ⟨rfl, hb⟩
        clear cx0
        have KB := Aside0.mk (JB.out.trans (hb.mono JS.out))
        have KS := Aside0.mk (Nat.le_trans JS.out hb.size)
        have czr := (JZ.out.below hb)
        have cz0 := czr.1 0 (by decide)
        have cz1 := czr.1 1 (by decide)
        have cz2 := czr.1 2 (by decide)
        have cz3 := czr.1 3 (by decide)
        have czf := czr.2.1
        have czz := czr.2.2
        clear czr
        clear hb
        go_wp2
        obtain ⟨e0, e1, e2, e3⟩ := four_sets w1 (w.heap.size + 1) (.complex .f64 0 0) (.complex .f64 0 0) (.complex .f64 0 0) (.complex .f64 0 0) cz0 cz1 cz2 cz3
        have u0 := fun (o : Obj) => (World.cell?_alloc_past o _ 0 (by simpa using czz)).trans e0
        have u1 := fun (o : Obj) => (World.cell?_alloc_past o _ 1 (by simpa using czz)).trans e1
        have u2 := fun (o : Obj) => (World.cell?_alloc_past o _ 2 (by simpa using czz)).trans e2
        have u3 := fun (o : Obj) => (World.cell?_alloc_past o _ 3 (by simpa using czz)).trans e3
        refine bodyPost_ret (v := .tuple #[.agg arr0, .int .i64 5]) ?_ rfl ⟨rfl, ?_⟩
        · simp [results, Tryz.results32, go_sem, u0, u1, u2, u3]
        · exact ((((KB.out.setCell (by simp) _).setCell (by simp) _).setCell (by simp) _).setCell (by simp) _).alloc (by simpa using KS.out) _
set_option maxHeartbeats 4000000 in
set_option maxRecDepth 100000 in
theorem rback_yes (x : Nat → Cx) (A B : Nat → Int) (w : World) (hF : ∀ j, j < 4 → pylonref02_Within.f (x j) 134217728 = some (A j, B j, true)) (hM : ∀ j, j < 4 → (A j).natAbs ≤ 134217728 ∧ (B j).natAbs ≤ 134217728)
    (hT : ∀ j, j < 4 → Int.tmod (sR A B 1 j 4) 4 = 0 ∧ Int.tmod (sI A B 1 j 4) 4 = 0) :
    Calls Tryz.prog 32 #[.agg (arr x)] w fun e w' => e = .returned (.tuple #[.agg (arr (resB A B)), .int .i64 0]) ∧ Below w.heap.size w w' := by
  have H := Aside0.mk hF
  have HM := Aside0.mk hM
  have HT := Aside0.mk hT
  clear hF hM hT
  go_enter Tryz.func32, Tryz.ntmps32
  go_wp2
  go_loopg [13] 4 (fun g s13 wx => ∃ n : Nat, n + g = 4 ∧ s13 = .int .i64 n ∧ Row wx w.heap.size x ∧ Row wx (w.heap.size + 1) zz ∧ Row wx (w.heap.size + 1 + 1) zz ∧ Below w.heap.size w wx)
  case atStart =>
    have h1 := Row.made w x
    have e2 := Row.made (w.alloc (.cells (arr x) 26)) zz
    have e3 := Row.made ((w.alloc (.cells (arr x) 26)).alloc (.cells arr0 26)) zz
    simp only [World.size_alloc] at e2 e3
    exact ⟨0, rfl, rfl, (h1.alloc _).alloc _, e2.alloc _, e3, (((Below.refl _ _).alloc (Nat.le_refl _) _).alloc (by simp) _).alloc (by simp; omega) _⟩
  case round =>
    obtain ⟨n, hn, rfl, hrx, hrz, hro, hb0⟩ := hrel
    have JX := Aside0.mk hrx
    have JZ := Aside0.mk hrz
    have JO := Aside0.mk hro
    have JB := Aside0.mk hb0
    have JS := Aside0.mk hb0.size
    clear hrx hrz hro hb0
    cases gk with
    | succ g =>
      have hltn : n < 4 := by omega
      have h0n : (0 : Int) ≤ (n : Int) := by omega
      have HK := Aside0.mk (show n + 1 + g = 4 by omega)
      have cx0 := JX.out.1 n hltn
      go_wp2_with (fail)
      (with_reducible refine (pylonref02_Within.calls (x n) 134217728 (A n) (B n) true _ (H.out n hltn)).mono ?_)
      rintro e w1 ⟨rfl, hb⟩
      clear cx0
      have KX := Aside0.mk ((JX.out.below hb).alloc (.cells #[.int .i64 (A n), .int .i64 (B n)] 59))
      have KZ := Aside0.mk ((JZ.out.below hb).alloc (.cells #[.int .i64 (A n), .int .i64 (B n)] 59))
      have KO := Aside0.mk ((JO.out.below hb).alloc (.cells #[.int .i64 (A n), .int .i64 (B n)] 59))
      have KB := Aside0.mk ((JB.out.trans (hb.mono JS.out)).alloc (Nat.le_trans JS.out hb.size) (.cells #[.int .i64 (A n), .int .i64 (B n)] 59))
      clear hb
      go_wp2
      go_roundg g
      case measure => omega
      case rel => exact ⟨n + 1, HK.out, by go_num, KX.out, KZ.out, KO.out, KB.out⟩
    | zero =>
      obtain rfl : n = 4 := by omega
      go_wp2
      go_loopg [27] 4 (fun g s27 wx => ∃ k : Nat, k + g = 4 ∧ s27 = .int .i64 k ∧ Row wx w.heap.size x ∧ Row wx (w.heap.size + 1) zz ∧ Row wx (w.heap.size + 1 + 1) (mid zz (resB A B) k) ∧ Below w.heap.size w wx)
      case atStart => exact ⟨0, rfl, rfl, JX.out, JZ.out, JO.out.congr (fun j _ => by unfold mid; rw [if_neg (by omega)]), JB.out⟩
      case round =>
       obtain ⟨k, hk, rfl, hrx, hrz, hro, hb0⟩ := hrel
       obtain ⟨wo, rfl⟩ : ∃ wo : World, wo = wr := ⟨_, rfl⟩
       have HX := Aside0.mk hrx
       have HZR := Aside0.mk hrz
       have HO := Aside0.mk hro
       have HB := Aside0.mk hb0
       clear hrx hrz hro hb0 JX JZ JO JB JS
       cases gk with
       | zero =>
        obtain rfl : k = 4 := by omega
        have HO4 : Aside0 (Row wo (w.heap.size + 1 + 1) (resB A B)) := Aside0.mk (HO.out.congr (fun j hj => by unfold mid; rw [if_pos hj]))
        have cor := HO4.out
        have co0 := cor.1 0 (by decide)
        have co1 := cor.1 1 (by decide)
        have co2 := cor.1 2 (by decide)
        have co3 := cor.1 3 (by decide)
        have cof := cor.2.1
        have coz := cor.2.2
        clear cor
        have czr := HZR.out
        have cz0 := czr.1 0 (by decide)
        have cz1 := czr.1 1 (by decide)
        have cz2 := czr.1 2 (by decide)
        have cz3 := czr.1 3 (by decide)
        have czf := czr.2.1
        have czz := czr.2.2
        clear czr
        go_wp2
        obtain ⟨e0, e1, e2, e3⟩ := four_sets wo (w.heap.size + 1) (.complex .f64 ((resB A B) 0).re ((resB A B) 0).im) (.complex .f64 ((resB A B) 1).re ((resB A B) 1).im) (.complex .f64 ((resB A B) 2).re ((resB A B) 2).im) (.complex .f64 ((resB A B) 3).re ((resB A B) 3).im) cz0 cz1 cz2 cz3
        refine bodyPost_ret (v := .tuple #[.agg (arr (resB A B)), .int .i64 0]) ?_ rfl ⟨rfl, ?_⟩
        · simp [results, Tryz.results32, go_sem, e0, e1, e2, e3]
        · exact ((((HB.out.setCell (by simp) _).setCell (by simp) _).setCell (by simp) _).setCell (by simp) _)
       | succ g =>
        have hltk : k < 4 := by omega
        have h0k : (0 : Int) ≤ (k : Int) := by omega
        have hdk : decide ((k : Int) < 4) = true := decide_eq_true (by omega)
        have HK := Aside0.mk (show k + 1 + g = 4 by omega)
        go_wp2
        go_loopg [31] 4 (fun g2 s31 wx => ∃ n : Nat, n + g2 = 4 ∧ s31 = .int .i64 n ∧ Row wx w.heap.size x ∧ Row wx (w.heap.size + 1) zz ∧ Row wx (w.heap.size + 1 + 1) (mid zz (resB A B) k) ∧ Below w.heap.size w wx ∧ Two wx wo.heap.size (sR A B 1 k n) (sI A B 1 k n))
        case atStart =>
          have h1 := Two.made wo 0 0 59
          exact ⟨0, rfl, rfl, HX.out.alloc _, HZR.out.alloc _, HO.out.alloc _, HB.out.alloc HB.out.size _, h1⟩
        case round =>
          obtain ⟨n, hn, rfl, hrx, hrz, hro, hb0, htw⟩ := hrel
          have JX := Aside0.mk hrx
          have JZ := Aside0.mk hrz
          have JO := Aside0.mk hro
          have JB := Aside0.mk hb0
          have JT := Aside0.mk htw
          have JS := Aside0.mk hb0.size
          have HC0 := Aside0.mk (show w.heap.size + 1 + 1 < wo.heap.size from HO.out.2.2)
          clear hrx hrz hro hb0 htw
          cases gk with
          | zero =>
            obtain rfl : n = 4 := by omega
            have t0 := JT.out.1
            have t1 := JT.out.2.1
            obtain ⟨ht1, ht2⟩ := HT.out k hltk
            obtain ⟨sa, hsa⟩ : ∃ sa, sa = sR A B 1 k 4 := ⟨_, rfl⟩
            obtain ⟨sb, hsb⟩ : ∃ sb, sb = sI A B 1 k 4 := ⟨_, rfl⟩
            rw [← hsa] at t0 ht1
            rw [← hsb] at t1 ht2
            have HSA := Aside0.mk hsa
            have HSB := Aside0.mk hsb
            clear hsa hsb
            go_wp2_with (fail)
            (with_reducible refine (pylonref02_Made.calls (wrap64 (Int.tdiv sa 4)) (wrap64 (Int.tdiv sb 4)) (numZ (wrap64 (Int.tdiv sa 4)) (wrap64 (Int.tdiv sb 4))) _ rfl).mono ?_)
            rintro e w1 ⟨rfl, hb⟩
            have GO := Aside0.mk (fun W (h : Row W (w.heap.size + 1 + 1) (mid zz (resB A B) k)) => (h.here k hltk (numZ (wrap64 (Int.tdiv sa 4)) (wrap64 (Int.tdiv sb 4)))).congr (g := mid zz (resB A B) (k + 1)) (fun j _ => by rw [← mid_step zz (resB A B) k j, HSA.out, HSB.out]; rfl))
            have KX := Aside0.mk (JX.out.below hb)
            have KZ := Aside0.mk (JZ.out.below hb)
            have KO := Aside0.mk (JO.out.below hb)
            have KB := Aside0.mk (JB.out.trans (hb.mono JS.out))
            have c0 := KO.out.1 k hltk
            have cf := KO.out.2.1
            clear hb t0 t1 ht1 ht2
            go_wp2
            go_roundg g
            case measure => omega
            case rel =>
              exact ⟨k + 1, HK.out, by go_num, KX.out.away _ _ (by omega), KZ.out.away _ _ (by omega), GO.out _ KO.out, KB.out.setCell (by simp; omega) _⟩
          | succ g2 =>
            have hltn : n < 4 := by omega
            have h0n : (0 : Int) ≤ (n : Int) := by omega
            have HK2 := Aside0.mk (show n + 1 + g2 = 4 by omega)
            have cx0 := JX.out.1 n hltn
            go_wp2_with (fail)
            (with_reducible refine (pylonref02_Within.calls (x n) 134217728 (A n) (B n) true _ (H.out n hltn)).mono ?_)
            rintro e w1 ⟨rfl, hb⟩
            clear cx0
            have KX := Aside0.mk ((JX.out.below hb).alloc (.cells #[.int .i64 (A n), .int .i64 (B n)] 59))
            have KZ := Aside0.mk ((JZ.out.below hb).alloc (.cells #[.int .i64 (A n), .int .i64 (B n)] 59))
            have KO := Aside0.mk ((JO.out.below hb).alloc (.cells #[.int .i64 (A n), .int .i64 (B n)] 59))
            have KT := Aside0.mk ((JT.out.below hb).alloc (.cells #[.int .i64 (A n), .int .i64 (B n)] 59))
            have KB := Aside0.mk ((JB.out.trans (hb.mono JS.out)).alloc (Nat.le_trans JS.out hb.size) (.cells #[.int .i64 (A n), .int .i64 (B n)] 59))
            have KD := Aside0.mk (Two.made w1 (A n) (B n) 59)
            have HC : Aside0 (∀ W : World, w1.heap.size + 1 ≤ W.heap.size → wo.heap.size < W.heap.size) := Aside0.mk (fun W h => by have := JT.out.2.2.2; have := hb.size; omega)
            have HD : Aside0 (∀ W : World, w1.heap.size + 1 ≤ W.heap.size → w1.heap.size < W.heap.size) := Aside0.mk (fun W h => by omega)
            clear hb
            go_wp2
            refine code_world (fun W => Row W w.heap.size x ∧ Row W (w.heap.size + 1) zz ∧ Row W (w.heap.size + 1 + 1) (mid zz (resB A B) k) ∧ Two W wo.heap.size (sR A B 1 k n) (sI A B 1 k n) ∧ Below w.heap.size w W ∧ Two W w1.heap.size (A n) (B n) ∧ W.heap.size = w1.heap.size + 1) ⟨KX.out, KZ.out, KO.out, KT.out, KB.out, KD.out, by simp⟩ (fun wz hz => ?_)
            obtain ⟨zx, zz0, zo, zt, zb, zd, zs⟩ := hz
            have ZX := Aside0.mk zx
            have ZZ := Aside0.mk zz0
            have ZO := Aside0.mk zo
            have ZT := Aside0.mk zt
            have ZB := Aside0.mk zb
            have ZS := Aside0.mk zs
            have ZD := Aside0.mk zd
            clear zx zz0 zo zt zb zd zs KX KZ KO KT KB KD
            have HV0 : Aside0 (w1.heap.size + 1 ≤ wz.drew.heap.size) := Aside0.mk (by have := ZS.out; show _ ≤ wz.heap.size; omega)
            have hPA : Pairs wo.heap.size w1.heap.size (sR A B 1 k n) (sI A B 1 k n) (A n) (B n) wz.drew := ⟨ZT.out.1, ZT.out.2.1, ZD.out.1, ZD.out.2.1⟩
            have kn := small_kn hltk hltn
            have e1 : (n : Int) * (k : Int) = ((k * n : Nat) : Int) := by rw [Int.natCast_mul, Int.mul_comm]
            have e2 : 1 * (k : Int) * (n : Int) = ((k * n : Nat) : Int) := by rw [Int.natCast_mul, Int.one_mul]
            have kw2 : IntKind.i64.wrap ((n : Int) * (k : Int)) = (n : Int) * (k : Int) := by
              rw [IntKind.wrap_i64, e1]
              omega
            have HPW : Aside0 (pylonref02_power.f ((n : Int) * (k : Int)) = some (wR (1 * (k : Int) * (n : Int) % 4), wI (1 * (k : Int) * (n : Int) % 4))) := Aside0.mk (by
              rw [e1, e2]
              exact power_ok _ (by omega))
            have hAB := HM.out n hltn
            have HTM := Aside0.mk (times_ok (M := 134217728) (by decide) hAB.1 hAB.2 (wR_le (1 * (k : Int) * (n : Int) % 4)) (wI_le (1 * (k : Int) * (n : Int) % 4)))
            have hsb := sR_le (A := A) (B := B) (M := 134217728) HM.out 1 k n (by omega)
            have HPL : Aside0 (pylonref02_plus.f (sR A B 1 k n) (sI A B 1 k n) (A n * wR (1 * (k : Int) * (n : Int) % 4) - B n * wI (1 * (k : Int) * (n : Int) % 4)) (A n * wI (1 * (k : Int) * (n : Int) % 4) + B n * wR (1 * (k : Int) * (n : Int) % 4)) = some (sR A B 1 k (n + 1), sI A B 1 k (n + 1))) := Aside0.mk (plus_bounds hAB.1 hAB.2 (wR_le _) (wI_le _) hsb hltn)
            clear kn hAB hsb h0k h0n e1 e2
            refine start_ (n := 9) (S := Pairs wo.heap.size w1.heap.size (sR A B 1 k n) (sI A B 1 k n) (A n) (B n)) (ds := [8]) #[false, false, false, false, false, false, false, false, false] (by kernel_rfl) rfl rfl (hPA) (fun hHeld => ?_)
            refine with_tabW refb.tab refb.bits (fun HT_ HW_ => ?_)
            refine take_ (i := 0) (N := some 41) (v := ?_) (a' := ?_) #[true, false, false, false, false, false, false, false, false] rfl rfl (take_ofW HT_.out HW_.out (by kernel_rfl)) (fun _ _ _ h => h) (Or.inl ⟨by rfl, ?_⟩) hHeld ?_ ?_
            rotate_left
            · rintro w' ⟨s0, s1, s2, s3⟩
              go_simp
              with_reducible rfl
            rotate_left
            · simp only [Act.put, List.setIfInBounds_toArray, List.set_cons_zero, List.set_cons_succ]
              rfl
            refine take_ (i := 1) (N := some 42) (v := ?_) (a' := ?_) #[true, true, false, false, false, false, false, false, false] rfl rfl (take_ofW HT_.out HW_.out (by kernel_rfl)) (fun _ _ _ h => h) (Or.inl ⟨by rfl, ?_⟩) hHeld ?_ ?_
            rotate_left
            · rintro w' ⟨s0, s1, s2, s3⟩
              go_simp
              with_reducible rfl
            rotate_left
            · simp only [Act.put, List.setIfInBounds_toArray, List.set_cons_zero, List.set_cons_succ]
              rfl
            refine pure_ (i := 2) (N := some 43) (v := ?_) (a' := ?_) #[true, true, true, false, false, false, false, false, false] rfl rfl (any_of HT_.out (by kernel_rfl)) (fun _ _ _ h => h) (Or.inl ⟨by rfl, ?_⟩) ?_ ?_
            rotate_left
            · intro w'
              go_simp
              with_reducible rfl
            rotate_left
            · simp only [Act.put, List.setIfInBounds_toArray, List.set_cons_zero, List.set_cons_succ]
              rfl
            refine pure_ (i := 3) (N := some 44) (v := ?_) (a' := ?_) #[true, true, true, true, false, false, false, false, false] rfl rfl (any_of HT_.out (by kernel_rfl)) (fun _ _ _ h => h) (Or.inl ⟨by rfl, ?_⟩) ?_ ?_
            rotate_left
            · intro w'
              go_simp
              with_reducible rfl
            rotate_left
            · simp only [Act.put, List.setIfInBounds_toArray, List.set_cons_zero, List.set_cons_succ]
              rfl
            refine pure_ (i := 4) (N := some 45) (v := ?_) (a' := ?_) #[true, true, true, true, true, false, false, false, false] rfl rfl (any_of HT_.out (by kernel_rfl)) (fun _ _ _ h => h) (Or.inl ⟨by rfl, ?_⟩) ?_ ?_
            rotate_left
            · intro w'
              go_simp
              with_reducible rfl
            rotate_left
            · simp only [Act.put, List.setIfInBounds_toArray, List.set_cons_zero, List.set_cons_succ]
              rfl
            refine one_ (i := 5) (N := some 46) #[true, true, true, true, true, true, false, false, false] rfl rfl (one_of HT_.out (by kernel_rfl)) (by decide) (fun K hK => ?_)
            refine goes_ Tryz.func51 (by kernel_rfl) rfl _ (by rfl) rfl rfl (by (try simp only [List.map_toArray, List.map_cons, List.map_nil]); rfl) ?_
            refine (pylonref02_power.calls _ _ _ _ HPW.out).mono ?_
            rintro e v1 ⟨rfl, hb⟩
            have HV1 := Aside0.mk (Nat.le_trans HV0.out hb.size)
            have HW1 := Aside0.mk hb
            refine ⟨_, rfl, ?_⟩
            refine hK.out _ _ (Pairs.below hHeld hb (HC.out _ HV0.out) (HD.out _ HV0.out)) (fun hHeld => ?_)
            clear hK K
            refine norm_ (a' := ?_) ?_ ?_
            rotate_left
            · show Act.put _ (some 46) _ = _
              simp only [Act.put, List.setIfInBounds_toArray, List.set_cons_zero, List.set_cons_succ]
              rfl
            refine one_ (i := 6) (N := some 47) #[true, true, true, true, true, true, true, false, false] rfl rfl (one_of HT_.out (by kernel_rfl)) (by decide) (fun K hK => ?_)
            refine goes_ Tryz.func49 (by kernel_rfl) rfl _ (by rfl) rfl rfl (by (try simp only [List.map_toArray, List.map_cons, List.map_nil]); rfl) ?_
            refine (pylonref02_times.calls _ _ _ _ _ _ _ HTM.out).mono ?_
            rintro e v2 ⟨rfl, hb⟩
            have HV2 := Aside0.mk (Nat.le_trans HV1.out hb.size)
            have HW2 := Aside0.mk (HW1.out.trans (hb.mono HW1.out.size))
            refine ⟨_, rfl, ?_⟩
            refine hK.out _ _ (Pairs.below hHeld hb (HC.out _ HV1.out) (HD.out _ HV1.out)) (fun hHeld => ?_)
            clear hK K
            refine norm_ (a' := ?_) ?_ ?_
            rotate_left
            · show Act.put _ (some 47) _ = _
              simp only [Act.put, List.setIfInBounds_toArray, List.set_cons_zero, List.set_cons_succ]
              rfl
            refine one_ (i := 7) (N := some 48) #[true, true, true, true, true, true, true, true, false] rfl rfl (one_of HT_.out (by kernel_rfl)) (by decide) (fun K hK => ?_)
            refine goes_ Tryz.func48 (by kernel_rfl) rfl _ (by rfl) rfl rfl (by (try simp only [List.map_toArray, List.map_cons, List.map_nil]); rfl) ?_
            refine (pylonref02_plus.calls _ _ _ _ _ _ _ HPL.out).mono ?_
            rintro e v3 ⟨rfl, hb⟩
            have HV3 := Aside0.mk (Nat.le_trans HV2.out hb.size)
            have HW3 := Aside0.mk (HW2.out.trans (hb.mono HW2.out.size))
            refine ⟨_, rfl, ?_⟩
            refine hK.out _ _ (Pairs.below hHeld hb (HC.out _ HV2.out) (HD.out _ HV2.out)) (fun hHeld => ?_)
            clear hK K
            refine norm_ (a' := ?_) ?_ ?_
            rotate_left
            · show Act.put _ (some 48) _ = _
              simp only [Act.put, List.setIfInBounds_toArray, List.set_cons_zero, List.set_cons_succ]
              rfl
            refine last_ (i := 8) (N := none) #[true, true, true, true, true, true, true, true, true] rfl rfl (one_of HT_.out (by kernel_rfl)) (by decide) (fun K hK => ?_)
            have hq0 := hHeld.1
            have hq1 := hHeld.2.1
            have hqf := ((ZT.out.draw 1).below HW3.out).2.2.1
            refine skip_ (w1 := ?_) (by rfl) rfl ?_ ?_
            rotate_left
            · go_simp
              rfl
            refine hK.out _ _ ?_
            clear hK K
            refine done_ (by kernel_rfl) ?_
            go_wp2
            go_roundg g2
            case measure => omega
            case rel =>
              have hlo := JT.out.2.2.2
              have hh := HC0.out
              have hw := ZB.out.size
              exact ⟨n + 1, HK2.out, by go_num, (((ZX.out.draw 1).below HW3.out).away _ _ (by omega)).away _ _ (by omega), (((ZZ.out.draw 1).below HW3.out).away _ _ (by omega)).away _ _ (by omega), (((ZO.out.draw 1).below HW3.out).away _ _ (by omega)).away _ _ (by omega), (((pw_below_drewN ZB.out 1).trans (HW3.out.mono hw)).setCell (by simp; omega) _).setCell (by simp; omega) _, ((ZT.out.draw 1).below HW3.out).put _ _⟩
set_option maxHeartbeats 4000000 in
set_option maxRecDepth 100000 in
theorem rback_arg (x : Nat → Cx) (A B : Nat → Int) (w : World) (m : Nat) (hm : m < 4) (hF : ∀ j, j < 4 → pylonref02_Within.f (x j) 134217728 = some (A j, B j, true)) (hM : ∀ j, j < 4 → (A j).natAbs ≤ 134217728 ∧ (B j).natAbs ≤ 134217728)
    (hT : ∀ j, j < m → Int.tmod (sR A B 1 j 4) 4 = 0 ∧ Int.tmod (sI A B 1 j 4) 4 = 0) (hN : ¬ (Int.tmod (sR A B 1 m 4) 4 = 0 ∧ Int.tmod (sI A B 1 m 4) 4 = 0)) :
    Calls Tryz.prog 32 #[.agg (arr x)] w fun e w' => e = .returned (.tuple #[.agg arr0, .int .i64 8]) ∧ Below w.heap.size w w' := by
  have H := Aside0.mk hF
  have HM := Aside0.mk hM
  have HT := Aside0.mk hT
  have HN := Aside0.mk hN
  have HMM := Aside0.mk hm
  clear hF hM hT hN hm
  go_enter Tryz.func32, Tryz.ntmps32
  go_wp2
  go_loopg [13] 4 (fun g s13 wx => ∃ n : Nat, n + g = 4 ∧ s13 = .int .i64 n ∧ Row wx w.heap.size x ∧ Row wx (w.heap.size + 1) zz ∧ Row wx (w.heap.size + 1 + 1) zz ∧ Below w.heap.size w wx)
  case atStart =>
    have h1 := Row.made w x
    have e2 := Row.made (w.alloc (.cells (arr x) 26)) zz
    have e3 := Row.made ((w.alloc (.cells (arr x) 26)).alloc (.cells arr0 26)) zz
    simp only [World.size_alloc] at e2 e3
    exact ⟨0, rfl, rfl, (h1.alloc _).alloc _, e2.alloc _, e3, (((Below.refl _ _).alloc (Nat.le_refl _) _).alloc (by simp) _).alloc (by simp; omega) _⟩
  case round =>
    obtain ⟨n, hn, rfl, hrx, hrz, hro, hb0⟩ := hrel
    have JX := Aside0.mk hrx
    have JZ := Aside0.mk hrz
    have JO := Aside0.mk hro
    have JB := Aside0.mk hb0
    have JS := Aside0.mk hb0.size
    clear hrx hrz hro hb0
    cases gk with
    | succ g =>
      have hltn : n < 4 := by omega
      have h0n : (0 : Int) ≤ (n : Int) := by omega
      have HK := Aside0.mk (show n + 1 + g = 4 by omega)
      have cx0 := JX.out.1 n hltn
      go_wp2_with (fail)
      (with_reducible refine (pylonref02_Within.calls (x n) 134217728 (A n) (B n) true _ (H.out n hltn)).mono ?_)
      rintro e w1 ⟨rfl, hb⟩
      clear cx0
      have KX := Aside0.mk ((JX.out.below hb).alloc (.cells #[.int .i64 (A n), .int .i64 (B n)] 59))
      have KZ := Aside0.mk ((JZ.out.below hb).alloc (.cells #[.int .i64 (A n), .int .i64 (B n)] 59))
      have KO := Aside0.mk ((JO.out.below hb).alloc (.cells #[.int .i64 (A n), .int .i64 (B n)] 59))
      have KB := Aside0.mk ((JB.out.trans (hb.mono JS.out)).alloc (Nat.le_trans JS.out hb.size) (.cells #[.int .i64 (A n), .int .i64 (B n)] 59))
      clear hb
      go_wp2
      go_roundg g
      case measure => omega
      case rel => exact ⟨n + 1, HK.out, by go_num, KX.out, KZ.out, KO.out, KB.out⟩
    | zero =>
      obtain rfl : n = 4 := by omega
      go_wp2
      go_loopg [27] 4 (fun g s27 wx => ∃ k : Nat, k + g = 4 ∧ k ≤ m ∧ s27 = .int .i64 k ∧ Row wx w.heap.size x ∧ Row wx (w.heap.size + 1) zz ∧ Row wx (w.heap.size + 1 + 1) (mid zz (resB A B) k) ∧ Below w.heap.size w wx)
      case atStart => exact ⟨0, rfl, Nat.zero_le _, rfl, JX.out, JZ.out, JO.out.congr (fun j _ => by unfold mid; rw [if_neg (by omega)]), JB.out⟩
      case round =>
       obtain ⟨k, hk, hkm, rfl, hrx, hrz, hro, hb0⟩ := hrel
       have HKM := Aside0.mk hkm
       clear hkm
       obtain ⟨wo, rfl⟩ : ∃ wo : World, wo = wr := ⟨_, rfl⟩
       have HX := Aside0.mk hrx
       have HZR := Aside0.mk hrz
       have HO := Aside0.mk hro
       have HB := Aside0.mk hb0
       clear hrx hrz hro hb0 JX JZ JO JB JS
       cases gk with
       | zero => have := HMM.out; have := HKM.out; omega
       | succ g =>
        have hltk : k < 4 := by omega
        have h0k : (0 : Int) ≤ (k : Int) := by omega
        have hdk : decide ((k : Int) < 4) = true := decide_eq_true (by omega)
        have HK := Aside0.mk (show k + 1 + g = 4 by omega)
        go_wp2
        go_loopg [31] 4 (fun g2 s31 wx => ∃ n : Nat, n + g2 = 4 ∧ s31 = .int .i64 n ∧ Row wx w.heap.size x ∧ Row wx (w.heap.size + 1) zz ∧ Row wx (w.heap.size + 1 + 1) (mid zz (resB A B) k) ∧ Below w.heap.size w wx ∧ Two wx wo.heap.size (sR A B 1 k n) (sI A B 1 k n))
        case atStart =>
          have h1 := Two.made wo 0 0 59
          exact ⟨0, rfl, rfl, HX.out.alloc _, HZR.out.alloc _, HO.out.alloc _, HB.out.alloc HB.out.size _, h1⟩
        case round =>
          obtain ⟨n, hn, rfl, hrx, hrz, hro, hb0, htw⟩ := hrel
          have JX := Aside0.mk hrx
          have JZ := Aside0.mk hrz
          have JO := Aside0.mk hro
          have JB := Aside0.mk hb0
          have JT := Aside0.mk htw
          have JS := Aside0.mk hb0.size
          have HC0 := Aside0.mk (show w.heap.size + 1 + 1 < wo.heap.size from HO.out.2.2)
          clear hrx hrz hro hb0 htw
          cases gk with
          | zero =>
            obtain rfl : n = 4 := by omega
            have t0 := JT.out.1
            have t1 := JT.out.2.1
            by_cases hlm : k < m
            · obtain ⟨ht1, ht2⟩ := HT.out k hlm
              have HL := Aside0.mk (show k + 1 ≤ m by omega)
              clear hlm
              obtain ⟨sa, hsa⟩ : ∃ sa, sa = sR A B 1 k 4 := ⟨_, rfl⟩
              obtain ⟨sb, hsb⟩ : ∃ sb, sb = sI A B 1 k 4 := ⟨_, rfl⟩
              rw [← hsa] at t0 ht1
              rw [← hsb] at t1 ht2
              have HSA := Aside0.mk hsa
              have HSB := Aside0.mk hsb
              clear hsa hsb
              go_wp2_with (fail)
              (with_reducible refine (pylonref02_Made.calls (wrap64 (Int.tdiv sa 4)) (wrap64 (Int.tdiv sb 4)) (numZ (wrap64 (Int.tdiv sa 4)) (wrap64 (Int.tdiv sb 4))) _ rfl).mono ?_)
              rintro e w1 ⟨rfl, hb⟩
              have GO := Aside0.mk (fun W (h : Row W (w.heap.size + 1 + 1) (mid zz (resB A B) k)) => (h.here k hltk (numZ (wrap64 (Int.tdiv sa 4)) (wrap64 (Int.tdiv sb 4)))).congr (g := mid zz (resB A B) (k + 1)) (fun j _ => by rw [← mid_step zz (resB A B) k j, HSA.out, HSB.out]; rfl))
              have KX := Aside0.mk (JX.out.below hb)
              have KZ := Aside0.mk (JZ.out.below hb)
              have KO := Aside0.mk (JO.out.below hb)
              have KB := Aside0.mk (JB.out.trans (hb.mono JS.out))
              have c0 := KO.out.1 k hltk
              have cf := KO.out.2.1
              clear hb t0 t1 ht1 ht2
              go_wp2
              go_roundg g
              case measure => omega
              case rel =>
                exact ⟨k + 1, HK.out, HL.out, by go_num, KX.out.away _ _ (by omega), KZ.out.away _ _ (by omega), GO.out _ KO.out, KB.out.setCell (by simp; omega) _⟩
            · obtain rfl : k = m := by have := HKM.out; omega
              have hn := HN.out
              obtain ⟨sa, hsa⟩ : ∃ sa, sa = sR A B 1 k 4 := ⟨_, rfl⟩
              obtain ⟨sb, hsb⟩ : ∃ sb, sb = sI A B 1 k 4 := ⟨_, rfl⟩
              rw [← hsa] at t0 hn
              rw [← hsb] at t1 hn
              clear hsa hsb hlm
              by_cases ha : Int.tmod sa 4 = 0
              · have hb : ¬ Int.tmod sb 4 = 0 := fun h => hn ⟨ha, h⟩
                have hbq : (Int.tmod sb 4 == 0) = false := beq_eq_false_iff_ne.2 hb
                have hbq2 : (Int.tmod sb 4 != 0) = true := bne_iff_ne.2 hb
                clear hn hb
                have hcz := JZ.out
                have KB := Aside0.mk JB.out
                have cz0 := hcz.1 0 (by decide)
                have cz1 := hcz.1 1 (by decide)
                have cz2 := hcz.1 2 (by decide)
                have cz3 := hcz.1 3 (by decide)
                have czf := hcz.2.1
                clear hcz
                go_wp2
                obtain ⟨e0, e1, e2, e3⟩ := four_sets wr (w.heap.size + 1) (.complex .f64 0 0) (.complex .f64 0 0) (.complex .f64 0 0) (.complex .f64 0 0) cz0 cz1 cz2 cz3
                refine bodyPost_ret (v := .tuple #[.agg arr0, .int .i64 8]) ?_ rfl ⟨rfl, ?_⟩
                · simp [results, Tryz.results32, go_sem, e0, e1, e2, e3]
                · exact ((((KB.out.setCell (by simp) _).setCell (by simp) _).setCell (by simp) _).setCell (by simp) _)
              · have haq : (Int.tmod sa 4 == 0) = false := beq_eq_false_iff_ne.2 ha
                have haq2 : (Int.tmod sa 4 != 0) = true := bne_iff_ne.2 ha
                clear hn ha
                have hcz := JZ.out
                have KB := Aside0.mk JB.out
                have cz0 := hcz.1 0 (by decide)
                have cz1 := hcz.1 1 (by decide)
                have cz2 := hcz.1 2 (by decide)
                have cz3 := hcz.1 3 (by decide)
                have czf := hcz.2.1
                clear hcz
                go_wp2
                obtain ⟨e0, e1, e2, e3⟩ := four_sets wr (w.heap.size + 1) (.complex .f64 0 0) (.complex .f64 0 0) (.complex .f64 0 0) (.complex .f64 0 0) cz0 cz1 cz2 cz3
                refine bodyPost_ret (v := .tuple #[.agg arr0, .int .i64 8]) ?_ rfl ⟨rfl, ?_⟩
                · simp [results, Tryz.results32, go_sem, e0, e1, e2, e3]
                · exact ((((KB.out.setCell (by simp) _).setCell (by simp) _).setCell (by simp) _).setCell (by simp) _)
          | succ g2 =>
            have hltn : n < 4 := by omega
            have h0n : (0 : Int) ≤ (n : Int) := by omega
            have HK2 := Aside0.mk (show n + 1 + g2 = 4 by omega)
            have cx0 := JX.out.1 n hltn
            go_wp2_with (fail)
            (with_reducible refine (pylonref02_Within.calls (x n) 134217728 (A n) (B n) true _ (H.out n hltn)).mono ?_)
            rintro e w1 ⟨rfl, hb⟩
            clear cx0
            have KX := Aside0.mk ((JX.out.below hb).alloc (.cells #[.int .i64 (A n), .int .i64 (B n)] 59))
            have KZ := Aside0.mk ((JZ.out.below hb).alloc (.cells #[.int .i64 (A n), .int .i64 (B n)] 59))
            have KO := Aside0.mk ((JO.out.below hb).alloc (.cells #[.int .i64 (A n), .int .i64 (B n)] 59))
            have KT := Aside0.mk ((JT.out.below hb).alloc (.cells #[.int .i64 (A n), .int .i64 (B n)] 59))
            have KB := Aside0.mk ((JB.out.trans (hb.mono JS.out)).alloc (Nat.le_trans JS.out hb.size) (.cells #[.int .i64 (A n), .int .i64 (B n)] 59))
            have KD := Aside0.mk (Two.made w1 (A n) (B n) 59)
            have HC : Aside0 (∀ W : World, w1.heap.size + 1 ≤ W.heap.size → wo.heap.size < W.heap.size) := Aside0.mk (fun W h => by have := JT.out.2.2.2; have := hb.size; omega)
            have HD : Aside0 (∀ W : World, w1.heap.size + 1 ≤ W.heap.size → w1.heap.size < W.heap.size) := Aside0.mk (fun W h => by omega)
            clear hb
            go_wp2
            refine code_world (fun W => Row W w.heap.size x ∧ Row W (w.heap.size + 1) zz ∧ Row W (w.heap.size + 1 + 1) (mid zz (resB A B) k) ∧ Two W wo.heap.size (sR A B 1 k n) (sI A B 1 k n) ∧ Below w.heap.size w W ∧ Two W w1.heap.size (A n) (B n) ∧ W.heap.size = w1.heap.size + 1) ⟨KX.out, KZ.out, KO.out, KT.out, KB.out, KD.out, by simp⟩ (fun wz hz => ?_)
            obtain ⟨zx, zz0, zo, zt, zb, zd, zs⟩ := hz
            have ZX := Aside0.mk zx
            have ZZ := Aside0.mk zz0
            have ZO := Aside0.mk zo
            have ZT := Aside0.mk zt
            have ZB := Aside0.mk zb
            have ZS := Aside0.mk zs
            have ZD := Aside0.mk zd
            clear zx zz0 zo zt zb zd zs KX KZ KO KT KB KD
            have HV0 : Aside0 (w1.heap.size + 1 ≤ wz.drew.heap.size) := Aside0.mk (by have := ZS.out; show _ ≤ wz.heap.size; omega)
            have hPA : Pairs wo.heap.size w1.heap.size (sR A B 1 k n) (sI A B 1 k n) (A n) (B n) wz.drew := ⟨ZT.out.1, ZT.out.2.1, ZD.out.1, ZD.out.2.1⟩
            have kn := small_kn hltk hltn
            have e1 : (n : Int) * (k : Int) = ((k * n : Nat) : Int) := by rw [Int.natCast_mul, Int.mul_comm]
            have e2 : 1 * (k : Int) * (n : Int) = ((k * n : Nat) : Int) := by rw [Int.natCast_mul, Int.one_mul]
            have kw2 : IntKind.i64.wrap ((n : Int) * (k : Int)) = (n : Int) * (k : Int) := by
              rw [IntKind.wrap_i64, e1]
              omega
            have HPW : Aside0 (pylonref02_power.f ((n : Int) * (k : Int)) = some (wR (1 * (k : Int) * (n : Int) % 4), wI (1 * (k : Int) * (n : Int) % 4))) := Aside0.mk (by
              rw [e1, e2]
              exact power_ok _ (by omega))
            have hAB := HM.out n hltn
            have HTM := Aside0.mk (times_ok (M := 134217728) (by decide) hAB.1 hAB.2 (wR_le (1 * (k : Int) * (n : Int) % 4)) (wI_le (1 * (k : Int) * (n : Int) % 4)))
            have hsb := sR_le (A := A) (B := B) (M := 134217728) HM.out 1 k n (by omega)
            have HPL : Aside0 (pylonref02_plus.f (sR A B 1 k n) (sI A B 1 k n) (A n * wR (1 * (k : Int) * (n : Int) % 4) - B n * wI (1 * (k : Int) * (n : Int) % 4)) (A n * wI (1 * (k : Int) * (n : Int) % 4) + B n * wR (1 * (k : Int) * (n : Int) % 4)) = some (sR A B 1 k (n + 1), sI A B 1 k (n + 1))) := Aside0.mk (plus_bounds hAB.1 hAB.2 (wR_le _) (wI_le _) hsb hltn)
            clear kn hAB hsb h0k h0n e1 e2
            refine start_ (n := 9) (S := Pairs wo.heap.size w1.heap.size (sR A B 1 k n) (sI A B 1 k n) (A n) (B n)) (ds := [8]) #[false, false, false, false, false, false, false, false, false] (by kernel_rfl) rfl rfl (hPA) (fun hHeld => ?_)
            refine with_tabW refb.tab refb.bits (fun HT_ HW_ => ?_)
            refine take_ (i := 0) (N := some 41) (v := ?_) (a' := ?_) #[true, false, false, false, false, false, false, false, false] rfl rfl (take_ofW HT_.out HW_.out (by kernel_rfl)) (fun _ _ _ h => h) (Or.inl ⟨by rfl, ?_⟩) hHeld ?_ ?_
            rotate_left
            · rintro w' ⟨s0, s1, s2, s3⟩
              go_simp
              with_reducible rfl
            rotate_left
            · simp only [Act.put, List.setIfInBounds_toArray, List.set_cons_zero, List.set_cons_succ]
              rfl
            refine take_ (i := 1) (N := some 42) (v := ?_) (a' := ?_) #[true, true, false, false, false, false, false, false, false] rfl rfl (take_ofW HT_.out HW_.out (by kernel_rfl)) (fun _ _ _ h => h) (Or.inl ⟨by rfl, ?_⟩) hHeld ?_ ?_
            rotate_left
            · rintro w' ⟨s0, s1, s2, s3⟩
              go_simp
              with_reducible rfl
            rotate_left
            · simp only [Act.put, List.setIfInBounds_toArray, List.set_cons_zero, List.set_cons_succ]
              rfl
            refine pure_ (i := 2) (N := some 43) (v := ?_) (a' := ?_) #[true, true, true, false, false, false, false, false, false] rfl rfl (any_of HT_.out (by kernel_rfl)) (fun _ _ _ h => h) (Or.inl ⟨by rfl, ?_⟩) ?_ ?_
            rotate_left
            · intro w'
              go_simp
              with_reducible rfl
            rotate_left
            · simp only [Act.put, List.setIfInBounds_toArray, List.set_cons_zero, List.set_cons_succ]
              rfl
            refine pure_ (i := 3) (N := some 44) (v := ?_) (a' := ?_) #[true, true, true, true, false, false, false, false, false] rfl rfl (any_of HT_.out (by kernel_rfl)) (fun _ _ _ h => h) (Or.inl ⟨by rfl, ?_⟩) ?_ ?_
            rotate_left
            · intro w'
              go_simp
              with_reducible rfl
            rotate_left
            · simp only [Act.put, List.setIfInBounds_toArray, List.set_cons_zero, List.set_cons_succ]
              rfl
            refine pure_ (i := 4) (N := some 45) (v := ?_) (a' := ?_) #[true, true, true, true, true, false, false, false, false] rfl rfl (any_of HT_.out (by kernel_rfl)) (fun _ _ _ h => h) (Or.inl ⟨by rfl, ?_⟩) ?_ ?_
            rotate_left
            · intro w'
              go_simp
              with_reducible rfl
            rotate_left
            · simp only [Act.put, List.setIfInBounds_toArray, List.set_cons_zero, List.set_cons_succ]
              rfl
            refine one_ (i := 5) (N := some 46) #[true, true, true, true, true, true, false, false, false] rfl rfl (one_of HT_.out (by kernel_rfl)) (by decide) (fun K hK => ?_)
            refine goes_ Tryz.func51 (by kernel_rfl) rfl _ (by rfl) rfl rfl (by (try simp only [List.map_toArray, List.map_cons, List.map_nil]); rfl) ?_
            refine (pylonref02_power.calls _ _ _ _ HPW.out).mono ?_
            rintro e v1 ⟨rfl, hb⟩
            have HV1 := Aside0.mk (Nat.le_trans HV0.out hb.size)
            have HW1 := Aside0.mk hb
            refine ⟨_, rfl, ?_⟩
            refine hK.out _ _ (Pairs.below hHeld hb (HC.out _ HV0.out) (HD.out _ HV0.out)) (fun hHeld => ?_)
            clear hK K
            refine norm_ (a' := ?_) ?_ ?_
            rotate_left
            · show Act.put _ (some 46) _ = _
              simp only [Act.put, List.setIfInBounds_toArray, List.set_cons_zero, List.set_cons_succ]
              rfl
            refine one_ (i := 6) (N := some 47) #[true, true, true, true, true, true, true, false, false] rfl rfl (one_of HT_.out (by kernel_rfl)) (by decide) (fun K hK => ?_)
            refine goes_ Tryz.func49 (by kernel_rfl) rfl _ (by rfl) rfl rfl (by (try simp only [List.map_toArray, List.map_cons, List.map_nil]); rfl) ?_
            refine (pylonref02_times.calls _ _ _ _ _ _ _ HTM.out).mono ?_
            rintro e v2 ⟨rfl, hb⟩
            have HV2 := Aside0.mk (Nat.le_trans HV1.out hb.size)
            have HW2 := Aside0.mk (HW1.out.trans (hb.mono HW1.out.size))
            refine ⟨_, rfl, ?_⟩
            refine hK.out _ _ (Pairs.below hHeld hb (HC.out _ HV1.out) (HD.out _ HV1.out)) (fun hHeld => ?_)
            clear hK K
            refine norm_ (a' := ?_) ?_ ?_
            rotate_left
            · show Act.put _ (some 47) _ = _
              simp only [Act.put, List.setIfInBounds_toArray, List.set_cons_zero, List.set_cons_succ]
              rfl
            refine one_ (i := 7) (N := some 48) #[true, true, true, true, true, true, true, true, false] rfl rfl (one_of HT_.out (by kernel_rfl)) (by decide) (fun K hK => ?_)
            refine goes_ Tryz.func48 (by kernel_rfl) rfl _ (by rfl) rfl rfl (by (try simp only [List.map_toArray, List.map_cons, List.map_nil]); rfl) ?_
            refine (pylonref02_plus.calls _ _ _ _ _ _ _ HPL.out).mono ?_
            rintro e v3 ⟨rfl, hb⟩
            have HV3 := Aside0.mk (Nat.le_trans HV2.out hb.size)
            have HW3 := Aside0.mk (HW2.out.trans (hb.mono HW2.out.size))
            refine ⟨_, rfl, ?_⟩
            refine hK.out _ _ (Pairs.below hHeld hb (HC.out _ HV2.out) (HD.out _ HV2.out)) (fun hHeld => ?_)
            clear hK K
            refine norm_ (a' := ?_) ?_ ?_
            rotate_left
            · show Act.put _ (some 48) _ = _
              simp only [Act.put, List.setIfInBounds_toArray, List.set_cons_zero, List.set_cons_succ]
              rfl
            refine last_ (i := 8) (N := none) #[true, true, true, true, true, true, true, true, true] rfl rfl (one_of HT_.out (by kernel_rfl)) (by decide) (fun K hK => ?_)
            have hq0 := hHeld.1
            have hq1 := hHeld.2.1
            have hqf := ((ZT.out.draw 1).below HW3.out).2.2.1
            refine skip_ (w1 := ?_) (by rfl) rfl ?_ ?_
            rotate_left
            · go_simp
              rfl
            refine hK.out _ _ ?_
            clear hK K
            refine done_ (by kernel_rfl) ?_
            go_wp2
            go_roundg g2
            case measure => omega
            case rel =>
              have hlo := JT.out.2.2.2
              have hh := HC0.out
              have hw := ZB.out.size
              exact ⟨n + 1, HK2.out, by go_num, (((ZX.out.draw 1).below HW3.out).away _ _ (by omega)).away _ _ (by omega), (((ZZ.out.draw 1).below HW3.out).away _ _ (by omega)).away _ _ (by omega), (((ZO.out.draw 1).below HW3.out).away _ _ (by omega)).away _ _ (by omega), (((pw_below_drewN ZB.out 1).trans (HW3.out.mono hw)).setCell (by simp; omega) _).setCell (by simp; omega) _, ((ZT.out.draw 1).below HW3.out).put _ _⟩
end Go.Proofs.YtofedlghaopciaaGreatDoor.FourW
end
section
/- Four and Back of both packages as functions of four numbers, over the walks. -/
set_option linter.unusedVariables false
set_option linter.unusedSimpArgs false
namespace Go.Proofs.YtofedlghaopciaaGreatDoor.FourW
open Go Go.RowKit Go.Proofs.YtofedlghaopciaaGreatDoor.PA Go.Proofs.YtofedlghaopciaaGreatDoorW.PrintWords Go.Proofs.YtofedlghaopciaaGreatDoorW.PrintLast Go.Proofs.YtofedlghaopciaaGreatDoorW.PrintMore
/-- The first place below n at which a test says no. -/
def upTo (t : Nat → Option Bool) : Nat → Option (Option Nat)
  | 0 => some none
  | n + 1 => (upTo t n).bind fun o => match o with
    | some m => some (some m)
    | none => (t n).map fun b => if b = true then none else some n
theorem upTo_all {t : Nat → Option Bool} : ∀ {n : Nat}, upTo t n = some none → ∀ j, j < n → t j = some true
  | 0, _, j, hj => absurd hj (Nat.not_lt_zero j)
  | n + 1, h, j, hj => by
    unfold upTo at h
    cases e : upTo t n with
    | none => rw [e] at h; cases h
    | some o =>
      rw [e] at h
      cases o with
      | some m => cases h
      | none =>
        cases f : t n with
        | none => simp [f] at h
        | some b =>
          cases b with
          | false => simp [f] at h
          | true => rcases Nat.lt_or_ge j n with g | g
                    · exact upTo_all e j g
                    · rw [show j = n by omega]; exact f
theorem upTo_at {t : Nat → Option Bool} {m : Nat} : ∀ {n : Nat}, upTo t n = some (some m) → m < n ∧ (∀ j, j < m → t j = some true) ∧ t m = some false
  | 0, h => by cases h
  | n + 1, h => by
    unfold upTo at h
    cases e : upTo t n with
    | none => rw [e] at h; cases h
    | some o =>
      rw [e] at h
      cases o with
      | some k =>
        have hk : k = m := by simpa using h
        subst hk; have i := upTo_at e; exact ⟨by omega, i.2⟩
      | none =>
        cases f : t n with
        | none => simp [f] at h
        | some b =>
          cases b with
          | true => simp [f] at h
          | false => have hn : n = m := by simpa [f] using h
                     subst hn; exact ⟨by omega, upTo_all e, f⟩
/-- Four numbers as a function. -/
def x4 (a b c d : Cx) : Nat → Cx
  | 0 => a | 1 => b | 2 => c | _ => d
theorem x4_arr (a b c d : Cx) : arr (x4 a b c d) = #[.complex .f64 a.re a.im, .complex .f64 b.re b.im, .complex .f64 c.re c.im, .complex .f64 d.re d.im] := rfl
def sumsB (x : Nat → Cx) (s : Int) : Bool := (List.range 4).all fun k => (List.range 4).all fun n => stepOk (part x s k n) (x n) (unitV (s * k * n)) && (phasor_unit.f (s * k * n)).isSome
theorem unit_some {m : Int} (h : (phasor_unit.f m).isSome = true) : phasor_unit.f m = some (unitV m) := by
  unfold unitV; cases e : phasor_unit.f m with
  | none => rw [e] at h; cases h
  | some v => rfl
theorem sumsB_ok {x : Nat → Cx} {s : Int} : sumsB x s = true ↔ sumsOk x s := by
  unfold sumsB sumsOk
  simp only [List.all_eq_true, List.mem_range, Bool.and_eq_true]
  exact ⟨fun h k n hk hn => ⟨(h k hk n hn).1, unit_some (h k hk n hn).2⟩, fun h k hk n hn => ⟨(h k n hk hn).1, by rw [(h k n hk hn).2]; rfl⟩⟩
def all4 (t : Nat → Bool) : Bool := (List.range 4).all t
theorem all4_iff {t : Nat → Bool} : all4 t = true ↔ ∀ j, j < 4 → t j = true := by unfold all4; simp only [List.all_eq_true, List.mem_range]
/-- Four results and a word. -/
def out4 (f : Nat → Cx) (e : Int) : Option (Cx × Cx × Cx × Cx × Int) := some (f 0, f 1, f 2, f 3, e)
theorem out4_of {f : Nat → Cx} {e : Int} {r1 r2 r3 r4 : Cx} {r5 : Int} (h : out4 f e = some (r1, r2, r3, r4, r5)) : #[.complex .f64 r1.re r1.im, .complex .f64 r2.re r2.im, .complex .f64 r3.re r3.im, .complex .f64 r4.re r4.im] = arr f ∧ r5 = e := by
  have g := Option.some.inj h
  injection g with g1 g; injection g with g2 g; injection g with g3 g; injection g with g4 g
  subst g1; subst g2; subst g3; subst g4
  exact ⟨rfl, g.symm⟩
theorem arr_zz : arr zz = arr0 := rfl
/-! ### phasor.Four -/
def fourF (a b c d : Cx) : Option (Cx × Cx × Cx × Cx × Int) :=
  match upTo (fun j => phasor_Fits.f (x4 a b c d j)) 4 with
  | none => none
  | some (some _) => out4 zz 5
  | some none => if sumsB (x4 a b c d) (-1) = true then out4 (fun k => part (x4 a b c d) (-1) k 4) 0 else none
theorem fourF_calls (a b c d r1 r2 r3 r4 : Cx) (r5 : Int) (w : World) (h : fourF a b c d = some (r1, r2, r3, r4, r5)) :
    Calls Tryz.prog 19 #[.agg #[.complex .f64 a.re a.im, .complex .f64 b.re b.im, .complex .f64 c.re c.im, .complex .f64 d.re d.im]] w fun e w' => e = .returned (.tuple #[.agg #[.complex .f64 r1.re r1.im, .complex .f64 r2.re r2.im, .complex .f64 r3.re r3.im, .complex .f64 r4.re r4.im], .int .i64 r5]) ∧ Below w.heap.size w w' := by
  rw [← x4_arr]
  unfold fourF at h
  split at h
  · cases h
  · next m e => obtain ⟨p, q, r⟩ := upTo_at e; obtain ⟨g, rfl⟩ := out4_of h; rw [g, arr_zz]; exact four_no _ w m p q r
  · next e => split at h
              · next s => obtain ⟨g, rfl⟩ := out4_of h; rw [g]; exact four_yes _ w (upTo_all e) (sumsB_ok.1 s)
              · cases h
/-! ### phasor.Back -/
def wholeT (z : Cx) : Option Bool := (phasor_whole.f z.re most4).bind fun p => if p = true then phasor_whole.f z.im most4 else some false
theorem wholeT_yes {z : Cx} (h : wholeT z = some true) : wholeYes z := by
  unfold wholeT at h
  cases e : phasor_whole.f z.re most4 with
  | none => simp [e] at h
  | some p => cases p with
    | false => simp [e] at h
    | true => rw [e, Option.bind_some, if_pos rfl] at h; exact ⟨e, h⟩
theorem wholeT_no {z : Cx} (h : wholeT z = some false) : wholeNo z := by
  unfold wholeT at h
  cases e : phasor_whole.f z.re most4 with
  | none => simp [e] at h
  | some p => cases p with
    | false => exact .inl e
    | true => rw [e, Option.bind_some, if_pos rfl] at h; exact .inr ⟨e, h⟩
def fracT (z : Cx) : Option Bool := (math_Trunc.f z.re).bind fun p => if feq p z.re = true then (math_Trunc.f z.im).map fun q => feq q z.im else some false
theorem fracT_yes {z : Cx} (h : fracT z = some true) : wholeQ z := by
  unfold fracT at h
  cases e : math_Trunc.f z.re with
  | none => simp [e] at h
  | some p =>
    rw [e, Option.bind_some] at h
    split at h
    · next g => cases f : math_Trunc.f z.im with
      | none => simp [f] at h
      | some q => rw [f] at h; exact ⟨p, q, e, g, f, Option.some.inj h⟩
    · cases h
theorem fracT_no {z : Cx} (h : fracT z = some false) : fracQ z := by
  unfold fracT at h
  cases e : math_Trunc.f z.re with
  | none => simp [e] at h
  | some p =>
    rw [e, Option.bind_some] at h
    split at h
    · next g => cases f : math_Trunc.f z.im with
      | none => simp [f] at h
      | some q => rw [f] at h; exact .inr ⟨p, q, e, g, f, Option.some.inj h⟩
    · next g => exact .inl ⟨p, e, by simpa using g⟩
def quoO (x : Nat → Cx) (j : Nat) : Option (Nat × Nat) := cQuoBits (part x 1 j 4).re (part x 1 j 4).im four 0
def quoV (x : Nat → Cx) (j : Nat) : Cx := match quoO x j with
  | some (e, f) => cx e f
  | none => cx 0 0
theorem quo_some {x : Nat → Cx} {j : Nat} (h : (quoO x j).isSome = true) : cQuoBits (part x 1 j 4).re (part x 1 j 4).im four 0 = some ((quoV x j).re, (quoV x j).im) := by
  unfold quoV; unfold quoO at h ⊢
  cases e : cQuoBits (part x 1 j 4).re (part x 1 j 4).im four 0 with
  | none => rw [e] at h; cases h
  | some v => rfl
def backF (a b c d : Cx) : Option (Cx × Cx × Cx × Cx × Int) :=
  match upTo (fun j => wholeT (x4 a b c d j)) 4 with
  | none => none
  | some (some _) => out4 zz 5
  | some none => if (sumsB (x4 a b c d) 1 && all4 fun j => (quoO (x4 a b c d) j).isSome) = true then
      match upTo (fun j => fracT (quoV (x4 a b c d) j)) 4 with
      | none => none
      | some (some _) => out4 zz 8
      | some none => out4 (quoV (x4 a b c d)) 0
    else none
theorem backF_calls (a b c d r1 r2 r3 r4 : Cx) (r5 : Int) (w : World) (h : backF a b c d = some (r1, r2, r3, r4, r5)) :
    Calls Tryz.prog 20 #[.agg #[.complex .f64 a.re a.im, .complex .f64 b.re b.im, .complex .f64 c.re c.im, .complex .f64 d.re d.im]] w fun e w' => e = .returned (.tuple #[.agg #[.complex .f64 r1.re r1.im, .complex .f64 r2.re r2.im, .complex .f64 r3.re r3.im, .complex .f64 r4.re r4.im], .int .i64 r5]) ∧ Below w.heap.size w w' := by
  rw [← x4_arr]
  unfold backF at h
  split at h
  · cases h
  · next m e => obtain ⟨p, q, r⟩ := upTo_at e; obtain ⟨g, rfl⟩ := out4_of h; rw [g, arr_zz]; exact back_range _ w m p (fun j hj => wholeT_yes (q j hj)) (wholeT_no r)
  · next e =>
    split at h
    · next s =>
      obtain ⟨s1, s2⟩ := Bool.and_eq_true_iff.1 s
      have hq := fun j (hj : j < 4) => quo_some (all4_iff.1 s2 j hj)
      have hw := fun j (hj : j < 4) => wholeT_yes (upTo_all e j hj)
      split at h
      · cases h
      · next m e2 => obtain ⟨p, q, r⟩ := upTo_at e2; obtain ⟨g, rfl⟩ := out4_of h; rw [g, arr_zz]; exact back_arg _ _ w m p hw (sumsB_ok.1 s1) hq (fun j hj => fracT_yes (q j hj)) (fracT_no r)
      · next e2 => obtain ⟨g, rfl⟩ := out4_of h; rw [g]; exact back_yes _ _ w hw (sumsB_ok.1 s1) hq fun j hj => fracT_yes (upTo_all e2 j hj)
    · cases h
/-! ### pylonref02.Four -/
def keptR (o : Option (Int × Int × Bool)) : Int := match o with
  | some (a, _, true) => a
  | _ => 0
def keptI (o : Option (Int × Int × Bool)) : Int := match o with
  | some (_, b, true) => b
  | _ => 0
def okB (o : Option (Int × Int × Bool)) : Option Bool := o.map fun r => r.2.2
theorem okB_yes {o : Option (Int × Int × Bool)} (h : okB o = some true) : o = some (keptR o, keptI o, true) := by
  rcases o with _ | ⟨a, b, p⟩
  · cases h
  · have hp : p = true := Option.some.inj h
    subst hp; rfl
theorem okB_no {o : Option (Int × Int × Bool)} (h : okB o = some false) : ∃ a b, o = some (a, b, false) := by
  rcases o with _ | ⟨a, b, p⟩
  · cases h
  · have hp : p = false := Option.some.inj h
    subst hp; exact ⟨a, b, rfl⟩
def small4 (A B : Nat → Int) : Bool := all4 fun j => decide ((A j).natAbs ≤ 134217728) && decide ((B j).natAbs ≤ 134217728)
theorem small4_ok {A B : Nat → Int} : small4 A B = true ↔ ∀ j, j < 4 → (A j).natAbs ≤ 134217728 ∧ (B j).natAbs ≤ 134217728 := by
  unfold small4; simp only [all4_iff, Bool.and_eq_true, decide_eq_true_eq]
abbrev fitR (a b c d : Cx) (j : Nat) : Int := keptR (pylonref02_Fits.f (x4 a b c d j))
abbrev fitI (a b c d : Cx) (j : Nat) : Int := keptI (pylonref02_Fits.f (x4 a b c d j))
def rfourF (a b c d : Cx) : Option (Cx × Cx × Cx × Cx × Int) :=
  if small4 (fitR a b c d) (fitI a b c d) = true then
    match upTo (fun j => okB (pylonref02_Fits.f (x4 a b c d j))) 4 with
    | none => none
    | some (some _) => out4 zz 5
    | some none => out4 (fun k => numZ (sR (fitR a b c d) (fitI a b c d) (-1) k 4) (sI (fitR a b c d) (fitI a b c d) (-1) k 4)) 0
  else none
theorem rfourF_calls (a b c d r1 r2 r3 r4 : Cx) (r5 : Int) (w : World) (h : rfourF a b c d = some (r1, r2, r3, r4, r5)) :
    Calls Tryz.prog 31 #[.agg #[.complex .f64 a.re a.im, .complex .f64 b.re b.im, .complex .f64 c.re c.im, .complex .f64 d.re d.im]] w fun e w' => e = .returned (.tuple #[.agg #[.complex .f64 r1.re r1.im, .complex .f64 r2.re r2.im, .complex .f64 r3.re r3.im, .complex .f64 r4.re r4.im], .int .i64 r5]) ∧ Below w.heap.size w w' := by
  rw [← x4_arr]
  unfold rfourF at h
  split at h
  · next s =>
    split at h
    · cases h
    · next m e => obtain ⟨p, q, r⟩ := upTo_at e; obtain ⟨g, rfl⟩ := out4_of h; rw [g, arr_zz]; exact rfour_no _ (fitR a b c d) (fitI a b c d) w m p (okB_no r) (fun j hj => okB_yes (q j hj)) (small4_ok.1 s)
    · next e => obtain ⟨g, rfl⟩ := out4_of h; rw [g]; exact rfour_yes _ (fitR a b c d) (fitI a b c d) w (fun j hj => okB_yes (upTo_all e j hj)) (small4_ok.1 s)
  · cases h
/-! ### pylonref02.Back -/
abbrev inR (a b c d : Cx) (j : Nat) : Int := keptR (pylonref02_Within.f (x4 a b c d j) 134217728)
abbrev inI (a b c d : Cx) (j : Nat) : Int := keptI (pylonref02_Within.f (x4 a b c d j) 134217728)
def divs4 (A B : Nat → Int) (j : Nat) : Option Bool := some (decide (Int.tmod (sR A B 1 j 4) 4 = 0) && decide (Int.tmod (sI A B 1 j 4) 4 = 0))
theorem divs4_yes {A B : Nat → Int} {j : Nat} (h : divs4 A B j = some true) : Int.tmod (sR A B 1 j 4) 4 = 0 ∧ Int.tmod (sI A B 1 j 4) 4 = 0 := by
  have g := Option.some.inj h
  simpa only [Bool.and_eq_true, decide_eq_true_eq] using g
theorem divs4_no {A B : Nat → Int} {j : Nat} (h : divs4 A B j = some false) : ¬ (Int.tmod (sR A B 1 j 4) 4 = 0 ∧ Int.tmod (sI A B 1 j 4) 4 = 0) := by
  intro ⟨p, q⟩
  have g := Option.some.inj h
  rw [decide_eq_true p, decide_eq_true q] at g; cases g
def rbackF (a b c d : Cx) : Option (Cx × Cx × Cx × Cx × Int) :=
  if small4 (inR a b c d) (inI a b c d) = true then
    match upTo (fun j => okB (pylonref02_Within.f (x4 a b c d j) 134217728)) 4 with
    | none => none
    | some (some _) => out4 zz 5
    | some none =>
      match upTo (divs4 (inR a b c d) (inI a b c d)) 4 with
      | none => none
      | some (some _) => out4 zz 8
      | some none => out4 (resB (inR a b c d) (inI a b c d)) 0
  else none
theorem rbackF_calls (a b c d r1 r2 r3 r4 : Cx) (r5 : Int) (w : World) (h : rbackF a b c d = some (r1, r2, r3, r4, r5)) :
    Calls Tryz.prog 32 #[.agg #[.complex .f64 a.re a.im, .complex .f64 b.re b.im, .complex .f64 c.re c.im, .complex .f64 d.re d.im]] w fun e w' => e = .returned (.tuple #[.agg #[.complex .f64 r1.re r1.im, .complex .f64 r2.re r2.im, .complex .f64 r3.re r3.im, .complex .f64 r4.re r4.im], .int .i64 r5]) ∧ Below w.heap.size w w' := by
  rw [← x4_arr]
  unfold rbackF at h
  split at h
  · next s =>
    split at h
    · cases h
    · next m e => obtain ⟨p, q, r⟩ := upTo_at e; obtain ⟨g, rfl⟩ := out4_of h; rw [g, arr_zz]; exact rback_range _ (inR a b c d) (inI a b c d) w m p (okB_no r) (fun j hj => okB_yes (q j hj))
    · next e =>
      have hF := fun j (hj : j < 4) => okB_yes (upTo_all e j hj)
      split at h
      · cases h
      · next m e2 => obtain ⟨p, q, r⟩ := upTo_at e2; obtain ⟨g, rfl⟩ := out4_of h; rw [g, arr_zz]; exact rback_arg _ (inR a b c d) (inI a b c d) w m p hF (small4_ok.1 s) (fun j hj => divs4_yes (q j hj)) (divs4_no r)
      · next e2 => obtain ⟨g, rfl⟩ := out4_of h; rw [g]; exact rback_yes _ (inR a b c d) (inI a b c d) w hF (small4_ok.1 s) fun j hj => divs4_yes (upTo_all e2 j hj)
  · cases h
end Go.Proofs.YtofedlghaopciaaGreatDoor.FourW
end
section
/- PhasorAll: Four and Back, both sides: the same numbers and the same word. -/
set_option linter.unusedVariables false
set_option linter.unusedSimpArgs false
namespace Go.Proofs.YtofedlghaopciaaGreatDoor.PureA
open Go.RowKit Go.Proofs.YtofedlghaopciaaGreatDoor.PA Go.Proofs.YtofedlghaopciaaGreatDoor.Num Go.Proofs.YtofedlghaopciaaGreatDoor.Flt Go.Proofs.YtofedlghaopciaaGreatDoor.FourW Go.Proofs.YtofedlghaopciaaGreatDoorW.PrintWords Go.Proofs.YtofedlghaopciaaGreatDoorW.PrintLast Go.Proofs.YtofedlghaopciaaGreatDoorW.PrintMore
def Same4 (o p : Option (Cx × Cx × Cx × Cx × Int)) : Prop := ∃ f g : Nat → Cx, ∃ e : Int, o = out4 f e ∧ p = out4 g e ∧ ∀ j, j < 4 → ceq (f j).re (f j).im (g j).re (g j).im = true
theorem same_no (e : Int) : Same4 (out4 zz e) (out4 zz e) := ⟨zz, zz, e, rfl, rfl, fun j hj => by rw [ceq_is is_zero is_zero is_zero is_zero]; rfl⟩
theorem upTo_congr {t s : Nat → Option Bool} : ∀ {n : Nat}, (∀ j, j < n → t j = s j) → upTo t n = upTo s n
  | 0, _ => rfl
  | n + 1, h => by unfold upTo; rw [upTo_congr (t := t) (s := s) fun j hj => h j (by omega), h n (by omega)]
theorem upTo_some {t : Nat → Option Bool} : ∀ {n : Nat}, (∀ j, j < n → ∃ b, t j = some b) → ∃ o, upTo t n = some o
  | 0, _ => ⟨none, rfl⟩
  | n + 1, h => by
    obtain ⟨o, e⟩ := upTo_some (t := t) (n := n) fun j hj => h j (by omega)
    obtain ⟨b, f⟩ := h n (by omega)
    unfold upTo
    rw [e, Option.bind_some, f]
    cases o with
    | some m => exact ⟨_, rfl⟩
    | none => exact ⟨_, rfl⟩
theorem ceq_of {x y : Cx} {A B : Int} (h1 : Is x.re A) (h2 : Is x.im B) (h3 : Is y.re A) (h4 : Is y.im B) : ceq x.re x.im y.re y.im = true := by
  rw [ceq_is h1 h2 h3 h4, decide_eq_true rfl, decide_eq_true rfl]; rfl
/-! ### Four -/
theorem fit_at {a b c d : Cx} {j : Nat} (h : Good (x4 a b c d j)) : Small (x4 a b c d j) (fitR a b c d j) (fitI a b c d j) := by
  unfold fitR fitI
  rw [rfits_yes h.small]
  exact h.small
theorem fit_small (a b c d : Cx) : small4 (fitR a b c d) (fitI a b c d) = true := by
  rw [small4_ok]
  intro j _
  by_cases g : Good (x4 a b c d j)
  · have := fit_at g
    exact ⟨by have := this.1.2; omega, by have := this.2.2; omega⟩
  · obtain ⟨p, q, e⟩ := rfits_no g
    unfold fitR fitI
    rw [e]
    exact ⟨Nat.zero_le _, Nat.zero_le _⟩
theorem fits_tests {a b c d : Cx} (hb : ∀ j, Bits (x4 a b c d j)) (j : Nat) : ∃ p, phasor_Fits.f (x4 a b c d j) = some p ∧ okB (pylonref02_Fits.f (x4 a b c d j)) = some p ∧ (p = true → Good (x4 a b c d j)) := by
  by_cases g : Good (x4 a b c d j)
  · refine ⟨true, fits_yes (hb j) g.small, ?_, fun _ => g⟩
    rw [rfits_yes g.small]; rfl
  · obtain ⟨p, q, e⟩ := rfits_no g
    refine ⟨false, fits_no (hb j) g, ?_, fun h => by cases h⟩
    rw [e]; rfl
theorem fours_same {a b c d : Cx} (hb : ∀ j, Bits (x4 a b c d j)) : Same4 (fourF a b c d) (rfourF a b c d) := by
  have ht : upTo (fun j => okB (pylonref02_Fits.f (x4 a b c d j))) 4 = upTo (fun j => phasor_Fits.f (x4 a b c d j)) 4 := upTo_congr fun j _ => by
    obtain ⟨p, e1, e2, _⟩ := fits_tests hb j
    rw [e1, e2]
  obtain ⟨o, e⟩ := upTo_some (t := fun j => phasor_Fits.f (x4 a b c d j)) (n := 4) fun j _ => by
    obtain ⟨p, e1, _⟩ := fits_tests hb j
    exact ⟨p, e1⟩
  unfold fourF rfourF
  rw [if_pos (fit_small a b c d), ht, e]
  cases o with
  | some m => exact same_no 5
  | none =>
    have hw : Whole (x4 a b c d) (fitR a b c d) (fitI a b c d) 33554432 := fun j hj => by
      obtain ⟨p, e1, _, g⟩ := fits_tests hb j
      have hp : p = true := Option.some.inj (e1.symm.trans (upTo_all e j hj))
      exact fit_at (g hp)
    have hs := sums_ok hw (by decide) (-1)
    simp only [if_pos (sumsB_ok.2 hs)]
    refine ⟨_, _, 0, rfl, rfl, fun j hj => ?_⟩
    obtain ⟨p1, p2, p3, p4⟩ := part_is hw (by decide) (-1) j 4 (by decide)
    exact ceq_of p1 p2 (of_int (by omega)) (of_int (by omega))
/-! ### Back -/
theorem is_most4' : Is most4 ((134217728 : Nat) : Int) := is_const (by decide) (by decide +kernel)
theorem wholeT_in {z : Cx} {A B : Int} (hb : Bits z) (h : In 134217728 z A B) : wholeT z = some true := by
  unfold wholeT
  rw [whole_yes hb.1 (by decide) is_most4' h.1.1 h.1.2, Option.bind_some, if_pos rfl, whole_yes hb.2 (by decide) is_most4' h.2.1 h.2.2]
theorem wholeT_out {z : Cx} (hb : Bits z) (h : ¬ ∃ A B, In 134217728 z A B) : wholeT z = some false := by
  unfold wholeT
  by_cases g : ∃ n, Is z.re n ∧ n.natAbs ≤ 134217728
  · obtain ⟨n, n1, n2⟩ := g
    rw [whole_yes hb.1 (by decide) is_most4' n1 n2, Option.bind_some, if_pos rfl, whole_no hb.2 (by decide) is_most4' fun ⟨m, m1, m2⟩ => h ⟨n, m, ⟨n1, n2⟩, m1, m2⟩]
  · rw [whole_no hb.1 (by decide) is_most4' g]; rfl
theorem in_at {a b c d : Cx} {j : Nat} {A B : Int} (h : In 134217728 (x4 a b c d j) A B) : In 134217728 (x4 a b c d j) (inR a b c d j) (inI a b c d j) := by
  unfold inR inI
  rw [within_yes (M := 134217728) (by decide) (by decide) h]
  exact h
theorem in_small (a b c d : Cx) : small4 (inR a b c d) (inI a b c d) = true := by
  rw [small4_ok]
  intro j _
  by_cases g : ∃ A B, In 134217728 (x4 a b c d j) A B
  · obtain ⟨A, B, g⟩ := g
    have := in_at g
    exact ⟨this.1.2, this.2.2⟩
  · obtain ⟨p, q, e⟩ := within_no (M := 134217728) (by decide) (by decide) g
    unfold inR inI
    rw [e]
    exact ⟨Nat.zero_le _, Nat.zero_le _⟩
theorem in_tests {a b c d : Cx} (hb : ∀ j, Bits (x4 a b c d j)) (j : Nat) : ∃ p, wholeT (x4 a b c d j) = some p ∧ okB (pylonref02_Within.f (x4 a b c d j) 134217728) = some p ∧ (p = true → In 134217728 (x4 a b c d j) (inR a b c d j) (inI a b c d j)) := by
  by_cases g : ∃ A B, In 134217728 (x4 a b c d j) A B
  · obtain ⟨A, B, g⟩ := g
    refine ⟨true, wholeT_in (hb j) g, ?_, fun _ => in_at g⟩
    rw [within_yes (M := 134217728) (by decide) (by decide) g]; rfl
  · obtain ⟨p, q, e⟩ := within_no (M := 134217728) (by decide) (by decide) g
    refine ⟨false, wholeT_out (hb j) g, ?_, fun h => by cases h⟩
    rw [e]; rfl
theorem tmod_iff (N : Int) : Int.tmod N 4 = 0 ↔ N % 4 = 0 := by
  rw [← Int.dvd_iff_tmod_eq_zero, ← Int.dvd_iff_emod_eq_zero]
theorem frac_at {x : Nat → Cx} {A B : Nat → Int} {M : Nat} (hw : Whole x A B M) (hM : M ≤ 134217728) (j : Nat) : (quoO x j).isSome = true ∧ fracT (quoV x j) = divs4 A B j ∧
    (Int.tmod (sR A B 1 j 4) 4 = 0 ∧ Int.tmod (sI A B 1 j 4) 4 = 0 → ceq (quoV x j).re (quoV x j).im (resB A B j).re (resB A B j).im = true) := by
  obtain ⟨p1, p2, p3, p4⟩ := part_is hw (by omega) 1 j 4 (by decide)
  generalize hR : sR A B 1 j 4 = R at *
  generalize hI : sI A B 1 j 4 = I at *
  obtain ⟨e, f, q, q1, q2, _⟩ := cquo4 p1 p2 (by omega) (by omega)
  have hq : quoO x j = some (e, f) := q
  have hv : quoV x j = cx e f := by unfold quoV; rw [hq]
  obtain ⟨t1, t2, t3⟩ := q1.trunc (by omega)
  obtain ⟨u1, u2, u3⟩ := q2.trunc (by omega)
  refine ⟨by rw [hq]; rfl, ?_, fun ⟨h1, h2⟩ => ?_⟩
  · rw [hv]
    unfold fracT divs4 math_Trunc.f
    rw [if_pos t1, Option.bind_some, t2, if_pos u1, Option.map_some, u2, hR, hI]
    simp only [tmod_iff]
    by_cases g : R % 4 = 0
    · simp [g]
    · simp [g]
  · rw [tmod_iff] at h1 h2
    rw [hv]
    unfold resB
    have d1 : Int.tdiv R 4 = R / 4 := Int.tdiv_eq_ediv_of_dvd (Int.dvd_of_emod_eq_zero h1)
    have d2 : Int.tdiv I 4 = I / 4 := Int.tdiv_eq_ediv_of_dvd (Int.dvd_of_emod_eq_zero h2)
    rw [hR, hI, d1, d2, i64in (x := R / 4) (by omega) (by omega), i64in (x := I / 4) (by omega) (by omega)]
    exact ceq_of (t3 h1) (u3 h2) (of_int (by omega)) (of_int (by omega))
theorem backs_same {a b c d : Cx} (hb : ∀ j, Bits (x4 a b c d j)) : Same4 (backF a b c d) (rbackF a b c d) := by
  have ht : upTo (fun j => okB (pylonref02_Within.f (x4 a b c d j) 134217728)) 4 = upTo (fun j => wholeT (x4 a b c d j)) 4 := upTo_congr fun j _ => by
    obtain ⟨p, e1, e2, _⟩ := in_tests hb j
    rw [e1, e2]
  obtain ⟨o, e⟩ := upTo_some (t := fun j => wholeT (x4 a b c d j)) (n := 4) fun j _ => by
    obtain ⟨p, e1, _⟩ := in_tests hb j
    exact ⟨p, e1⟩
  unfold backF rbackF
  rw [if_pos (in_small a b c d), ht, e]
  cases o with
  | some m => exact same_no 5
  | none =>
    have hw : Whole (x4 a b c d) (inR a b c d) (inI a b c d) 134217728 := fun j hj => by
      obtain ⟨p, e1, _, g⟩ := in_tests hb j
      have hp : p = true := Option.some.inj (e1.symm.trans (upTo_all e j hj))
      exact g hp
    have hs := sums_ok hw (by decide) 1
    have hq : (sumsB (x4 a b c d) 1 && all4 fun j => (quoO (x4 a b c d) j).isSome) = true := by
      rw [sumsB_ok.2 hs, Bool.true_and, all4_iff]
      exact fun j _ => (frac_at hw (by decide) j).1
    have hd : upTo (fun j => fracT (quoV (x4 a b c d) j)) 4 = upTo (divs4 (inR a b c d) (inI a b c d)) 4 := upTo_congr fun j _ => (frac_at hw (by decide) j).2.1
    obtain ⟨o2, e2⟩ := upTo_some (t := divs4 (inR a b c d) (inI a b c d)) (n := 4) fun j _ => ⟨_, rfl⟩
    simp only [if_pos hq, hd, e2]
    cases o2 with
    | some m => exact same_no 8
    | none => exact ⟨_, _, 0, rfl, rfl, fun j hj => (frac_at hw (by decide) j).2.2 (divs4_yes (upTo_all e2 j hj))⟩
end Go.Proofs.YtofedlghaopciaaGreatDoor.PureA
end
section
/- fix.root: Newton's steps from above end in the whole square root; the whole square root of a sum of two squares. -/
set_option linter.unusedVariables false
set_option linter.unusedSimpArgs false
namespace Go.Proofs.YtofedlghaopciaaGreatDoor.PureA
open Go.RowKit Go.Proofs.YtofedlghaopciaaGreatDoor.PA Go.Proofs.YtofedlghaopciaaGreatDoor.Num Go.Proofs.YtofedlghaopciaaGreatDoorW.PrintWords Go.Proofs.YtofedlghaopciaaGreatDoorW.PrintLast Go.Proofs.YtofedlghaopciaaGreatDoorW.PrintMore

theorem half_sum {x q : Int} (h0 : 0 ≤ x) (h1 : x < 18446744073709551616) (q0 : 0 ≤ q) (q1 : q < 18446744073709551616) :
    Go.bits .or .u64 (u64add x q 0 / 2) (IntKind.u64.wrap (u64car x q 0 * 9223372036854775808)) = (x + q) / 2 := by
  have ea : u64add x q 0 = (x + q) % 18446744073709551616 := by unfold u64add; simp only [Int.toNat_zero]; omega
  have ec : u64car x q 0 = (x + q) / 18446744073709551616 := by unfold u64car; simp only [Int.toNat_zero]; omega
  rw [ea, ec]
  have ew : IntKind.u64.wrap ((x + q) / 18446744073709551616 * 9223372036854775808) = (x + q) / 18446744073709551616 * 9223372036854775808 := w64 (by omega) (by omega)
  rw [ew, or_join' 63 (x := (x + q) / 18446744073709551616 * 9223372036854775808) (y := (x + q) % 18446744073709551616 / 2) (by omega) (by omega) (by omega) (by omega) (by omega) (by omega)]
  omega

theorem root_l0 {hi lo N r : Int} (h0 : 0 ≤ hi) (l0 : 0 ≤ lo) (l1 : lo < 18446744073709551616) (hN : N = hi * 18446744073709551616 + lo) (hN1 : 1 ≤ N) (hr : IsRoot N r) :
    ∀ (d : Nat) (x : Int), x ≤ d → 0 < x → x < 18446744073709551616 → r ≤ x → Ev (fun k => fix_root.l0 k hi lo x) r := by
  intro d
  induction d with
  | zero => intro x hd hx0; omega
  | succ d ih =>
    intro x hd hx0 hx1 hrx
    refine Ev.shift ?_
    simp only [fix_root.l0]
    by_cases c : hi ≥ x
    · simp only [if_pos c]
      have h2 : x * x ≤ x * 18446744073709551616 := Int.mul_le_mul_of_nonneg_left (by omega) (by omega)
      have e : x = r := hr.top hrx (by omega)
      rw [e]
      exact Ev.now _
    · simp only [if_neg c]
      refine ev_bind (div64_f h0 l0 l1 (by omega) hx1) ?_
      rw [← hN]
      have q0 : 0 ≤ N / x := Int.ediv_nonneg (by omega) (by omega)
      have q1 : N / x < 18446744073709551616 := Int.ediv_lt_of_lt_mul hx0 (by
        have : (hi + 1) * 18446744073709551616 ≤ x * 18446744073709551616 := by omega
        rw [Int.mul_comm 18446744073709551616 x]
        omega)
      simp only [show c01 0 = true by rfl, if_true, half_sum (by omega) hx1 q0 q1]
      by_cases g : (x + N / x) / 2 ≥ x
      · simp only [if_pos g]
        have h2 : x * x ≤ N / x * x := Int.mul_le_mul_of_nonneg_right (by omega) (by omega)
        have h3 := Int.ediv_mul_le N (show x ≠ 0 by omega)
        have e : x = r := hr.top hrx (by omega)
        rw [e]
        exact Ev.now _
      · simp only [if_neg g]
        have h4 := newton hr hx0
        have h5 := hr.pos hN1
        exact ih _ (by omega) (by omega) (by omega) h4

theorem pow2_lt {n : Nat} (h : n ≤ 63) : (2 : Int) ^ n < 18446744073709551616 := by
  have : (2 : Int) ^ n ≤ 2 ^ 63 := by
    have := Nat.pow_le_pow_right (n := 2) (by omega) h
    exact_mod_cast this
  have e : (2 : Int) ^ 63 = 9223372036854775808 := by rfl
  omega

/-- The first guess is not below the root. -/
theorem root_j1 {hi lo N r : Int} {n : Nat} (h0 : 0 ≤ hi) (l0 : 0 ≤ lo) (l1 : lo < 18446744073709551616) (hN : N = hi * 18446744073709551616 + lo) (hN1 : 1 ≤ N) (hN2 : N < 340282366920938463463374607431768211456) (hr : IsRoot N r)
    (hn : n < 1000) (hb : N < 2 ^ n) : Ev (fun k => fix_root.j1 k hi lo (n : Int)) r := by
  refine Ev.shift ?_
  simp only [fix_root.j1]
  by_cases c : (n : Int) < 127
  · simp only [if_pos c]
    have e1 : wrap64 ((n : Int) + 1) = ((n + 1 : Nat) : Int) := by rw [i64in (by omega) (by omega)]; omega
    have e2 : Int.tdiv ((n + 1 : Nat) : Int) 2 = (((n + 1) / 2 : Nat) : Int) := by rw [Int.tdiv_eq_ediv_of_nonneg (by omega)]; omega
    have e3 : wrap64 (((n + 1) / 2 : Nat) : Int) = (((n + 1) / 2 : Nat) : Int) := i64in (by omega) (by omega)
    rw [e1, e2, e3]
    have hm : (n + 1) / 2 ≤ 63 := by omega
    simp only [if_pos (show (0 : Int) ≤ (((n + 1) / 2 : Nat) : Int) by omega)]
    have e4 : shl .u64 1 (((n + 1) / 2 : Nat) : Int) = 2 ^ ((n + 1) / 2) := by
      rw [shl64 (by omega) (by omega), Int.one_mul]
      simp only [Int.toNat_natCast]
      have := pow2_lt hm
      have : (0 : Int) < 2 ^ ((n + 1) / 2) := Int.pow_pos (by omega)
      omega
    rw [e4]
    refine Ev.shift ?_
    simp only [fix_root.j2]
    have hp : (0 : Int) < 2 ^ ((n + 1) / 2) := Int.pow_pos (by omega)
    have hsq : N < 2 ^ ((n + 1) / 2) * 2 ^ ((n + 1) / 2) := by
      rw [← Int.pow_add]
      have : (2 : Int) ^ n ≤ 2 ^ ((n + 1) / 2 + (n + 1) / 2) := by
        have := Nat.pow_le_pow_right (n := 2) (by omega) (show n ≤ (n + 1) / 2 + (n + 1) / 2 by omega)
        exact_mod_cast this
      omega
    have hx := hr.le_of (Int.le_of_lt hp) hsq
    have hlt := pow2_lt hm
    generalize (2 : Int) ^ ((n + 1) / 2) = x at *
    obtain ⟨d, rfl⟩ := Int.eq_ofNat_of_zero_le (Int.le_of_lt hp)
    exact root_l0 h0 l0 l1 hN hN1 hr d _ (Int.le_refl _) hp hlt hx
  · simp only [if_neg c]
    refine Ev.shift ?_
    simp only [fix_root.j2]
    refine root_l0 h0 l0 l1 hN hN1 hr 18446744073709551615 _ (by omega) (by omega) (by omega) ?_
    have := hr.le_of (x := 18446744073709551616) (by omega) (by omega)
    have h1 := hr.2.1
    rcases Int.lt_or_le 18446744073709551615 r with g | g
    · have e : r = 18446744073709551616 := by omega
      rw [e] at h1
      omega
    · exact g

theorem root_f {hi lo N r : Int} (h0 : 0 ≤ hi) (h1 : hi < 18446744073709551616) (l0 : 0 ≤ lo) (l1 : lo < 18446744073709551616) (hN : N = hi * 18446744073709551616 + lo) (hr : IsRoot N r) : Ev (fun k => fix_root.f k hi lo) r := by
  have yes : N = 0 → Ev (fun k => fix_root.j0 k hi lo true) r := by
    intro hz
    refine Ev.shift ?_
    simp only [fix_root.j0, if_true]
    have : r = 0 := hr.uniq (by rw [hz]; exact ⟨by omega, by omega, by omega⟩)
    rw [this]
    exact Ev.now _
  have no : N ≠ 0 → Ev (fun k => fix_root.j0 k hi lo false) r := by
    intro hz
    obtain ⟨a, rfl⟩ := Int.eq_ofNat_of_zero_le h0
    obtain ⟨b, rfl⟩ := Int.eq_ofNat_of_zero_le l0
    refine Ev.shift ?_
    simp only [fix_root.j0, Bool.false_eq_true, if_false]
    have lb : Ev (fun k => bits_Len64.f k (b : Int)) ((bitLen b : Nat) : Int) := Ev.shift (Ev.ofEqK (fun k => len64_f k b (by omega)))
    refine ev_bind lb ?_
    have hb := bitLen_spec b
    have hb64 := bitLen64 (n := b) (b := 64) (by simp only [Nat.reducePow]; omega)
    by_cases c : (a : Int) = 0
    · simp only [if_pos c]
      have : N = (b : Int) := by omega
      refine root_j1 h0 l0 l1 hN (by omega) (by omega) hr (n := bitLen b) (by omega) ?_
      rw [this]
      exact_mod_cast hb.1
    · simp only [if_neg c]
      have la : Ev (fun k => bits_Len64.f k (a : Int)) ((bitLen a : Nat) : Int) := Ev.shift (Ev.ofEqK (fun k => len64_f k a (by omega)))
      refine ev_bind la ?_
      have ha := bitLen_spec a
      have ha64 := bitLen64 (n := a) (b := 64) (by simp only [Nat.reducePow]; omega)
      have e1 : wrap64 (64 + ((bitLen a : Nat) : Int)) = ((64 + bitLen a : Nat) : Int) := by rw [i64in (by omega) (by omega)]; omega
      rw [e1]
      refine root_j1 h0 l0 l1 hN (by omega) (by omega) hr (n := 64 + bitLen a) (by omega) ?_
      have h3 : (a : Int) + 1 ≤ 2 ^ bitLen a := by exact_mod_cast ha.1
      have h4 : ((a : Int) + 1) * 18446744073709551616 ≤ 2 ^ bitLen a * 18446744073709551616 := Int.mul_le_mul_of_nonneg_right h3 (by omega)
      rw [Int.pow_add, show (2 : Int) ^ 64 = 18446744073709551616 by rfl, Int.mul_comm 18446744073709551616 (2 ^ bitLen a)]
      omega
  unfold fix_root.f
  by_cases c : hi = 0
  · simp only [if_pos c]
    by_cases d : lo = 0
    · rw [show (lo == 0) = true by simp [d]]
      exact yes (by omega)
    · rw [show (lo == 0) = false by simp [d]]
      exact no (by omega)
  · simp only [if_neg c]
    exact no (by omega)

theorem sq_size {a : Int} (h0 : -9223372036854775808 ≤ a) (h1 : a ≤ 9223372036854775807) : 0 ≤ a * a ∧ a * a ≤ 85070591730234615865843651857942052864 ∧ (a.natAbs : Int) * a.natAbs = a * a := by
  have e : (a.natAbs : Int) * a.natAbs = a * a := Int.natAbs_mul_self
  have h2 : (a.natAbs : Int) ≤ 9223372036854775808 := by omega
  have h3 : (a.natAbs : Int) * a.natAbs ≤ 9223372036854775808 * 9223372036854775808 := Int.mul_le_mul h2 h2 (by omega) (by omega)
  have h4 : 0 ≤ (a.natAbs : Int) * a.natAbs := Int.mul_nonneg (by omega) (by omega)
  exact ⟨by omega, by omega, e⟩

/-- The whole square root of a * a + b * b, where it is an int64. -/
theorem hyp_f {a b r : Int} (ha0 : -9223372036854775808 ≤ a) (ha1 : a ≤ 9223372036854775807) (hb0 : -9223372036854775808 ≤ b) (hb1 : b ≤ 9223372036854775807) (hr : IsRoot (a * a + b * b) r) :
    Ev (fun k => fix_Hyp.f k a b) (fits r) := by
  obtain ⟨sa0, sa1, sa2⟩ := sq_size ha0 ha1
  obtain ⟨sb0, sb1, sb2⟩ := sq_size hb0 hb1
  unfold fix_Hyp.f
  simp only [size_f ha0 ha1, size_f hb0 hb1, Option.bind_some, mul64_f (show (0 : Int) ≤ (a.natAbs : Int) by omega) (by omega) (show (0 : Int) ≤ (a.natAbs : Int) by omega) (by omega),
    mul64_f (show (0 : Int) ≤ (b.natAbs : Int) by omega) (by omega) (show (0 : Int) ≤ (b.natAbs : Int) by omega) (by omega), sa2, sb2, show c01 0 = true by rfl, if_true]
  generalize a * a = A at *
  generalize b * b = B at *
  have ea : u64add (A % 18446744073709551616) (B % 18446744073709551616) 0 = (A + B) % 18446744073709551616 := by unfold u64add; simp only [Int.toNat_zero]; omega
  have ec : u64car (A % 18446744073709551616) (B % 18446744073709551616) 0 = (A % 18446744073709551616 + B % 18446744073709551616) / 18446744073709551616 := by unfold u64car; simp only [Int.toNat_zero]; omega
  rw [ea, ec]
  have eh : IntKind.u64.wrap (IntKind.u64.wrap (A / 18446744073709551616 + B / 18446744073709551616) + (A % 18446744073709551616 + B % 18446744073709551616) / 18446744073709551616) = (A + B) / 18446744073709551616 := by
    simp only [IntKind.wrap_u64]; omega
  rw [eh]
  refine ev_bind (root_f (N := A + B) (r := r) (by omega) (by omega) (by omega) (by omega) (by omega) hr) ?_
  have hr0 := hr.1
  have hr1 := hr.le_of (x := 18446744073709551616) (by omega) (by omega)
  have h1 := hr.2.1
  have hlt : r < 18446744073709551616 := by
    rcases Int.lt_or_le r 18446744073709551616 with g | g
    · exact g
    · have e : r = 18446744073709551616 := by omega
      rw [e] at h1
      omega
  refine ev_bind (a := fits r) (Ev.shift (Ev.ofEqK (fun k => ?_))) (Ev.pair _)
  rw [number_f k false (by omega) hr0 hlt]
  simp
end Go.Proofs.YtofedlghaopciaaGreatDoor.PureA
end
section
/- The reference's root, bit by bit; its root of a sum of two squares. -/
set_option linter.unusedVariables false
set_option linter.unusedSimpArgs false
namespace Go.Proofs.YtofedlghaopciaaGreatDoor.PureA
open Go.RowKit Go.Proofs.YtofedlghaopciaaGreatDoor.PA Go.Proofs.YtofedlghaopciaaGreatDoor.Num Go.Proofs.YtofedlghaopciaaGreatDoorW.PrintWords Go.Proofs.YtofedlghaopciaaGreatDoorW.PrintLast Go.Proofs.YtofedlghaopciaaGreatDoorW.PrintMore

theorem two_words {t N hi lo : Int} (l0 : 0 ≤ lo) (l1 : lo < 18446744073709551616) (hN : N = hi * 18446744073709551616 + lo) (ht : 0 ≤ t) :
    (t / 18446744073709551616 < hi → t ≤ N) ∧ (t / 18446744073709551616 = hi → (t % 18446744073709551616 ≤ lo ↔ t ≤ N)) ∧ (¬ t / 18446744073709551616 < hi → ¬ t / 18446744073709551616 = hi → N < t) := by
  refine ⟨fun h => by omega, fun h => by omega, fun h h' => by omega⟩
theorem refroot_l0 {hi lo N root : Int} (h0 : 0 ≤ hi) (l0 : 0 ≤ lo) (l1 : lo < 18446744073709551616) (hN : N = hi * 18446744073709551616 + lo) (hr : IsRoot N root) :
    ∀ (j : Nat) (r c : Int), j ≤ 64 → r = c * 2 ^ j → 0 ≤ c → r + 2 ^ j ≤ 18446744073709551616 → r * r ≤ N → N < (r + 2 ^ j) * (r + 2 ^ j) → Ev (fun k => pylonref01_root.l0 k hi lo r ((j : Int) - 1)) root := by
  intro j
  induction j with
  | zero =>
    intro r c hj hc hc0 hb h1 h2
    refine Ev.shift ?_
    have e : ¬ (((0 : Nat) : Int) - 1 ≥ 0) := by omega
    simp only [pylonref01_root.l0, if_neg e]
    have : root = r := hr.uniq ⟨by simp at hc; omega, h1, by simpa using h2⟩
    rw [this]
    exact Ev.now _
  | succ j ih =>
    intro r c hj hc hc0 hb h1 h2
    have e1 : ((j + 1 : Nat) : Int) - 1 = (j : Int) := by omega
    have e2 : IntKind.u64.wrap (j : Int) = (j : Int) := w64 (by omega) (by omega)
    have e3 : wrap64 ((j : Int) - 1) = (j : Int) - 1 := i64in (by omega) (by omega)
    have hp : (0 : Int) < 2 ^ j := Int.pow_pos (by omega)
    have hp2 : (2 : Int) ^ (j + 1) = 2 * 2 ^ j := by rw [Int.pow_succ]; omega
    have hr0 : 0 ≤ r := by rw [hc]; exact Int.mul_nonneg hc0 (by omega)
    have e4 : shl .u64 1 (j : Int) = 2 ^ j := by
      rw [shl64 (by omega) (by omega), Int.one_mul]
      simp only [Int.toNat_natCast]
      omega
    have e5 : Go.bits .or .u64 r (2 ^ j) = r + 2 ^ j := or_join (j + 1) hr0 (by omega) (by rw [hc]; exact Int.mul_emod_left ..) (by omega) (by omega) (by omega)
    have e6 : r = 2 * c * 2 ^ j := by rw [hc, hp2, Int.mul_comm 2 c, Int.mul_assoc]
    have e7 : r + 2 ^ j = (2 * c + 1) * 2 ^ j := by rw [Int.add_mul, ← e6, Int.one_mul]
    have ht0 : 0 ≤ (r + 2 ^ j) * (r + 2 ^ j) := Int.mul_nonneg (by omega) (by omega)
    obtain ⟨t1, t2, t3⟩ := two_words (t := (r + 2 ^ j) * (r + 2 ^ j)) l0 l1 hN ht0
    have yes : (r + 2 ^ j) * (r + 2 ^ j) ≤ N → Ev (fun k => pylonref01_root.l0 k hi lo (r + 2 ^ j) ((j : Int) - 1)) root := fun h =>
      ih (r + 2 ^ j) (2 * c + 1) (by omega) e7 (by omega) (by omega) h (by rw [hp2] at h2; rw [show r + 2 ^ j + 2 ^ j = r + 2 * 2 ^ j by omega]; exact h2)
    have no : N < (r + 2 ^ j) * (r + 2 ^ j) → Ev (fun k => pylonref01_root.l0 k hi lo r ((j : Int) - 1)) root := fun h => ih r (2 * c) (by omega) e6 (by omega) (by omega) h1 h
    refine Ev.shift ?_
    simp only [pylonref01_root.l0, e1, e2, e3, e4, e5, if_pos (show (j : Int) ≥ 0 by omega), if_pos (show (0 : Int) ≤ (j : Int) by omega), product_f (show 0 ≤ r + 2 ^ j by omega) (show r + 2 ^ j < 18446744073709551616 by omega) (show 0 ≤ r + 2 ^ j by omega) (show r + 2 ^ j < 18446744073709551616 by omega), Option.bind_some]
    by_cases g : (r + 2 ^ j) * (r + 2 ^ j) / 18446744073709551616 < hi
    · simp only [if_pos g]
      exact yes (t1 g)
    · simp only [if_neg g]
      by_cases g2 : (r + 2 ^ j) * (r + 2 ^ j) / 18446744073709551616 = hi
      · simp only [if_pos g2]
        by_cases g3 : (r + 2 ^ j) * (r + 2 ^ j) % 18446744073709551616 ≤ lo
        · simp only [if_pos g3]
          exact yes ((t2 g2).1 g3)
        · simp only [if_neg g3]
          exact no (by have := t2 g2; omega)
      · simp only [if_neg g2]
        exact no (t3 g g2)
theorem refroot_f {hi lo N root : Int} (h0 : 0 ≤ hi) (h1 : hi < 18446744073709551616) (l0 : 0 ≤ lo) (l1 : lo < 18446744073709551616) (hN : N = hi * 18446744073709551616 + lo) (hr : IsRoot N root) : Ev (fun k => pylonref01_root.f k hi lo) root := by
  unfold pylonref01_root.f
  have e : (2 : Int) ^ 64 = 18446744073709551616 := by rfl
  have := refroot_l0 h0 l0 l1 hN hr 64 0 0 (by omega) (by simp) (by omega) (by omega) (by omega) (by rw [e]; omega)
  exact this
theorem refsq_size {a : Int} (h0 : -9223372036854775808 ≤ a) (h1 : a ≤ 9223372036854775807) : 0 ≤ a * a ∧ a * a ≤ 85070591730234615865843651857942052864 ∧ (a.natAbs : Int) * a.natAbs = a * a := by
  have e : (a.natAbs : Int) * a.natAbs = a * a := Int.natAbs_mul_self
  have h2 : (a.natAbs : Int) ≤ 9223372036854775808 := by omega
  have h3 : (a.natAbs : Int) * a.natAbs ≤ 9223372036854775808 * 9223372036854775808 := Int.mul_le_mul h2 h2 (by omega) (by omega)
  have h4 : 0 ≤ (a.natAbs : Int) * a.natAbs := Int.mul_nonneg (by omega) (by omega)
  exact ⟨by omega, by omega, e⟩
theorem refhyp_f {a b r : Int} (ha0 : -9223372036854775808 ≤ a) (ha1 : a ≤ 9223372036854775807) (hb0 : -9223372036854775808 ≤ b) (hb1 : b ≤ 9223372036854775807) (hr : IsRoot (a * a + b * b) r) :
    Ev (fun k => pylonref01_Hyp.f k a b) (fits r) := by
  obtain ⟨sa0, sa1, sa2⟩ := refsq_size ha0 ha1
  obtain ⟨sb0, sb1, sb2⟩ := refsq_size hb0 hb1
  unfold pylonref01_Hyp.f
  simp only [mag_f ha0 ha1, mag_f hb0 hb1, Option.bind_some, product_f (show (0 : Int) ≤ (a.natAbs : Int) by omega) (show (a.natAbs : Int) < 18446744073709551616 by omega) (show (0 : Int) ≤ (a.natAbs : Int) by omega) (show (a.natAbs : Int) < 18446744073709551616 by omega),
    product_f (show (0 : Int) ≤ (b.natAbs : Int) by omega) (show (b.natAbs : Int) < 18446744073709551616 by omega) (show (0 : Int) ≤ (b.natAbs : Int) by omega) (show (b.natAbs : Int) < 18446744073709551616 by omega), sa2, sb2]
  generalize a * a = A at *
  generalize b * b = B at *
  have hr0 := hr.1
  have hr1 := hr.le_of (x := 18446744073709551616) (by omega) (by omega)
  have h1 := hr.2.1
  have hlt : r < 18446744073709551616 := by
    rcases Int.lt_or_le r 18446744073709551616 with g | g
    · exact g
    · have e : r = 18446744073709551616 := by omega
      rw [e] at h1
      omega
  have fin : Ev (fun k => (pylonref01_signed.f k false 0 r).bind fun bt => some (bt.1, bt.2)) (fits r) := by
    refine ev_bind (a := fits r) (Ev.shift (Ev.ofEqK (fun k => ?_))) (Ev.pair _)
    rw [signed_f k false (by omega) hr0 hlt]
    simp
  have e1 : IntKind.u64.wrap (A % 18446744073709551616 + B % 18446744073709551616) = (A + B) % 18446744073709551616 := by simp only [IntKind.wrap_u64]; omega
  have e2 : IntKind.u64.wrap (A / 18446744073709551616 + B / 18446744073709551616) = A / 18446744073709551616 + B / 18446744073709551616 := w64 (by omega) (by omega)
  have e3 : IntKind.u64.wrap (A / 18446744073709551616 + B / 18446744073709551616 + 1) = A / 18446744073709551616 + B / 18446744073709551616 + 1 := w64 (by omega) (by omega)
  rw [e1, e2, e3]
  by_cases g : (A + B) % 18446744073709551616 < A % 18446744073709551616
  · simp only [if_pos g]
    exact ev_bind (refroot_f (N := A + B) (by omega) (by omega) (by omega) (by omega) (by omega) hr) fin
  · simp only [if_neg g]
    exact ev_bind (refroot_f (N := A + B) (by omega) (by omega) (by omega) (by omega) (by omega) hr) fin
end Go.Proofs.YtofedlghaopciaaGreatDoor.PureA
end
section
/- PhasorAll: Quadrant, Apparent, Text, both sides. -/
set_option linter.unusedVariables false
set_option linter.unusedSimpArgs false
namespace Go.Proofs.YtofedlghaopciaaGreatDoor.PureA
open Go.RowKit Go.Proofs.YtofedlghaopciaaGreatDoor.PA Go.Proofs.YtofedlghaopciaaGreatDoor.Num Go.Proofs.YtofedlghaopciaaGreatDoor.Flt Go.Proofs.YtofedlghaopciaaGreatDoorW.PrintWords Go.Proofs.YtofedlghaopciaaGreatDoorW.PrintLast Go.Proofs.YtofedlghaopciaaGreatDoorW.PrintMore
theorem read_zero : Ieee.double.read 0 = .number false 0 (-1074) := by rw [read_eq]; rfl
theorem order_zero {x : Nat} (h : feq x x = true) : fge x 0 = !flt x 0 := by
  obtain ⟨o, e⟩ : ∃ o, Ieee.double.order x 0 = some o := by
    rcases read_cases x with ⟨s, m, q, e⟩ | ⟨s, m, k, e, hm⟩ | ⟨s, e⟩ | ⟨s, t, e⟩
    · exact ⟨_, order_num e read_zero⟩
    · exact ⟨_, order_num e read_zero⟩
    · cases s with
      | true => exact ⟨.lt, by show (Ieee.double.read x).order (Ieee.double.read 0) = _; rw [e, read_zero]; rfl⟩
      | false => exact ⟨.gt, by show (Ieee.double.read x).order (Ieee.double.read 0) = _; rw [e, read_zero]; rfl⟩
    · exfalso
      have g : ((Ieee.double.read x).order (Ieee.double.read x) == some .eq) = true := h
      rw [e] at g
      cases g
  show (Ieee.double.order x 0 == some .gt || Ieee.double.order x 0 == some .eq) = !(Ieee.double.order x 0 == some .lt)
  rw [e]
  cases o <;> rfl
theorem quadrant_same (z : Cx) : ∃ r, Ev (fun k => phasor_Quadrant.f k z) r ∧ Ev (fun k => pylonref02_Quadrant.f k z) r := by
  unfold phasor_Quadrant.f pylonref02_Quadrant.f
  by_cases h1 : feq z.re z.re = true
  · by_cases h2 : feq z.im z.im = true
    · have o1 := order_zero h1
      simp only [if_pos h1, if_pos h2]
      unfold ceq
      refine ⟨if (feq z.re 0 && feq z.im 0) = true then 0 else (if flt z.re 0 = true then (if fge z.im 0 = true then 2 else 3) else (if fge z.im 0 = true then 1 else 4)), Ev.shift (Ev.shift (Ev.shift (Ev.ofEqK fun k => ?_))), Ev.shift (Ev.shift (Ev.shift (Ev.ofEqK fun k => ?_)))⟩
      · cases hc : feq z.re 0 <;> cases hd : feq z.im 0 <;> cases hs : flt z.re 0 <;> cases ht : fge z.im 0 <;> rw [hs] at o1 <;> simp [phasor_Quadrant.j0, phasor_Quadrant.j1, hs, ht, o1]
      · cases hc : feq z.re 0 <;> cases hd : feq z.im 0 <;> cases hs : flt z.re 0 <;> cases ht : fge z.im 0 <;> rw [hs] at o1 <;> simp [pylonref02_Quadrant.j0, pylonref02_Quadrant.j1, pylonref02_Quadrant.j2, hs, ht, o1]
    · simp only [if_pos h1, if_neg h2]
      exact ⟨0, Ev.shift (Ev.ofEqK fun k => by simp only [phasor_Quadrant.j0, if_true]), Ev.shift (Ev.ofEqK fun k => by simp only [pylonref02_Quadrant.j0, if_true])⟩
  · simp only [if_neg h1]
    exact ⟨0, Ev.shift (Ev.ofEqK fun k => by simp only [phasor_Quadrant.j0, if_true]), Ev.shift (Ev.ofEqK fun k => by simp only [pylonref02_Quadrant.j0, if_true])⟩
/-! ### Apparent -/
theorem bind_pair {g : Nat → Option (Int × Int)} {r : Int × Int} (h : Ev g r) : Ev (fun k => (g k).bind fun b => some (b.1, b.2)) r := by
  obtain ⟨K, h⟩ := h
  exact ⟨K, fun k hk => by simp only [h k hk, Option.bind_some]⟩
theorem apparent_same {z : Cx} (hb : Bits z) : ∃ r, Ev (fun k => phasor_Apparent.f k z) r ∧ Ev (fun k => pylonref02_Apparent.f k z) r := by
  unfold phasor_Apparent.f pylonref02_Apparent.f
  by_cases g : Good z
  · obtain ⟨a, b, g⟩ := g
    have h1 := g.1.2
    have h2 := g.2.2
    obtain ⟨r, hr⟩ := root_exists (a * a + b * b).toNat
    have sa : 0 ≤ a * a := by rw [← Int.natAbs_mul_self (a := a)]; exact Int.natCast_nonneg _
    have sb : 0 ≤ b * b := by rw [← Int.natAbs_mul_self (a := b)]; exact Int.natCast_nonneg _
    rw [Int.toNat_of_nonneg (by omega)] at hr
    have e1 := hyp_f (a := a) (b := b) (by omega) (by omega) (by omega) (by omega) hr
    have e2 := refhyp_f (a := a) (b := b) (by omega) (by omega) (by omega) (by omega) hr
    refine ⟨fits r, ?_, ?_⟩
    · simp only [parts_yes hb g, Option.bind_some, if_true]; exact bind_pair e1
    · simp only [rfits_yes g, Option.bind_some, if_true]; exact bind_pair e2
  · obtain ⟨a, b, e⟩ := rfits_no g
    refine ⟨(0, 5), ?_, ?_⟩
    · simp only [parts_no hb g, Option.bind_some]; exact Ev.now _
    · simp only [e, Option.bind_some]; exact Ev.now _
/-! ### Text -/
theorem rtext_yes {z : Cx} {a b : Int} (h : Small z a b) : Ev (fun k => pylonref02_Text.f k z) (⟨(txt a b).toArray⟩, 0) := by
  have h2 := h.1.2
  have h4 := h.2.2
  have l1 := Lib.itoa_length_le a (by omega) (by omega)
  have l2 := Lib.itoa_length_le b (by omega) (by omega)
  obtain ⟨K1, e1⟩ := reftext_f (n := a) (by omega) (by omega)
  obtain ⟨K2, e2⟩ := reftext_f (n := b) (by omega) (by omega)
  refine ⟨max K1 K2, fun k hk => ?_⟩
  have f1 := e1 k (by omega)
  have f2 := e2 k (by omega)
  simp only at f1 f2
  have e43 : (⟨#[43]⟩ : ByteArray) = ⟨[(43 : UInt8)].toArray⟩ := rfl
  have e105 : (⟨#[105]⟩ : ByteArray) = ⟨[(105 : UInt8)].toArray⟩ := rfl
  simp only [pylonref02_Text.f, rfits_yes h, Option.bind_some, if_true, f1, f2]
  unfold txt
  by_cases c : b < 0
  · simp only [if_neg (show ¬ b ≥ 0 by omega), if_pos c, e105, app_mk, sz_mk]
    rw [if_pos (by omega), if_pos (by simp; omega)]
    simp
  · simp only [if_pos (show b ≥ 0 by omega), if_neg c, e43, e105, app_mk, sz_mk]
    rw [if_pos (by omega), if_pos (by simp; omega), if_pos (by simp; omega)]
    simp
theorem text_same {z : Cx} (hb : Bits z) : ∃ r, phasor_Text.f z = some r ∧ Ev (fun k => pylonref02_Text.f k z) r := by
  by_cases g : Good z
  · obtain ⟨a, b, g⟩ := g
    exact ⟨_, ptext_f hb g, rtext_yes g⟩
  · obtain ⟨a, b, e⟩ := rfits_no g
    refine ⟨(⟨#[]⟩, 5), ?_, ?_⟩
    · unfold phasor_Text.f; rw [parts_no hb g]; rfl
    · unfold pylonref02_Text.f; simp only [e, Option.bind_some]; exact Ev.now _
end Go.Proofs.YtofedlghaopciaaGreatDoor.PureA
end
section
/- PhasorAll: the document's Read, said in plain words. -/
set_option linter.unusedVariables false
set_option linter.unusedSimpArgs false
namespace Go.Proofs.YtofedlghaopciaaGreatDoor.PureA
open Go.RowKit Go.Proofs.YtofedlghaopciaaGreatDoor.PA Go.Proofs.YtofedlghaopciaaGreatDoor.Num Go.Proofs.YtofedlghaopciaaGreatDoor.Flt Go.Proofs.YtofedlghaopciaaGreatDoor.Dig Go.Proofs.YtofedlghaopciaaGreatDoor.Sign Go.Proofs.YtofedlghaopciaaGreatDoorW.PrintWords Go.Proofs.YtofedlghaopciaaGreatDoorW.PrintLast Go.Proofs.YtofedlghaopciaaGreatDoorW.PrintMore
/-- The place behind a sign: ahead of a '-', behind a '+'. -/
def cutAt (m : List UInt8) (j : Nat) : List UInt8 := if (m.getD j 0).toNat = 43 then m.drop (j + 1) else m.drop j
abbrev takes (m : List UInt8) (j : Nat) : Prop := (readA (m.take j)).2 = 0 ∧ (readA (cutAt m j)).2 = 0 ∧ ¬ ((m.getD j 0).toNat = 43 ∧ (readA (cutAt m j)).1 < 0) ∧ (readA (m.take j)).1.natAbs ≤ 33554432 ∧ (readA (cutAt m j)).1.natAbs ≤ 33554432
def bodyR (m : List UInt8) (j : Nat) : Cx × Int := if takes m j then (zOf (readA (m.take j)).1 (readA (cutAt m j)).1, 0) else (cx 0 0, 1)
theorem bt_getD (m : List UInt8) (j : Nat) : bt ⟨m.toArray⟩ (j : Int) = ((m.getD j 0).toNat : Int) := by rw [bt_mk]; rfl
theorem rof_of (a b : Int) : ∃ z e, pylonref02_Of.f a b = some (z, e) ∧ (e = 0 ↔ (a.natAbs ≤ 33554432 ∧ b.natAbs ≤ 33554432)) ∧ (e = 0 → z = zOf a b) := by
  by_cases h : a.natAbs ≤ 33554432 ∧ b.natAbs ≤ 33554432
  · exact ⟨_, _, rof_yes h.1 h.2, ⟨fun _ => h, fun _ => rfl⟩, fun _ => rfl⟩
  · exact ⟨_, _, rof_no h, ⟨fun g => absurd g (by decide), fun g => absurd g h⟩, fun g => absurd g (by decide)⟩
theorem rread_skip (m : List UInt8) (hl : m.length ≤ 281474976710656) {j : Nat} (h : j < m.length) (h1 : (m.getD j 0).toNat ≠ 43) (h2 : (m.getD j 0).toNat ≠ 45) {r : Cx × Int} (hr : Ev (fun k => pylonref02_Read.l0 k ⟨m.toArray⟩ ((j + 1 : Nat) : Int)) r) :
    Ev (fun k => pylonref02_Read.l0 k ⟨m.toArray⟩ (j : Int)) r := by
  refine Ev.shift ?_
  simp only [pylonref02_Read.l0, sz_mk, if_pos (show (j : Int) < (m.length : Int) by omega), if_pos (show (0 : Int) ≤ (j : Int) by omega), bt_getD, if_neg (show ¬ ((m.getD j 0).toNat : Int) = 43 by omega), if_neg (show ¬ ((m.getD j 0).toNat : Int) = 45 by omega), i64in (x := (j : Int) + 1) (by omega) (by omega)]
  exact hr
theorem rread_end (m : List UInt8) {j : Nat} (h : m.length ≤ j) : Ev (fun k => pylonref02_Read.l0 k ⟨m.toArray⟩ (j : Int)) (cx 0 0, 1) := by
  refine Ev.shift ?_
  simp only [pylonref02_Read.l0, sz_mk, if_neg (show ¬ (j : Int) < (m.length : Int) by omega)]
  exact Ev.now _
theorem rread_at (m : List UInt8) (hl : m.length ≤ 281474976710656) {j : Nat} (h : j < m.length) (hs : (m.getD j 0).toNat = 43 ∨ (m.getD j 0).toNat = 45) :
    Ev (fun k => pylonref02_Read.l0 k ⟨m.toArray⟩ (j : Int)) (bodyR m j) := by
  have hd0 := drop_mk m j
  have hd1 := drop_mk m (j + 1)
  rw [sz_mk] at hd0 hd1
  refine Ev.shift ?_
  rcases hs with hs | hs
  · have hc : cutAt m j = m.drop (j + 1) := by unfold cutAt; rw [if_pos hs]
    simp only [pylonref02_Read.l0, sz_mk, if_pos (show (j : Int) < (m.length : Int) by omega), if_pos (show (0 : Int) ≤ (j : Int) by omega), bt_getD, if_pos (show ((m.getD j 0).toNat : Int) = 43 by omega), if_pos (show (j : Int) ≤ (m.length : Int) by omega), i64in (x := (j : Int) + 1) (by omega) (by omega), if_pos (show (0 : Int) ≤ (j : Int) + 1 by omega), if_pos (show (j : Int) + 1 ≤ (m.length : Int) by omega), Int.toNat_natCast, show ((j : Int) + 1).toNat = j + 1 by omega, take_mk, hd1]
    refine Ev.bind (refread_f (m.take j) (by simp; omega)) ?_
    refine Ev.bind (refread_f (m.drop (j + 1)) (by simp; omega)) ?_
    unfold bodyR takes
    rw [hc]
    generalize readA (m.take j) = p
    generalize readA (m.drop (j + 1)) = q
    obtain ⟨z, e, e1, e2, e3⟩ := rof_of p.1 q.1
    by_cases c1 : p.2 = 0
    · by_cases c2 : q.2 = 0
      · by_cases c3 : q.1 < 0
        · simp only [if_pos c1, if_pos c2, if_pos c3]
          rw [if_neg (fun g => g.2.2.1 ⟨hs, c3⟩)]
          exact Ev.now _
        · simp only [if_pos c1, if_pos c2, if_neg c3, e1, Option.bind_some]
          by_cases c4 : e = 0
          · rw [if_pos c4, if_pos ⟨c1, c2, fun g => c3 g.2, e2.1 c4⟩, e3 c4]
            exact Ev.now _
          · rw [if_neg c4, if_neg (fun g => c4 (e2.2 g.2.2.2))]
            exact Ev.now _
      · simp only [if_pos c1, if_neg c2]
        rw [if_neg (fun g => c2 g.2.1)]
        exact Ev.now _
    · simp only [if_neg c1]
      rw [if_neg (fun g => c1 g.1)]
      exact Ev.now _
  · have hc : cutAt m j = m.drop j := by unfold cutAt; rw [if_neg (by omega)]
    simp only [pylonref02_Read.l0, sz_mk, if_pos (show (j : Int) < (m.length : Int) by omega), if_pos (show (0 : Int) ≤ (j : Int) by omega), bt_getD, if_neg (show ¬ ((m.getD j 0).toNat : Int) = 43 by omega), if_pos (show ((m.getD j 0).toNat : Int) = 45 by omega), if_pos (show (j : Int) ≤ (m.length : Int) by omega), Int.toNat_natCast, take_mk, hd0]
    refine Ev.bind (refread_f (m.take j) (by simp; omega)) ?_
    refine Ev.bind (refread_f (m.drop j) (by simp; omega)) ?_
    unfold bodyR takes
    rw [hc]
    generalize readA (m.take j) = p
    generalize readA (m.drop j) = q
    obtain ⟨z, e, e1, e2, e3⟩ := rof_of p.1 q.1
    have h43 : ¬ (m.getD j 0).toNat = 43 := by omega
    by_cases c1 : p.2 = 0
    · by_cases c2 : q.2 = 0
      · simp only [if_pos c1, if_pos c2, e1, Option.bind_some]
        by_cases c4 : e = 0
        · rw [if_pos c4, if_pos ⟨c1, c2, fun g => h43 g.1, e2.1 c4⟩, e3 c4]
          exact Ev.now _
        · rw [if_neg c4, if_neg (fun g => c4 (e2.2 g.2.2.2))]
          exact Ev.now _
      · simp only [if_pos c1, if_neg c2]
        rw [if_neg (fun g => c2 g.2.1)]
        exact Ev.now _
    · simp only [if_neg c1]
      rw [if_neg (fun g => c1 g.1)]
      exact Ev.now _
def isSign (m : List UInt8) (j : Nat) : Prop := (m.getD j 0).toNat = 43 ∨ (m.getD j 0).toNat = 45
/-- From place i on: the first sign decides. -/
theorem rread_from (m : List UInt8) (hl : m.length ≤ 281474976710656) : ∀ (d i : Nat), m.length - i = d →
    (∃ j, i ≤ j ∧ j < m.length ∧ Ev (fun k => pylonref02_Read.l0 k ⟨m.toArray⟩ (i : Int)) (bodyR m j) ∧ isSign m j ∧ ∀ t, i ≤ t → t < j → ¬ isSign m t) ∨
    (Ev (fun k => pylonref02_Read.l0 k ⟨m.toArray⟩ (i : Int)) (cx 0 0, 1) ∧ ∀ t, i ≤ t → t < m.length → ¬ isSign m t)
  | 0, i, hd => .inr ⟨rread_end m (by omega), fun t h1 h2 => by omega⟩
  | d + 1, i, hd => by
    by_cases h1 : isSign m i
    · exact .inl ⟨i, Nat.le_refl _, by omega, rread_at m hl (by omega) h1, h1, fun t g1 g2 => by omega⟩
    · have hx : ∀ t, i ≤ t → t ≠ i → i + 1 ≤ t := fun t g1 g2 => by omega
      rcases rread_from m hl d (i + 1) (by omega) with ⟨j, j0, j1, j2, j3, j4⟩ | ⟨h, j4⟩
      · refine .inl ⟨j, by omega, j1, rread_skip m hl (by omega) (fun g => h1 (.inl g)) (fun g => h1 (.inr g)) j2, j3, fun t g1 g2 => ?_⟩
        by_cases e : t = i
        · rw [e]; exact h1
        · exact j4 t (hx t g1 e) g2
      · refine .inr ⟨rread_skip m hl (by omega) (fun g => h1 (.inl g)) (fun g => h1 (.inr g)) h, fun t g1 g2 => ?_⟩
        by_cases e : t = i
        · rw [e]; exact h1
        · exact j4 t (hx t g1 e) g2
end Go.Proofs.YtofedlghaopciaaGreatDoor.PureA
end
section
/- PhasorAll: Read, both sides: what is taken is what Text writes. -/
set_option linter.unusedVariables false
set_option linter.unusedSimpArgs false
namespace Go.Proofs.YtofedlghaopciaaGreatDoor.PureA
open Go.RowKit Go.Proofs.YtofedlghaopciaaGreatDoor.PA Go.Proofs.YtofedlghaopciaaGreatDoor.Num Go.Proofs.YtofedlghaopciaaGreatDoor.Flt Go.Proofs.YtofedlghaopciaaGreatDoor.Dig Go.Proofs.YtofedlghaopciaaGreatDoor.Sign Go.Proofs.YtofedlghaopciaaGreatDoorW.PrintWords Go.Proofs.YtofedlghaopciaaGreatDoorW.PrintLast Go.Proofs.YtofedlghaopciaaGreatDoorW.PrintMore
theorem itoa_cons (n : Int) : Lib.itoa n ≠ [] := by
  intro h
  have := (itoa_num n).1.2.1
  unfold mag at this
  rw [h] at this
  simp at this
theorem digit_no {c : UInt8} (h : 48 ≤ c.toNat ∧ c.toNat ≤ 57) : signs.contains c = false ∧ c.toNat < 128 ∧ c ≠ 43 ∧ c ≠ 45 := by
  have h3 : c ≠ 43 := fun e => by subst e; exact absurd h.1 (by decide)
  have h5 : c ≠ 45 := fun e => by subst e; exact absurd h.1 (by decide)
  refine ⟨?_, by omega, h3, h5⟩
  unfold signs
  simp [h3, h5]
theorem tail_no {u : Nat} : ∀ x ∈ Lib.decDigits u ++ [105], signs.contains x = false ∧ x.toNat < 128 := by
  intro x hx
  rcases List.mem_append.1 hx with hx | hx
  · have := digit_no (dec_digs u x hx)
    exact ⟨this.1, this.2.1⟩
  · simp only [List.mem_singleton] at hx
    subst hx
    exact ⟨by decide, by decide⟩
theorem last_txt (a b : Int) : lastAny (txt a b) = (Lib.itoa a).length := by
  unfold txt
  by_cases c : b < 0
  · have e : Lib.itoa b = 45 :: Lib.decDigits b.natAbs := by unfold Lib.itoa; rw [if_pos c]
    rw [if_pos c, e, List.nil_append, List.cons_append]
    exact lastAny_at (itoa_cons a) (by decide) tail_no
  · have e : Lib.itoa b = Lib.decDigits b.toNat := by unfold Lib.itoa; rw [if_neg c]
    rw [if_neg c, e, List.cons_append, List.nil_append]
    exact lastAny_at (itoa_cons a) (by decide) tail_no
theorem trims_txt (b : Int) : ts (tp ((if b < 0 then [] else [43]) ++ (Lib.itoa b ++ [105]))) = Lib.itoa b := by
  have h1 : tp ((if b < 0 then [] else [43]) ++ (Lib.itoa b ++ [105])) = Lib.itoa b ++ [105] := by
    unfold tp
    by_cases c : b < 0
    · have e : Lib.itoa b = 45 :: Lib.decDigits b.natAbs := by unfold Lib.itoa; rw [if_pos c]
      rw [if_pos c, e, if_neg (by simp)]
      rfl
    · rw [if_neg c, if_pos (by simp)]
      rfl
  rw [h1]
  unfold ts
  have hl : (Lib.itoa b ++ [(105 : UInt8)]).length - 1 = (Lib.itoa b).length := by simp
  rw [hl, if_pos ⟨by simp, by simp⟩]
  simp
theorem readA_ok {x : List UInt8} (h : (readA x).2 = 0) : x = Lib.itoa (readA x).1 := by
  unfold readA at h ⊢
  by_cases c : isNum x
  · rw [if_pos c] at h ⊢
    unfold fits at h ⊢
    split at h
    · next g => rw [if_pos g]; exact (itoa_of_num c).symm
    · exact absurd h (by decide)
  · rw [if_neg c] at h
    exact absurd h (by decide)
theorem readA_itoa2 {n : Int} (h0 : -9223372036854775808 ≤ n) (h1 : n ≤ 9223372036854775807) : readA (Lib.itoa n) = (n, 0) := by
  have g := itoa_num n
  unfold readA
  rw [if_pos g.1, g.2]
  unfold fits
  rw [if_pos ⟨h0, h1⟩]
/-- What the document takes is a text of Text. -/
theorem takes_txt {m : List UInt8} {j : Nat} (hj : j < m.length) (hs : isSign m j) (h : takes m j) : ∃ a b : Int, a.natAbs ≤ 33554432 ∧ b.natAbs ≤ 33554432 ∧ m ++ [105] = txt a b ∧ bodyR m j = (zOf a b, 0) := by
  obtain ⟨h1, h2, h3, h4, h5⟩ := h
  refine ⟨_, _, h4, h5, ?_, by unfold bodyR; rw [if_pos ⟨h1, h2, h3, h4, h5⟩]⟩
  have e1 := readA_ok h1
  have e2 := readA_ok h2
  generalize (readA (m.take j)).1 = a at *
  generalize (readA (cutAt m j)).1 = b at *
  have hd : m.drop j = m.getD j 0 :: m.drop (j + 1) := by
    rw [List.drop_eq_getElem_cons hj, List.getD_eq_getElem?_getD, List.getElem?_eq_getElem hj]; rfl
  have hm : m = m.take j ++ m.drop j := (List.take_append_drop j m).symm
  unfold cutAt at e2
  unfold txt
  by_cases c : (m.getD j 0).toNat = 43
  · rw [if_pos c] at e2
    have hb : ¬ b < 0 := fun g => h3 ⟨c, g⟩
    have hc : m.getD j 0 = 43 := UInt8.toNat_inj.mp c
    rw [if_neg hb]
    conv => lhs; rw [hm, hd, hc, e1, e2]
    simp
  · rw [if_neg c] at e2
    have hc : m.getD j 0 = 45 := UInt8.toNat_inj.mp (hs.resolve_left c)
    have hb : b < 0 := by
      rw [← itoa_head, ← e2, hd, hc]; rfl
    rw [if_pos hb]
    conv => lhs; rw [hm, e1, e2]
    simp
/-- A text of Text, without its 'i'. -/
def bare (a b : Int) : List UInt8 := Lib.itoa a ++ ((if b < 0 then [] else [43]) ++ Lib.itoa b)
theorem txt_bare (a b : Int) : txt a b = bare a b ++ [105] := by unfold txt bare; simp
theorem bare_sign (a b : Int) : isSign (bare a b) (Lib.itoa a).length ∧ (Lib.itoa a).length < (bare a b).length ∧ cutAt (bare a b) (Lib.itoa a).length = Lib.itoa b ∧ (bare a b).take (Lib.itoa a).length = Lib.itoa a ∧ (((bare a b).getD (Lib.itoa a).length 0).toNat = 43 → ¬ b < 0) := by
  have n2 := List.length_pos_iff.2 (itoa_cons b)
  by_cases c : b < 0
  · have e : Lib.itoa b = 45 :: Lib.decDigits b.natAbs := by unfold Lib.itoa; rw [if_pos c]
    have hb : bare a b = Lib.itoa a ++ 45 :: Lib.decDigits b.natAbs := by unfold bare; rw [if_pos c, e]; rfl
    have hg : (bare a b).getD (Lib.itoa a).length 0 = 45 := by rw [hb]; exact Sign.get_at _ _ _
    refine ⟨.inr (by rw [hg]; rfl), by rw [hb]; simp, ?_, by rw [hb]; simp, fun g => by rw [hg] at g; exact absurd g (by decide)⟩
    unfold cutAt
    rw [hg, if_neg (by decide), hb, e]
    simp
  · have hb : bare a b = Lib.itoa a ++ 43 :: Lib.itoa b := by unfold bare; rw [if_neg c]; rfl
    have hg : (bare a b).getD (Lib.itoa a).length 0 = 43 := by rw [hb]; exact Sign.get_at _ _ _
    refine ⟨.inl (by rw [hg]; rfl), by rw [hb]; simp, ?_, by rw [hb]; simp, fun _ => c⟩
    unfold cutAt
    rw [hg, if_pos (by decide), hb]
    simp
theorem bare_no (a b : Int) : ∀ t, 1 ≤ t → t < (Lib.itoa a).length → ¬ isSign (bare a b) t := by
  intro t h1 h2
  have hg : (bare a b).getD t 0 = (Lib.itoa a).getD t 0 := by
    unfold bare
    rw [List.getD_eq_getElem?_getD, List.getD_eq_getElem?_getD, List.getElem?_append_left h2]
  have hd : ∃ u, (Lib.itoa a).getD t 0 ∈ Lib.decDigits u := by
    by_cases c : a < 0
    · have e : Lib.itoa a = 45 :: Lib.decDigits a.natAbs := by unfold Lib.itoa; rw [if_pos c]
      refine ⟨a.natAbs, ?_⟩
      · rw [e] at h2 ⊢
        obtain ⟨s, rfl⟩ : ∃ s, t = s + 1 := ⟨t - 1, by omega⟩
        have h3 : s < (Lib.decDigits a.natAbs).length := by simpa using h2
        rw [List.getD_cons_succ, List.getD_eq_getElem?_getD, List.getElem?_eq_getElem h3]
        exact List.getElem_mem h3
    · have e : Lib.itoa a = Lib.decDigits a.toNat := by unfold Lib.itoa; rw [if_neg c]
      refine ⟨a.toNat, ?_⟩
      rw [e] at h2 ⊢
      rw [List.getD_eq_getElem?_getD, List.getElem?_eq_getElem h2]
      exact List.getElem_mem h2
  obtain ⟨u, hu⟩ := hd
  have := dec_digs u _ hu
  unfold isSign
  rw [hg]
  omega
theorem ref_txt {a b : Int} (ha : a.natAbs ≤ 33554432) (hb : b.natAbs ≤ 33554432) : Ev (fun k => pylonref02_Read.l0 k ⟨(bare a b).toArray⟩ 1) (zOf a b, 0) := by
  obtain ⟨s1, s2, s3, s4, s5⟩ := bare_sign a b
  have n1 := List.length_pos_iff.2 (itoa_cons a)
  have l1 := Lib.itoa_length_le a (by omega) (by omega)
  have l2 := Lib.itoa_length_le b (by omega) (by omega)
  have hl : (bare a b).length ≤ 281474976710656 := by
    unfold bare
    split <;> simp <;> omega
  rcases rread_from (bare a b) hl _ 1 rfl with ⟨j, j0, j1, j2, j3, j4⟩ | ⟨_, j4⟩
  · have e : j = (Lib.itoa a).length := by
      rcases Nat.lt_trichotomy j (Lib.itoa a).length with g | g | g
      · exact absurd j3 (bare_no a b j j0 g)
      · exact g
      · exact absurd s1 (j4 _ n1 g)
    subst e
    have ht : takes (bare a b) (Lib.itoa a).length := by
      unfold takes
      rw [s3, s4, readA_itoa2 (by omega) (by omega), readA_itoa2 (by omega) (by omega)]
      exact ⟨rfl, rfl, fun g => s5 g.1 g.2, ha, hb⟩
    have hv : bodyR (bare a b) (Lib.itoa a).length = (zOf a b, 0) := by
      unfold bodyR
      rw [if_pos ht, s3, s4, readA_itoa2 (by omega) (by omega), readA_itoa2 (by omega) (by omega)]
    rw [hv] at j2
    exact j2
  · exact absurd s1 (j4 _ n1 s2)
/-- Read, both sides. -/
theorem pread_txt {a b : Int} (ha : a.natAbs ≤ 33554432) (hb : b.natAbs ≤ 33554432) : Ev (fun k => phasor_Read.f k ⟨(txt a b).toArray⟩) (zOf a b, 0) := by
  have hs := small_of ha hb
  have hbt := bits_of a b
  have l1 := Lib.itoa_length_le a (by omega) (by omega)
  have l2 := Lib.itoa_length_le b (by omega) (by omega)
  have hlen : (txt a b).length ≤ 281474976710656 := by
    unfold txt
    split <;> simp <;> omega
  have n1 := List.length_pos_iff.2 (itoa_cons a)
  have ht : (txt a b).take (Lib.itoa a).length = Lib.itoa a := by unfold txt; rw [List.take_left']; rfl
  have hd : ts (tp ((txt a b).drop (Lib.itoa a).length)) = Lib.itoa b := by
    unfold txt
    rw [List.drop_left']
    · exact trims_txt b
    · rfl
  have h2 : (Lib.itoa a).length ≤ (txt a b).length := by unfold txt; simp
  have r1 := readA_itoa2 (n := a) (by omega) (by omega)
  have r2 := readA_itoa2 (n := b) (by omega) (by omega)
  have key := pread_yes (txt a b) hlen (last_txt a b) n1 h2 (z := zOf a b) (e := 0) (a := a) (b := b) (by rw [ht, hd, r1, r2]; exact of_yes ha hb) hs hbt
  rw [ht, hd, r1, r2, if_pos ⟨rfl, rfl, rfl, rfl⟩] at key
  exact key
def isTxt (l : List UInt8) : Prop := ∃ a b : Int, a.natAbs ≤ 33554432 ∧ b.natAbs ≤ 33554432 ∧ l = txt a b
theorem pread_not {l : List UInt8} (hl : l.length ≤ 281474976710656) (h : ¬ isTxt l) : Ev (fun k => phasor_Read.f k ⟨l.toArray⟩) (cx 0 0, 1) := by
  by_cases g : lastAny l < 1
  · exact pread_no l hl g
  · obtain ⟨c, hc⟩ : ∃ c : Nat, lastAny l = c := ⟨(lastAny l).toNat, by omega⟩
    have hr := lastAny_range l
    obtain ⟨z, e, a, b, e1, e2, e3, e4, e5⟩ := of_any (readA (l.take c)).1 (readA (ts (tp (l.drop c)))).1
    have key := pread_yes l hl hc (by omega) (by omega) e1 e2 e3
    rw [if_neg (fun q => h ⟨a, b, e2.1.2, e2.2.2, q.2.2.2.symm⟩)] at key
    exact key
theorem rread_f {m : List UInt8} (hl : m.length ≤ 281474976710655) {r : Cx × Int} (h : Ev (fun k => pylonref02_Read.l0 k ⟨m.toArray⟩ 1) r) : Ev (fun k => pylonref02_Read.f k ⟨(m ++ [105]).toArray⟩) r := by
  have hz : (m ++ [(105 : UInt8)]).length = m.length + 1 := by simp
  have hw : wrap64 (((m.length + 1 : Nat) : Int) - 1) = (m.length : Int) := by rw [i64in (by omega) (by omega)]; omega
  have hg : (m ++ [(105 : UInt8)]).getD m.length 0 = 105 := by
    rw [List.getD_eq_getElem?_getD, List.getElem?_append_right (Nat.le_refl _), Nat.sub_self]; rfl
  unfold pylonref02_Read.f
  simp only [sz_mk, hz, if_neg (show ¬ ((m.length + 1 : Nat) : Int) = 0 by omega), hw, if_pos (show (0 : Int) ≤ (m.length : Int) by omega), if_pos (show (m.length : Int) < ((m.length + 1 : Nat) : Int) by omega), bt_getD, hg, if_pos (show (((105 : UInt8).toNat : Nat) : Int) = 105 by rfl), if_pos (show (m.length : Int) ≤ ((m.length + 1 : Nat) : Int) by omega), Int.toNat_natCast, take_mk, List.take_left']
  simpa using h
theorem rread_none {l : List UInt8} (hl : l.length ≤ 281474976710656) (h : ¬ ∃ m, l = m ++ [105]) : Ev (fun k => pylonref02_Read.f k ⟨l.toArray⟩) (cx 0 0, 1) := by
  unfold pylonref02_Read.f
  by_cases e : l = []
  · subst e
    simp only [sz_mk, List.length_nil]
    exact Ev.now _
  · have hp := List.length_pos_iff.2 e
    have hw : wrap64 ((l.length : Int) - 1) = ((l.length - 1 : Nat) : Int) := by rw [i64in (by omega) (by omega)]; omega
    have hn : ¬ ((l.getD (l.length - 1) 0).toNat : Int) = 105 := by
      intro g
      apply h
      have hx : l.getD (l.length - 1) 0 = 105 := UInt8.toNat_inj.mp (by have : (105 : UInt8).toNat = 105 := rfl; omega)
      refine ⟨l.take (l.length - 1), ?_⟩
      have := take_last (l := l) (n := l.length - 1) (by omega)
      rw [hx, show l.length - 1 + 1 = l.length by omega, List.take_length] at this
      exact this
    simp only [sz_mk, if_neg (show ¬ (l.length : Int) = 0 by omega), hw, if_pos (show (0 : Int) ≤ ((l.length - 1 : Nat) : Int) by omega), if_pos (show ((l.length - 1 : Nat) : Int) < (l.length : Int) by omega), bt_getD, if_neg hn]
    exact Ev.now _
theorem read_same {l : List UInt8} (hl : l.length ≤ 281474976710655) : ∃ r, Ev (fun k => phasor_Read.f k ⟨l.toArray⟩) r ∧ Ev (fun k => pylonref02_Read.f k ⟨l.toArray⟩) r := by
  by_cases h : isTxt l
  · obtain ⟨a, b, ha, hb, rfl⟩ := h
    refine ⟨_, pread_txt ha hb, ?_⟩
    have := hl
    rw [txt_bare] at this ⊢
    exact rread_f (by simp at this; omega) (ref_txt ha hb)
  · refine ⟨_, pread_not (by omega) h, ?_⟩
    by_cases g : ∃ m, l = m ++ [105]
    · obtain ⟨m, rfl⟩ := g
      have hm : m.length ≤ 281474976710655 := by simp at hl; omega
      refine rread_f hm ?_
      rcases rread_from m (by omega) _ 1 rfl with ⟨j, j0, j1, j2, j3, j4⟩ | ⟨h2, _⟩
      · by_cases q : takes m j
        · obtain ⟨a, b, q1, q2, q3, q4⟩ := takes_txt j1 j3 q
          exact absurd ⟨a, b, q1, q2, q3⟩ h
        · have hv : bodyR m j = (cx 0 0, 1) := by unfold bodyR; rw [if_neg q]
          rw [hv] at j2
          exact j2
      · exact h2
    · exact rread_none (by omega) g
end Go.Proofs.YtofedlghaopciaaGreatDoor.PureA
end
