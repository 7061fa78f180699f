/- The law PhasorFours, walked by hand. -/
import Derived.Test.YtofedlghaopciaaFourLQ
set_option linter.unusedVariables false
set_option linter.unusedSimpArgs false
namespace Go.Proofs.Ytofedlghaopciaa.FourW
open Go Go.RowKit Go.Proofs.Ytofedlghaopciaa.PQ Go.Proofs.YtofedlghaopciaaW.PrintWords Go.Proofs.YtofedlghaopciaaW.PrintLast Go.Proofs.YtofedlghaopciaaW.PrintMore
attribute [local go_sem high] fx_eql fx_neq fx_lss fx_leq fx_gtr fx_geq fx_add fx_sub fx_mul fx_neg fx_toint cxx_add cxx_sub cxx_mul cxx_eql cxx_neq cxx_pick st_float st_complex
/-- What the round n reads of what came in. -/
def XY (w : World) (xs ys : Nat → Int) (a b : Nat) (w' : World) : Prop := w'.cell? ⟨w.heap.size, a, none⟩ = some (.int .i16 (xs a)) ∧ w'.cell? ⟨w.heap.size, b, none⟩ = some (.int .i16 (xs b)) ∧ w'.cell? ⟨w.heap.size + 1, a, none⟩ = some (.int .i16 (ys a)) ∧ w'.cell? ⟨w.heap.size + 1, b, none⟩ = some (.int .i16 (ys b))
theorem XY_away {w w' : World} {xs ys : Nat → Int} {a b c k : Nat} {v : Value} (h : XY w xs ys a b w') (h1 : c ≠ w.heap.size) (h2 : c ≠ w.heap.size + 1) : XY w xs ys a b (w'.setCell ⟨c, k, none⟩ v) :=
  ⟨(World.cell?_setCell_other (h := fun x => h1 (by injection x)) ..).trans h.1, (World.cell?_setCell_other (h := fun x => h1 (by injection x)) ..).trans h.2.1, (World.cell?_setCell_other (h := fun x => h2 (by injection x)) ..).trans h.2.2.1, (World.cell?_setCell_other (h := fun x => h2 (by injection x)) ..).trans h.2.2.2⟩
/-- What the law's walk leans on: every step's numbers. -/
structure Fours (xs ys : Nat → Int) (P Q S fP fQ fS z : Nat → Cx) (hv mv : Nat → Nat) : Prop where
  p : ∀ n, n < 4 → P n = numZ (xs (2 * n)) (xs (2 * n + 1))
  q : ∀ n, n < 4 → Q n = numZ (ys (2 * n)) (ys (2 * n + 1))
  s : ∀ n, n < 4 → caddok (P n).re (P n).im (Q n).re (Q n).im = true ∧ S n = sumZ (P n) (Q n)
  h0 : hv 0 = 0
  h : ∀ n, n < 4 → ∃ q, pylonlaw02_square.f (P n) = some q ∧ faddok (hv n) q = true ∧ hv (n + 1) = fadd (hv n) q
  aP : (∀ n, n < 4 → phasor_Fits.f (P n) = some true) ∧ sumsOk P (-1) ∧ ∀ n, n < 4 → fP n = part P (-1) n 4
  aQ : (∀ n, n < 4 → phasor_Fits.f (Q n) = some true) ∧ sumsOk Q (-1) ∧ ∀ n, n < 4 → fQ n = part Q (-1) n 4
  aS : (∀ n, n < 4 → phasor_Fits.f (S n) = some true) ∧ sumsOk S (-1) ∧ ∀ n, n < 4 → fS n = part S (-1) n 4
  aB : (∀ n, n < 4 → wholeYes (fP n)) ∧ sumsOk fP 1 ∧ (∀ j, j < 4 → cQuoBits (part fP 1 j 4).re (part fP 1 j 4).im four 0 = some ((z j).re, (z j).im)) ∧ (∀ j, j < 4 → wholeQ (z j))
  e : ∀ n, n < 4 → ceq (z n).re (z n).im (P n).re (P n).im = true
  m0 : mv 0 = 0
  m : ∀ n, n < 4 → ∃ q, pylonlaw02_square.f (fP n) = some q ∧ faddok (mv n) q = true ∧ mv (n + 1) = fadd (mv n) q
  t : ∀ n, n < 4 → caddok (fP n).re (fP n).im (fQ n).re (fQ n).im = true ∧ ceq (fS n).re (fS n).im (caddre (fP n).re (fP n).im (fQ n).re (fQ n).im) (caddim (fP n).re (fP n).im (fQ n).re (fQ n).im) = true
  l : fmulok four (hv 4) = true ∧ feq (mv 4) (fmul four (hv 4)) = true
def T8 : Bool × List (List Nat × List Nat) := (true, [([], []), ([], []), ([], []), ([2], [2]), ([3], [3]), ([4], [4]), ([], []), ([6], [6]), ([7], [7]), ([8], [8]), ([9], [9]), ([5, 10], [5, 10]), ([], []), ([12], [12]), ([13], [13]), ([14], [14]), ([], []), ([16], [16]), ([17], [17]), ([18], [18]), ([19], [19]), ([15, 20, 11], [15, 20]), ([0, 0, 2, 3, 4, 5, 6, 7, 8, 9, 10, 11], [0]), ([22, 11, 21, 0, 2, 3, 4, 5, 6, 7, 8, 9, 10, 11], [11, 22]), ([1, 0, 1, 2, 3, 4, 5, 6, 7, 8, 9, 10, 11, 12, 13, 14, 15, 16, 17, 18, 19, 20, 21, 22, 23], [1]), ([24, 21, 23, 0, 1, 2, 3, 4, 5, 6, 7, 8, 9, 10, 11, 12, 13, 14, 15, 16, 17, 18, 19, 20, 21, 22, 23], [21, 24])])
def B8 : List Nat := [0, 0, 0, 4, 12, 28, 0, 64, 192, 448, 960, 2044, 0, 4096, 12288, 28672, 0, 65536, 196608, 458752, 983040, 2097148, 4093, 8388605, 16777215, 33554431]
theorem tab8 : rtab .any (opsOf Try.f3 8) = T8 := by kernel_rfl
theorem bits8 : waitsOk T8.2 B8 = true := by kernel_rfl
set_option maxHeartbeats 8000000 in
set_option maxRecDepth 100000 in
theorem law_calls (xs ys : Nat → Int) (P Q S fP fQ fS z : Nat → Cx) (hv mv : Nat → Nat) (w : World) (haw : pylonlaw02_awake.f = some true) (H0 : Fours xs ys P Q S fP fQ fS z hv mv) :
    Calls Try.prog 3 #[.agg (arr8 xs), .agg (arr8 ys)] w fun e w' => e = .returned (.bool true) ∧ Below w.heap.size w w' := by
  have H := Aside0.mk H0
  have HA := Aside0.mk haw
  clear H0 haw
  go_enter Try.func3, Try.ntmps3
  go_wp2_with (fail)
  refine (pylonlaw02_awake.calls true _ HA.out).mono ?_
  rintro e w1 ⟨rfl, hb⟩
  have HX := Aside0.mk ((((Ints.made w xs 23).alloc (.cells (arr8 ys) 23)).below hb))
  have HY : Aside0 (Ints w1 (w.heap.size + 1) ys) := Aside0.mk (by
    have := Ints.made (w.alloc (.cells (arr8 xs) 23)) ys 23
    simp only [World.size_alloc] at this
    exact this.below hb)
  have HB : Aside0 (Below w.heap.size w w1) := Aside0.mk ((((Below.refl _ _).alloc (Nat.le_refl _) _).alloc (by simp) _).trans (hb.mono (by simp; omega)))
  have HZ : Aside0 (w.heap.size + 1 < w1.heap.size) := Aside0.mk (by have := hb.size; simp at this; omega)
  clear hb
  go_wp2
  go_loopg [8, 22] 4 (fun g s8 s22 wx => ∃ n : Nat, n + g = 4 ∧ s8 = .float .f64 (hv n) ∧ s22 = .int .i64 n ∧ Lay w w1.heap.size xs ys (mid zz P n) (mid zz Q n) (mid zz S n) wx)
  case atStart =>
    refine ⟨0, rfl, by rw [H.out.h0], rfl, ?_⟩
    have h2 := HB.out
    have h1 := Row.made w1 zz
    have e2 := Row.made (w1.alloc (.cells arr0 26)) zz
    have e3 := Row.made ((w1.alloc (.cells arr0 26)).alloc (.cells arr0 26)) zz
    simp only [World.size_alloc] at e2 e3
    exact ⟨((HX.out.alloc _).alloc _).alloc _, ((HY.out.alloc _).alloc _).alloc _, ((h1.alloc _).alloc _), e2.alloc _, e3, HZ.out, ((h2.alloc (by have := HZ.out; omega) _).alloc (by have := HZ.out; simp; omega) _).alloc (by have := HZ.out; simp; omega) _⟩
  case round =>
    obtain ⟨n, hn, rfl, rfl, hL⟩ := hrel
    have HL := Aside0.mk hL
    clear hL
    cases gk with
    | zero =>
      obtain rfl : n = 4 := by omega
      as_aux_lemma =>
       have RP : Aside0 (Row wr w1.heap.size P) := Aside0.mk (HL.out.p.congr (fun j hj => by unfold mid; rw [if_pos hj]))
       have RQ : Aside0 (Row wr (w1.heap.size + 1) Q) := Aside0.mk (HL.out.q.congr (fun j hj => by unfold mid; rw [if_pos hj]))
       have RS : Aside0 (Row wr (w1.heap.size + 1 + 1) S) := Aside0.mk (HL.out.s.congr (fun j hj => by unfold mid; rw [if_pos hj]))
       have B0 : Aside0 (Below w.heap.size w wr) := Aside0.mk HL.out.below
       have hsz : w.heap.size ≤ wr.heap.size := HL.out.below.size
       have HSZ := Aside0.mk hsz
       clear hsz
       have cpr := RP.out
       have cp0 := cpr.1 0 (by decide)
       have cp1 := cpr.1 1 (by decide)
       have cp2 := cpr.1 2 (by decide)
       have cp3 := cpr.1 3 (by decide)
       have cpz := cpr.2.2
       clear cpr
       go_wp2_with (fail)
       (with_reducible refine (four_yes P _ H.out.aP.1 H.out.aP.2.1).mono ?_)
       rintro e w2 ⟨rfl, hb⟩
       clear cp0 cp1 cp2 cp3 cpz
       have B1 := Aside0.mk (B0.out.trans (hb.mono HSZ.out))
       have HS2 := Aside0.mk hb.size
       have RP2 := Aside0.mk ((RP.out.below hb).alloc (.cells (arr fun k => part P (-1) k 4) 26))
       have RS2 := Aside0.mk ((RS.out.below hb).alloc (.cells (arr fun k => part P (-1) k 4) 26))
       have RF2 : Aside0 (Row (w2.alloc (.cells (arr fun k => part P (-1) k 4) 26)) w2.heap.size fP) := Aside0.mk ((Row.made w2 _).congr (fun j hj => (H.out.aP.2.2 j hj).symm))
       have cqr := RQ.out.below hb
       have cq0 := cqr.1 0 (by decide)
       have cq1 := cqr.1 1 (by decide)
       have cq2 := cqr.1 2 (by decide)
       have cq3 := cqr.1 3 (by decide)
       have cqz := cqr.2.2
       clear cqr
       clear hb
       go_wp2_with (fail)
       (with_reducible refine (four_yes Q _ H.out.aQ.1 H.out.aQ.2.1).mono ?_)
       rintro e w3 ⟨rfl, hb⟩
       clear cq0 cq1 cq2 cq3 cqz
       have B2 := Aside0.mk ((B1.out.alloc (by have := HSZ.out; have := HS2.out; omega) _).trans (hb.mono (by have := HSZ.out; have := HS2.out; simp; omega)))
       have HS3 := Aside0.mk hb.size
       have RP3 := Aside0.mk ((RP2.out.below hb).alloc (.cells (arr fun k => part Q (-1) k 4) 26))
       have RF3 := Aside0.mk ((RF2.out.below hb).alloc (.cells (arr fun k => part Q (-1) k 4) 26))
       have RG3 : Aside0 (Row (w3.alloc (.cells (arr fun k => part Q (-1) k 4) 26)) w3.heap.size fQ) := Aside0.mk ((Row.made w3 _).congr (fun j hj => (H.out.aQ.2.2 j hj).symm))
       have csr := RS2.out.below hb
       have cs0 := csr.1 0 (by decide)
       have cs1 := csr.1 1 (by decide)
       have cs2 := csr.1 2 (by decide)
       have cs3 := csr.1 3 (by decide)
       have csz := csr.2.2
       clear csr
       clear hb
       go_wp2_with (fail)
       (with_reducible refine (four_yes S _ H.out.aS.1 H.out.aS.2.1).mono ?_)
       rintro e w4 ⟨rfl, hb⟩
       clear cs0 cs1 cs2 cs3 csz
       have B3 := Aside0.mk ((B2.out.alloc (by have := HSZ.out; have := HS2.out; have := HS3.out; simp at this; omega) _).trans (hb.mono (by have := HSZ.out; have := HS2.out; have := HS3.out; simp at this; simp; omega)))
       have HS4 := Aside0.mk hb.size
       have RP4 := Aside0.mk ((RP3.out.below hb).alloc (.cells (arr fun k => part S (-1) k 4) 26))
       have RF4 := Aside0.mk ((RF3.out.below hb).alloc (.cells (arr fun k => part S (-1) k 4) 26))
       have RG4 := Aside0.mk ((RG3.out.below hb).alloc (.cells (arr fun k => part S (-1) k 4) 26))
       have RH4 : Aside0 (Row (w4.alloc (.cells (arr fun k => part S (-1) k 4) 26)) w4.heap.size fS) := Aside0.mk ((Row.made w4 _).congr (fun j hj => (H.out.aS.2.2 j hj).symm))
       have cfr := RF3.out.below hb
       have cf0 := cfr.1 0 (by decide)
       have cf1 := cfr.1 1 (by decide)
       have cf2 := cfr.1 2 (by decide)
       have cf3 := cfr.1 3 (by decide)
       have cfz := cfr.2.2
       clear cfr
       clear hb
       go_wp2_with (fail)
       (with_reducible refine (back_yes fP z _ H.out.aB.1 H.out.aB.2.1 H.out.aB.2.2.1 H.out.aB.2.2.2).mono ?_)
       rintro e w5 ⟨rfl, hb⟩
       clear cf0 cf1 cf2 cf3 cfz
       have B4 := Aside0.mk ((B3.out.alloc (by have h1 := HSZ.out; have h2 := HS2.out; have h3 := HS3.out; have h4 := HS4.out; simp at h3 h4; omega) _).trans (hb.mono (by have h1 := HSZ.out; have h2 := HS2.out; have h3 := HS3.out; have h4 := HS4.out; simp at h3 h4; simp; omega)))
       have HS5 := Aside0.mk hb.size
       have RF5 := Aside0.mk ((RF4.out.below hb).alloc (.cells (arr z) 26))
       have RG5 := Aside0.mk ((RG4.out.below hb).alloc (.cells (arr z) 26))
       have RH5 := Aside0.mk ((RH4.out.below hb).alloc (.cells (arr z) 26))
       have hneq := arr_neq z P H.out.e
       have cpr := RP4.out.below hb
       have cp0 := cpr.1 0 (by decide)
       have cp1 := cpr.1 1 (by decide)
       have cp2 := cpr.1 2 (by decide)
       have cp3 := cpr.1 3 (by decide)
       have cpz := cpr.2.2
       clear cpr
       clear hb
       go_wp2_with (fail)
       clear cp0 cp1 cp2 cp3 cpz
       clear hneq
       have HB5 : Aside0 (Below w.heap.size w (w5.alloc (.cells (arr z) 26))) := Aside0.mk (B4.out.alloc (by have h1 := HSZ.out; have h2 := HS2.out; have h3 := HS3.out; have h4 := HS4.out; have h5 := HS5.out; simp at h3 h4 h5; omega) _)
       go_loopg [18, 104] 4 (fun g s18 s104 wx => ∃ n : Nat, n + g = 4 ∧ s18 = .float .f64 (mv n) ∧ s104 = .int .i64 n ∧ Below w.heap.size w wx ∧ Row wx w2.heap.size fP ∧ Row wx w3.heap.size fQ ∧ Row wx w4.heap.size fS ∧ w.heap.size ≤ wx.heap.size)
       case atStart => exact ⟨0, rfl, by rw [H.out.m0], rfl, HB5.out, RF5.out, RG5.out, RH5.out, HB5.out.size⟩
       case round =>
        obtain ⟨n, hn, rfl, rfl, hb0, hrf, hrg, hrh, hsz⟩ := hrel
        cases gk with
        | zero =>
          obtain rfl : n = 4 := by omega
          obtain ⟨hl1, hl2⟩ := H.out.l
          have HB6 := Aside0.mk hb0
          clear hb0 hrf hrg hrh hsz
          go_wp2
          go_ret
          exact ⟨rfl, HB6.out⟩
        | succ g =>
          have hlt : n < 4 := by omega
          obtain ⟨q, hq1, hq2, hq3⟩ := H.out.m n hlt
          obtain ⟨ht1, ht2⟩ := H.out.t n hlt
          have HSQ := Aside0.mk (fun W => pylonlaw02_square.calls (fP n) q W hq1)
          have HV3 := Aside0.mk hq3
          have HK := Aside0.mk (show n + 1 + g = 4 by omega)
          have HR1 := Aside0.mk hrf
          have HR2 := Aside0.mk hrg
          have HR3 := Aside0.mk hrh
          have HB6 := Aside0.mk hb0
          have HZ6 := Aside0.mk hsz
          have hc := hrf.1 n hlt
          have hd := Aside0.mk (fun (W : World) (hb : Below wr.heap.size wr W) => (show W.cell? ⟨w2.heap.size, n, none⟩ = _ ∧ W.cell? ⟨w3.heap.size, n, none⟩ = _ ∧ W.cell? ⟨w4.heap.size, n, none⟩ = _ from ⟨(hrf.below hb).1 n hlt, (hrg.below hb).1 n hlt, (hrh.below hb).1 n hlt⟩))
          clear hq1 hq3 hb0 hrf hrg hrh hsz
          rcases four_of hlt with rfl | rfl | rfl | rfl
          all_goals
           go_wp2_with (fail)
           (with_reducible refine (HSQ.out _).mono ?_)
           rintro e w6 ⟨rfl, hb⟩
           have HBB := Aside0.mk hb
           obtain ⟨ha, hb', hc'⟩ := hd.out _ hb
           clear hb hc
           go_wp2
           refine still_all (by kernel_rfl) (by kernel_rfl) ?_
           iterate 11 still_step
           refine wpStill_nil ?_
           go_wp2
           go_roundg g
           case measure => omega
           case rel =>
            exact ⟨_, HK.out, by rw [HV3.out], rfl, pw_below_drewN (HB6.out.trans (HBB.out.mono HZ6.out)) 1, (HR1.out.below HBB.out).draw 1, (HR2.out.below HBB.out).draw 1, (HR3.out.below HBB.out).draw 1, Nat.le_trans HZ6.out HBB.out.size⟩
    | succ g =>
      have hlt : n < 4 := by omega
      have kw0 : IntKind.i64.wrap 0 = 0 := by decide
      have kw1 : IntKind.i64.wrap 1 = 1 := by decide
      have kw2 : IntKind.i64.wrap 2 = 2 := by decide
      have kw3 : IntKind.i64.wrap 3 = 3 := by decide
      have kw4 : IntKind.i64.wrap 4 = 4 := by decide
      have kw5 : IntKind.i64.wrap 5 = 5 := by decide
      have kw6 : IntKind.i64.wrap 6 = 6 := by decide
      have kw7 : IntKind.i64.wrap 7 = 7 := by decide
      have HP1 := Aside0.mk (H.out.p n hlt)
      have HQ1 := Aside0.mk (H.out.q n hlt)
      have HS1 := Aside0.mk (H.out.s n hlt).2
      have hadd := (H.out.s n hlt).1
      obtain ⟨q, hq1, hq2, hq3⟩ := H.out.h n hlt
      have HSQ := Aside0.mk (fun W => pylonlaw02_square.calls (P n) q W hq1)
      have HV3 := Aside0.mk hq3
      have HK := Aside0.mk (show n + 1 + g = 4 by omega)
      have HN := Aside0.mk hlt
      clear hq1 hq3
      -- the stores of one round
      have G1 : Aside0 (∀ W, Lay w w1.heap.size xs ys (mid zz P n) (mid zz Q n) (mid zz S n) W → Lay w w1.heap.size xs ys (mid zz P (n + 1)) (mid zz Q (n + 1)) (mid zz S n) ((W.setCell ⟨w1.heap.size, n, none⟩ (.complex .f64 (numZ (xs (2 * n)) (xs (2 * n + 1))).re (numZ (xs (2 * n)) (xs (2 * n + 1))).im)).setCell ⟨w1.heap.size + 1, n, none⟩ (.complex .f64 (numZ (ys (2 * n)) (ys (2 * n + 1))).re (numZ (ys (2 * n)) (ys (2 * n + 1))).im)).drew) := Aside0.mk (fun W h =>
        (((h.setp n hlt _).setq n hlt _).congr (fun j _ => by rw [← mid_step zz P n j, HP1.out]) (fun j _ => by rw [← mid_step zz Q n j, HQ1.out]) (fun j _ => rfl)).draw 1)
      have G2 : Aside0 (∀ W, Lay w w1.heap.size xs ys (mid zz P (n + 1)) (mid zz Q (n + 1)) (mid zz S n) W → Lay w w1.heap.size xs ys (mid zz P (n + 1)) (mid zz Q (n + 1)) (mid zz S (n + 1)) ((W.setCell ⟨w1.heap.size + 1 + 1, n, none⟩ (.complex .f64 (caddre (P n).re (P n).im (Q n).re (Q n).im) (caddim (P n).re (P n).im (Q n).re (Q n).im))).drew)) := Aside0.mk (fun W h =>
        ((h.sets n hlt (sumZ (P n) (Q n))).congr (fun j _ => rfl) (fun j _ => rfl) (fun j _ => by rw [← mid_step zz S n j, HS1.out])).draw 1)
      have G3 : Aside0 (∀ W, Lay w w1.heap.size xs ys (mid zz P (n + 1)) (mid zz Q (n + 1)) (mid zz S (n + 1)) W → W.cell? ⟨w1.heap.size, n, none⟩ = some (.complex .f64 (P n).re (P n).im)) := Aside0.mk (fun W h => by have := h.p.1 n hlt; rwa [mid_self] at this)
      have G4 : Aside0 (∀ W, Lay w w1.heap.size xs ys (mid zz P (n + 1)) (mid zz Q (n + 1)) (mid zz S n) W → W.cell? ⟨w1.heap.size, n, none⟩ = some (.complex .f64 (P n).re (P n).im) ∧ W.cell? ⟨w1.heap.size + 1, n, none⟩ = some (.complex .f64 (Q n).re (Q n).im)) := Aside0.mk (fun W h => ⟨by have := h.p.1 n hlt; rwa [mid_self] at this, by have := h.q.1 n hlt; rwa [mid_self] at this⟩)
      have HXY : Aside0 (∀ W, Lay w w1.heap.size xs ys (mid zz P n) (mid zz Q n) (mid zz S n) W → XY w xs ys (2 * n) (2 * n + 1) W.drew) := Aside0.mk (fun W h => ⟨h.x.1 _ (by omega), h.x.1 _ (by omega), h.y.1 _ (by omega), h.y.1 _ (by omega)⟩)
      have hlo : w.heap.size + 1 < w1.heap.size := HZ.out
      rcases four_of hlt with rfl | rfl | rfl | rfl
      all_goals simp only [Nat.mul_zero, Nat.mul_one, Nat.reduceMul, Nat.zero_add, Nat.reduceAdd] at G1 G2 G3 G4 HXY
      all_goals
        as_aux_lemma =>
         have hx0 := HL.out.x.1 0 (by decide)
         have hx1 := HL.out.x.1 1 (by decide)
         have hx2 := HL.out.x.1 2 (by decide)
         have hx3 := HL.out.x.1 3 (by decide)
         have hx4 := HL.out.x.1 4 (by decide)
         have hx5 := HL.out.x.1 5 (by decide)
         have hx6 := HL.out.x.1 6 (by decide)
         have hx7 := HL.out.x.1 7 (by decide)
         have hy0 := HL.out.y.1 0 (by decide)
         have hy1 := HL.out.y.1 1 (by decide)
         have hy2 := HL.out.y.1 2 (by decide)
         have hy3 := HL.out.y.1 3 (by decide)
         have hy4 := HL.out.y.1 4 (by decide)
         have hy5 := HL.out.y.1 5 (by decide)
         have hy6 := HL.out.y.1 6 (by decide)
         have hy7 := HL.out.y.1 7 (by decide)
         have cpr := HL.out.p
         have cp0 := cpr.1 0 (by decide)
         have cp1 := cpr.1 1 (by decide)
         have cp2 := cpr.1 2 (by decide)
         have cp3 := cpr.1 3 (by decide)
         have cpf := cpr.2.1
         have cpz := cpr.2.2
         clear cpr
         have cqr := HL.out.q
         have cq0 := cqr.1 0 (by decide)
         have cq1 := cqr.1 1 (by decide)
         have cq2 := cqr.1 2 (by decide)
         have cq3 := cqr.1 3 (by decide)
         have cqf := cqr.2.1
         have cqz := cqr.2.2
         clear cqr
         go_wp2
         refine start_ (n := 26) (S := XY w xs ys _ _) (ds := []) #[false, false, false, false, false, false, false, false, false, false, false, false, false, false, false, false, false, false, false, false, false, false, false, false, false, false] (by kernel_rfl) rfl rfl (HXY.out _ HL.out) (fun hHeld => ?_)
         refine with_tabW tab8 bits8 (fun HT_ HW_ => ?_)
         refine pure_ (i := 0) (N := some 25) (v := ?_) (a' := ?_) #[true, false, false, false, false, false, false, false, false, false, false, false, false, false, false, false, false, false, false, false, false, false, false, false, false, false] rfl rfl (any_of HT_.out (by kernel_rfl)) (fun _ _ _ h => h) (Or.inl ⟨by rfl, ?_⟩) ?_ ?_
         rotate_left
         · intro w'
           go_simp
           with_reducible rfl
         rotate_left
         · simp only [Act.put, List.setIfInBounds_toArray, List.set_cons_zero, List.set_cons_succ]
           rfl
         refine pure_ (i := 1) (N := some 26) (v := ?_) (a' := ?_) #[true, true, false, false, false, false, false, false, false, false, false, false, false, false, false, false, false, false, false, false, false, false, false, false, false, false] rfl rfl (any_of HT_.out (by kernel_rfl)) (fun _ _ _ h => h) (Or.inl ⟨by rfl, ?_⟩) ?_ ?_
         rotate_left
         · intro w'
           go_simp
           with_reducible rfl
         rotate_left
         · simp only [Act.put, List.setIfInBounds_toArray, List.set_cons_zero, List.set_cons_succ]
           rfl
         refine pure_ (i := 2) (N := some 27) (v := ?_) (a' := ?_) #[true, true, true, false, false, false, false, false, false, false, false, false, false, false, false, false, false, false, false, false, false, false, false, false, false, false] rfl rfl (any_of HT_.out (by kernel_rfl)) (fun _ _ _ h => h) (Or.inl ⟨by rfl, ?_⟩) ?_ ?_
         rotate_left
         · intro w'
           go_simp
           with_reducible rfl
         rotate_left
         · simp only [Act.put, List.setIfInBounds_toArray, List.set_cons_zero, List.set_cons_succ]
           rfl
         refine pure_ (i := 3) (N := some 28) (v := ?_) (a' := ?_) #[true, true, true, true, false, false, false, false, false, false, false, false, false, false, false, false, false, false, false, false, false, false, false, false, false, false] rfl rfl (any_of HT_.out (by kernel_rfl)) (fun _ _ _ h => h) (Or.inl ⟨by rfl, ?_⟩) ?_ ?_
         rotate_left
         · intro w'
           go_simp
           with_reducible rfl
         rotate_left
         · simp only [Act.put, List.setIfInBounds_toArray, List.set_cons_zero, List.set_cons_succ]
           rfl
         refine pure_ (i := 4) (N := some 29) (v := ?_) (a' := ?_) #[true, true, true, true, true, false, false, false, false, false, false, false, false, false, false, false, false, false, false, false, false, false, false, false, false, false] rfl rfl (any_of HT_.out (by kernel_rfl)) (fun _ _ _ h => h) (Or.inl ⟨by rfl, ?_⟩) ?_ ?_
         rotate_left
         · intro w'
           go_simp
           with_reducible rfl
         rotate_left
         · simp only [Act.put, List.setIfInBounds_toArray, List.set_cons_zero, List.set_cons_succ]
           rfl
         refine take_ (i := 5) (N := some 30) (v := ?_) (a' := ?_) #[true, true, true, true, true, true, false, false, false, false, false, false, false, false, false, false, false, false, false, false, false, false, false, false, false, false] rfl rfl (take_ofW HT_.out HW_.out (by kernel_rfl)) (fun _ _ _ h => h) (Or.inl ⟨by rfl, ?_⟩) hHeld ?_ ?_
         rotate_left
         · rintro w' ⟨s0, s1, s2, s3⟩
           go_simp
           with_reducible rfl
         rotate_left
         · simp only [Act.put, List.setIfInBounds_toArray, List.set_cons_zero, List.set_cons_succ]
           rfl
         refine pure_ (i := 6) (N := some 31) (v := ?_) (a' := ?_) #[true, true, true, true, true, true, true, false, false, false, false, false, false, false, false, false, false, false, false, false, false, false, false, false, false, false] rfl rfl (any_of HT_.out (by kernel_rfl)) (fun _ _ _ h => h) (Or.inl ⟨by rfl, ?_⟩) ?_ ?_
         rotate_left
         · intro w'
           go_simp
           with_reducible rfl
         rotate_left
         · simp only [Act.put, List.setIfInBounds_toArray, List.set_cons_zero, List.set_cons_succ]
           rfl
         refine pure_ (i := 7) (N := some 32) (v := ?_) (a' := ?_) #[true, true, true, true, true, true, true, true, false, false, false, false, false, false, false, false, false, false, false, false, false, false, false, false, false, false] rfl rfl (any_of HT_.out (by kernel_rfl)) (fun _ _ _ h => h) (Or.inl ⟨by rfl, ?_⟩) ?_ ?_
         rotate_left
         · intro w'
           go_simp
           with_reducible rfl
         rotate_left
         · simp only [Act.put, List.setIfInBounds_toArray, List.set_cons_zero, List.set_cons_succ]
           rfl
         refine pure_ (i := 8) (N := some 33) (v := ?_) (a' := ?_) #[true, true, true, true, true, true, true, true, true, false, false, false, false, false, false, false, false, false, false, false, false, false, false, false, false, false] rfl rfl (any_of HT_.out (by kernel_rfl)) (fun _ _ _ h => h) (Or.inl ⟨by rfl, ?_⟩) ?_ ?_
         rotate_left
         · intro w'
           go_simp
           with_reducible rfl
         rotate_left
         · simp only [Act.put, List.setIfInBounds_toArray, List.set_cons_zero, List.set_cons_succ]
           rfl
         refine pure_ (i := 9) (N := some 34) (v := ?_) (a' := ?_) #[true, true, true, true, true, true, true, true, true, true, false, false, false, false, false, false, false, false, false, false, false, false, false, false, false, false] rfl rfl (any_of HT_.out (by kernel_rfl)) (fun _ _ _ h => h) (Or.inl ⟨by rfl, ?_⟩) ?_ ?_
         rotate_left
         · intro w'
           go_simp
           with_reducible rfl
         rotate_left
         · simp only [Act.put, List.setIfInBounds_toArray, List.set_cons_zero, List.set_cons_succ]
           rfl
         refine take_ (i := 10) (N := some 35) (v := ?_) (a' := ?_) #[true, true, true, true, true, true, true, true, true, true, true, false, false, false, false, false, false, false, false, false, false, false, false, false, false, false] rfl rfl (take_ofW HT_.out HW_.out (by kernel_rfl)) (fun _ _ _ h => h) (Or.inl ⟨by rfl, ?_⟩) hHeld ?_ ?_
         rotate_left
         · rintro w' ⟨s0, s1, s2, s3⟩
           go_simp
           with_reducible rfl
         rotate_left
         · simp only [Act.put, List.setIfInBounds_toArray, List.set_cons_zero, List.set_cons_succ]
           rfl
         refine pure_ (i := 12) (N := some 37) (v := ?_) (a' := ?_) #[true, true, true, true, true, true, true, true, true, true, true, false, true, false, false, false, false, false, false, false, false, false, false, false, false, false] rfl rfl (any_of HT_.out (by kernel_rfl)) (fun _ _ _ h => h) (Or.inl ⟨by rfl, ?_⟩) ?_ ?_
         rotate_left
         · intro w'
           go_simp
           with_reducible rfl
         rotate_left
         · simp only [Act.put, List.setIfInBounds_toArray, List.set_cons_zero, List.set_cons_succ]
           rfl
         refine pure_ (i := 13) (N := some 38) (v := ?_) (a' := ?_) #[true, true, true, true, true, true, true, true, true, true, true, false, true, true, false, false, false, false, false, false, false, false, false, false, false, false] rfl rfl (any_of HT_.out (by kernel_rfl)) (fun _ _ _ h => h) (Or.inl ⟨by rfl, ?_⟩) ?_ ?_
         rotate_left
         · intro w'
           go_simp
           with_reducible rfl
         rotate_left
         · simp only [Act.put, List.setIfInBounds_toArray, List.set_cons_zero, List.set_cons_succ]
           rfl
         refine pure_ (i := 14) (N := some 39) (v := ?_) (a' := ?_) #[true, true, true, true, true, true, true, true, true, true, true, false, true, true, true, false, false, false, false, false, false, false, false, false, false, false] rfl rfl (any_of HT_.out (by kernel_rfl)) (fun _ _ _ h => h) (Or.inl ⟨by rfl, ?_⟩) ?_ ?_
         rotate_left
         · intro w'
           go_simp
           with_reducible rfl
         rotate_left
         · simp only [Act.put, List.setIfInBounds_toArray, List.set_cons_zero, List.set_cons_succ]
           rfl
         refine take_ (i := 15) (N := some 40) (v := ?_) (a' := ?_) #[true, true, true, true, true, true, true, true, true, true, true, false, true, true, true, true, false, false, false, false, false, false, false, false, false, false] rfl rfl (take_ofW HT_.out HW_.out (by kernel_rfl)) (fun _ _ _ h => h) (Or.inl ⟨by rfl, ?_⟩) hHeld ?_ ?_
         rotate_left
         · rintro w' ⟨s0, s1, s2, s3⟩
           go_simp
           with_reducible rfl
         rotate_left
         · simp only [Act.put, List.setIfInBounds_toArray, List.set_cons_zero, List.set_cons_succ]
           rfl
         refine pure_ (i := 16) (N := some 41) (v := ?_) (a' := ?_) #[true, true, true, true, true, true, true, true, true, true, true, false, true, true, true, true, true, false, false, false, false, false, false, false, false, false] rfl rfl (any_of HT_.out (by kernel_rfl)) (fun _ _ _ h => h) (Or.inl ⟨by rfl, ?_⟩) ?_ ?_
         rotate_left
         · intro w'
           go_simp
           with_reducible rfl
         rotate_left
         · simp only [Act.put, List.setIfInBounds_toArray, List.set_cons_zero, List.set_cons_succ]
           rfl
         refine pure_ (i := 17) (N := some 42) (v := ?_) (a' := ?_) #[true, true, true, true, true, true, true, true, true, true, true, false, true, true, true, true, true, true, false, false, false, false, false, false, false, false] rfl rfl (any_of HT_.out (by kernel_rfl)) (fun _ _ _ h => h) (Or.inl ⟨by rfl, ?_⟩) ?_ ?_
         rotate_left
         · intro w'
           go_simp
           with_reducible rfl
         rotate_left
         · simp only [Act.put, List.setIfInBounds_toArray, List.set_cons_zero, List.set_cons_succ]
           rfl
         refine pure_ (i := 18) (N := some 43) (v := ?_) (a' := ?_) #[true, true, true, true, true, true, true, true, true, true, true, false, true, true, true, true, true, true, true, false, false, false, false, false, false, false] rfl rfl (any_of HT_.out (by kernel_rfl)) (fun _ _ _ h => h) (Or.inl ⟨by rfl, ?_⟩) ?_ ?_
         rotate_left
         · intro w'
           go_simp
           with_reducible rfl
         rotate_left
         · simp only [Act.put, List.setIfInBounds_toArray, List.set_cons_zero, List.set_cons_succ]
           rfl
         refine pure_ (i := 19) (N := some 44) (v := ?_) (a' := ?_) #[true, true, true, true, true, true, true, true, true, true, true, false, true, true, true, true, true, true, true, true, false, false, false, false, false, false] rfl rfl (any_of HT_.out (by kernel_rfl)) (fun _ _ _ h => h) (Or.inl ⟨by rfl, ?_⟩) ?_ ?_
         rotate_left
         · intro w'
           go_simp
           with_reducible rfl
         rotate_left
         · simp only [Act.put, List.setIfInBounds_toArray, List.set_cons_zero, List.set_cons_succ]
           rfl
         refine take_ (i := 20) (N := some 45) (v := ?_) (a' := ?_) #[true, true, true, true, true, true, true, true, true, true, true, false, true, true, true, true, true, true, true, true, true, false, false, false, false, false] rfl rfl (take_ofW HT_.out HW_.out (by kernel_rfl)) (fun _ _ _ h => h) (Or.inl ⟨by rfl, ?_⟩) hHeld ?_ ?_
         rotate_left
         · rintro w' ⟨s0, s1, s2, s3⟩
           go_simp
           with_reducible rfl
         rotate_left
         · simp only [Act.put, List.setIfInBounds_toArray, List.set_cons_zero, List.set_cons_succ]
           rfl
         refine one_ (i := 11) (N := some 36) #[true, true, true, true, true, true, true, true, true, true, true, true, true, true, true, true, true, true, true, true, true, false, false, false, false, false] rfl rfl (one_of HT_.out (by kernel_rfl)) (by decide) (fun K hK => ?_)
         refine goes_ Try.func5 (by kernel_rfl) rfl _ (by rfl) rfl rfl (by (try simp only [List.map_toArray, List.map_cons, List.map_nil]); rfl) ?_
         refine (small_same _ _ _).mono ?_
         rintro e w9 ⟨rfl, rfl⟩
         refine ⟨_, rfl, ?_⟩
         refine hK.out _ _ hHeld (fun hHeld => ?_)
         clear hK K
         refine norm_ (a' := ?_) ?_ ?_
         rotate_left
         · show Act.put _ (some 36) _ = _
           simp only [Act.put, List.setIfInBounds_toArray, List.set_cons_zero, List.set_cons_succ]
           rfl
         refine pure_ (i := 22) (N := some 47) (v := ?_) (a' := ?_) #[true, true, true, true, true, true, true, true, true, true, true, true, true, true, true, true, true, true, true, true, true, false, true, false, false, false] rfl rfl (any_of HT_.out (by kernel_rfl)) (fun _ _ _ h => h) (Or.inl ⟨by rfl, ?_⟩) ?_ ?_
         rotate_left
         · intro w'
           go_simp
           with_reducible rfl
         rotate_left
         · simp only [Act.put, List.setIfInBounds_toArray, List.set_cons_zero, List.set_cons_succ]
           rfl
         refine one_ (i := 21) (N := some 46) #[true, true, true, true, true, true, true, true, true, true, true, true, true, true, true, true, true, true, true, true, true, true, true, false, false, false] rfl rfl (one_of HT_.out (by kernel_rfl)) (by decide) (fun K hK => ?_)
         refine goes_ Try.func5 (by kernel_rfl) rfl _ (by rfl) rfl rfl (by (try simp only [List.map_toArray, List.map_cons, List.map_nil]); rfl) ?_
         refine (small_same _ _ _).mono ?_
         rintro e w9 ⟨rfl, rfl⟩
         refine ⟨_, rfl, ?_⟩
         refine hK.out _ _ hHeld (fun hHeld => ?_)
         clear hK K
         refine norm_ (a' := ?_) ?_ ?_
         rotate_left
         · show Act.put _ (some 46) _ = _
           simp only [Act.put, List.setIfInBounds_toArray, List.set_cons_zero, List.set_cons_succ]
           rfl
         refine one_ (i := 23) (N := none) #[true, true, true, true, true, true, true, true, true, true, true, true, true, true, true, true, true, true, true, true, true, true, true, true, false, false] rfl rfl (one_of HT_.out (by kernel_rfl)) (by decide) (fun K hK => ?_)
         refine skip_ (w1 := ?_) (by rfl) rfl ?_ ?_
         rotate_left
         · go_simp
           rfl
         refine hK.out _ _ (XY_away hHeld (by omega) (by omega)) (fun hHeld => ?_)
         clear hK K
         refine pure_ (i := 24) (N := some 48) (v := ?_) (a' := ?_) #[true, true, true, true, true, true, true, true, true, true, true, true, true, true, true, true, true, true, true, true, true, true, true, true, true, false] rfl rfl (any_of HT_.out (by kernel_rfl)) (fun _ _ _ h => h) (Or.inl ⟨by rfl, ?_⟩) ?_ ?_
         rotate_left
         · intro w'
           go_simp
           with_reducible rfl
         rotate_left
         · simp only [Act.put, List.setIfInBounds_toArray, List.set_cons_zero, List.set_cons_succ]
           rfl
         refine one_ (i := 25) (N := none) #[true, true, true, true, true, true, true, true, true, true, true, true, true, true, true, true, true, true, true, true, true, true, true, true, true, true] rfl rfl (one_of HT_.out (by kernel_rfl)) (by decide) (fun K hK => ?_)
         refine skip_ (w1 := ?_) (by rfl) rfl ?_ ?_
         rotate_left
         · go_simp
           rfl
         refine hK.out _ _ (XY_away hHeld (by omega) (by omega)) (fun hHeld => ?_)
         clear hK K
         refine done_ (by kernel_rfl) ?_
         clear hHeld hx0 hx1 hx2 hx3 hx4 hx5 hx6 hx7 hy0 hy1 hy2 hy3 hy4 hy5 hy6 hy7
         go_wp2
         refine code_world _ (G1.out _ HL.out) (fun wz hz => ?_)
         clear cp0 cp1 cp2 cp3 cpf cpz cq0 cq1 cq2 cq3 cqf cqz
         obtain ⟨ca, cb⟩ := G4.out _ hz
         have csr := hz.s
         have cs0 := csr.1 0 (by decide)
         have cs1 := csr.1 1 (by decide)
         have cs2 := csr.1 2 (by decide)
         have cs3 := csr.1 3 (by decide)
         have csf := csr.2.1
         have csz := csr.2.2
         clear csr
         have HZ1 := Aside0.mk hz
         clear hz
         refine still_tail 8 (by kernel_rfl) (by kernel_rfl) ?_
         simp only [List.take_succ_cons, List.take_zero, List.drop_succ_cons, List.drop_zero]
         iterate 8 still_step
         refine wpStill_nil ?_
         go_wp2_with (fail)
         refine (HSQ.out _).mono ?_
         rintro e w2 ⟨rfl, hb⟩
         have HL2 := Aside0.mk ((G2.out _ HZ1.out).step hb)
         clear hb
         go_wp2
         go_roundg g
         case measure => omega
         case rel =>
           exact ⟨_, HK.out, by rw [HV3.out], rfl, HL2.out⟩
end Go.Proofs.Ytofedlghaopciaa.FourW
