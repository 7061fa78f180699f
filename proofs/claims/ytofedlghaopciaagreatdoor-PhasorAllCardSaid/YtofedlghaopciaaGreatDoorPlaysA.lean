/- The walk of pylonlaw02_plays over its three boxes; written by wip/genP.py. -/
import Derived.Test.YtofedlghaopciaaGreatDoorPk5
namespace Go.Proofs.YtofedlghaopciaaGreatDoor.PA
open Go.Proofs.YtofedlghaopciaaGreatDoorW.PrintWords
attribute [local go_sem high] fx_eql fx_neq fx_lss fx_leq fx_gtr fx_geq fx_add fx_sub fx_mul fx_neg fx_toint cxx_add cxx_sub cxx_mul cxx_eql cxx_neq cxx_pick st_float st_complex
open Go.RowKit Go.Proofs.YtofedlghaopciaaGreatDoorW.PrintWords Go.Proofs.YtofedlghaopciaaGreatDoorW.PrintLast Go.Proofs.YtofedlghaopciaaGreatDoorW.PrintMore
attribute [local go_sem] max2_int min2_int max_two min_two max_three min_three max_four min_four
set_option linter.unusedVariables false
set_option linter.unusedSimpArgs false
theorem pylonlaw02_plays.mono : ∀ a0 a1 a2 a3 a4 a5 a6 a7 a8 a9 a10 a11 a12 a13 a14 k, LeO (pylonlaw02_plays.f k a0 a1 a2 a3 a4 a5 a6 a7 a8 a9 a10 a11 a12 a13 a14) (pylonlaw02_plays.f (k + 1) a0 a1 a2 a3 a4 a5 a6 a7 a8 a9 a10 a11 a12 a13 a14) := by
 intro a0 a1 a2 a3 a4 a5 a6 a7 a8 a9 a10 a11 a12 a13 a14 k
 unfold pylonlaw02_plays.f
 repeat' first
   | (with_reducible exact phasor_Apparent.mono _ _)
   | (with_reducible exact phasor_Phases.mono _ _ _)
   | (with_reducible exact phasor_Quadrant.mono _ _)
   | (with_reducible exact phasor_Read.mono _ _)
   | (with_reducible exact pylonlaw02_numbers.mono _ _)
   | (with_reducible exact LeO.refl _)
   | (with_reducible exact LeO.none _)
   | (with_reducible refine LeO.ite ?_ ?_)
   | (with_reducible refine LeO.bind ?_ (fun _ => ?_))
   | exact phasor_Apparent.mono _ _
   | exact phasor_Phases.mono _ _ _
   | exact phasor_Quadrant.mono _ _
   | exact phasor_Read.mono _ _
   | exact pylonlaw02_numbers.mono _ _
   | exact LeO.none _
   | refine LeO.ite ?_ ?_
   | refine LeO.bind ?_ (fun _ => ?_)
def pylonlaw02_plays.T10 : Bool × List (List Nat × List Nat) := (true, [([], []), ([0], [0]), ([1], [1]), ([], []), ([3], [3]), ([4, 2], [4]), ([2, 5, 5], [2, 5]), ([6], [6]), ([7], [7]), ([7], [7]), ([0, 1, 2, 3, 4, 5, 6, 7, 8], []), ([10, 8, 6, 0, 1, 2, 3, 4, 5, 6, 7, 8], [8, 10]), ([0, 1, 2, 3, 4, 5, 6, 7, 8, 9, 10, 11], []), ([12, 9, 11, 0, 1, 2, 3, 4, 5, 6, 7, 8, 9, 10, 11], [9, 12])])
def pylonlaw02_plays.B10 : List Nat := [0, 1, 3, 0, 8, 31, 63, 127, 255, 255, 511, 1535, 4095, 8191]
theorem pylonlaw02_plays.tab10 : rtab .any (opsOf Tryz.f6 10) = pylonlaw02_plays.T10 := by kernel_rfl
theorem pylonlaw02_plays.bits10 : waitsOk pylonlaw02_plays.T10.2 pylonlaw02_plays.B10 = true := by kernel_rfl
def pylonlaw02_plays.T12 : Bool × List (List Nat × List Nat) := (true, [([], []), ([0], [0]), ([1], [1]), ([], []), ([3], [3]), ([4, 2], [4]), ([2, 5, 5], [2, 5]), ([6], [6]), ([7], [7]), ([7], [7]), ([0, 1, 2, 3, 4, 5, 6, 7, 8], []), ([10, 8, 6, 0, 1, 2, 3, 4, 5, 6, 7, 8], [8, 10]), ([0, 1, 2, 3, 4, 5, 6, 7, 8, 9, 10, 11], []), ([12, 9, 11, 0, 1, 2, 3, 4, 5, 6, 7, 8, 9, 10, 11], [9, 12])])
def pylonlaw02_plays.B12 : List Nat := [0, 1, 3, 0, 8, 31, 63, 127, 255, 255, 511, 1535, 4095, 8191]
theorem pylonlaw02_plays.tab12 : rtab .any (opsOf Tryz.f6 12) = pylonlaw02_plays.T12 := by kernel_rfl
theorem pylonlaw02_plays.bits12 : waitsOk pylonlaw02_plays.T12.2 pylonlaw02_plays.B12 = true := by kernel_rfl
def pylonlaw02_plays.T14 : Bool × List (List Nat × List Nat) := (true, [([], []), ([0], [0]), ([1], [1]), ([], []), ([3], [3]), ([4, 2], [4]), ([], []), ([6], [6]), ([7, 5], [7]), ([], []), ([9], [9]), ([10, 8], [10]), ([2, 5, 8, 11, 11], [2, 5, 8, 11]), ([12], [12]), ([13], [13]), ([13], [13]), ([0, 1, 2, 3, 4, 5, 6, 7, 8, 9, 10, 11, 12, 13, 14], []), ([16, 14, 12, 0, 1, 2, 3, 4, 5, 6, 7, 8, 9, 10, 11, 12, 13, 14], [14, 16]), ([0, 1, 2, 3, 4, 5, 6, 7, 8, 9, 10, 11, 12, 13, 14, 15, 16, 17], []), ([18, 15, 17, 0, 1, 2, 3, 4, 5, 6, 7, 8, 9, 10, 11, 12, 13, 14, 15, 16, 17], [15, 18])])
def pylonlaw02_plays.B14 : List Nat := [0, 1, 3, 0, 8, 31, 0, 64, 255, 0, 512, 2047, 4095, 8191, 16383, 16383, 32767, 98303, 262143, 524287]
theorem pylonlaw02_plays.tab14 : rtab .any (opsOf Tryz.f6 14) = pylonlaw02_plays.T14 := by kernel_rfl
theorem pylonlaw02_plays.bits14 : waitsOk pylonlaw02_plays.T14.2 pylonlaw02_plays.B14 = true := by kernel_rfl
def pylonlaw02_plays.T16 : Bool × List (List Nat × List Nat) := (true, [([], []), ([0], [0]), ([1], [1]), ([], []), ([3], [3]), ([2, 4, 2], [2, 4]), ([5], [5]), ([6], [6]), ([6], [6]), ([0, 1, 2, 3, 4, 5, 6, 7], []), ([9, 7, 5, 0, 1, 2, 3, 4, 5, 6, 7], [7, 9]), ([0, 1, 2, 3, 4, 5, 6, 7, 8, 9, 10], []), ([11, 8, 10, 0, 1, 2, 3, 4, 5, 6, 7, 8, 9, 10], [8, 11])])
def pylonlaw02_plays.B16 : List Nat := [0, 1, 3, 0, 8, 31, 63, 127, 127, 255, 767, 2047, 4095]
theorem pylonlaw02_plays.tab16 : rtab .any (opsOf Tryz.f6 16) = pylonlaw02_plays.T16 := by kernel_rfl
theorem pylonlaw02_plays.bits16 : waitsOk pylonlaw02_plays.T16.2 pylonlaw02_plays.B16 = true := by kernel_rfl
def pylonlaw02_plays.T22 : Bool × List (List Nat × List Nat) := (true, [([], []), ([0], [0]), ([1], [1]), ([], []), ([3], [3]), ([4, 2], [4]), ([], []), ([6], [6]), ([7, 5], [7]), ([], []), ([9], [9]), ([10, 8], [10]), ([2, 5, 8, 11], [2, 5, 8, 11]), ([12, 11], [12]), ([13], [13]), ([14], [14]), ([14], [14]), ([0, 1, 2, 3, 4, 5, 6, 7, 8, 9, 10, 11, 12, 13, 14, 15], []), ([17, 15, 13, 0, 1, 2, 3, 4, 5, 6, 7, 8, 9, 10, 11, 12, 13, 14, 15], [15, 17]), ([0, 1, 2, 3, 4, 5, 6, 7, 8, 9, 10, 11, 12, 13, 14, 15, 16, 17, 18], []), ([19, 16, 18, 0, 1, 2, 3, 4, 5, 6, 7, 8, 9, 10, 11, 12, 13, 14, 15, 16, 17, 18], [16, 19])])
def pylonlaw02_plays.B22 : List Nat := [0, 1, 3, 0, 8, 31, 0, 64, 255, 0, 512, 2047, 4095, 8191, 16383, 32767, 32767, 65535, 196607, 524287, 1048575]
theorem pylonlaw02_plays.tab22 : rtab .any (opsOf Tryz.f6 22) = pylonlaw02_plays.T22 := by kernel_rfl
theorem pylonlaw02_plays.bits22 : waitsOk pylonlaw02_plays.T22.2 pylonlaw02_plays.B22 = true := by kernel_rfl
def pylonlaw02_plays.T24 : Bool × List (List Nat × List Nat) := (true, [([], []), ([0], [0]), ([1], [1]), ([], []), ([3], [3]), ([4, 2], [4]), ([], []), ([6], [6]), ([7, 5], [7]), ([], []), ([9], [9]), ([10, 8], [10]), ([2, 5, 8, 11], [2, 5, 8, 11]), ([12, 11], [12]), ([13], [13]), ([14], [14]), ([14], [14]), ([0, 1, 2, 3, 4, 5, 6, 7, 8, 9, 10, 11, 12, 13, 14, 15], []), ([17, 15, 13, 0, 1, 2, 3, 4, 5, 6, 7, 8, 9, 10, 11, 12, 13, 14, 15], [15, 17]), ([0, 1, 2, 3, 4, 5, 6, 7, 8, 9, 10, 11, 12, 13, 14, 15, 16, 17, 18], []), ([19, 16, 18, 0, 1, 2, 3, 4, 5, 6, 7, 8, 9, 10, 11, 12, 13, 14, 15, 16, 17, 18], [16, 19])])
def pylonlaw02_plays.B24 : List Nat := [0, 1, 3, 0, 8, 31, 0, 64, 255, 0, 512, 2047, 4095, 8191, 16383, 32767, 32767, 65535, 196607, 524287, 1048575]
theorem pylonlaw02_plays.tab24 : rtab .any (opsOf Tryz.f6 24) = pylonlaw02_plays.T24 := by kernel_rfl
theorem pylonlaw02_plays.bits24 : waitsOk pylonlaw02_plays.T24.2 pylonlaw02_plays.B24 = true := by kernel_rfl
set_option maxHeartbeats 8000000 in
set_option maxRecDepth 100000 in
theorem pylonlaw02_plays.calls (k : Nat) (a0_0 : Int) (a0_1 : Nat) (a0_2 : Nat) (a0_3 : Nat) (a0_4 : Nat) (a0_5 : Nat) (a0_6 : Nat) (a0_7 : Nat) (a0_8 : Nat) (A0_9 : Option Addr) (c0_9 : Nat) (l0_9 : List (S33)) (A0_10 : Option Addr) (c0_10 : Nat) (l0_10 : List (S33)) (a0_11 : Int) (a0_12 : Int) (a0_13 : Int) (a0_14 : ByteArray) (r1 : Cx) (r2 : Cx) (r3 : Cx) (r4 : Cx) (r5 : Cx) (r6 : Int) (r7 : Int) (r8 : Int) (r9 : Bool) (r10 : ByteArray) (r11 : Int) (w : World) (hT_ : Go.Proofs.YtofedlghaopciaaGreatDoor.Hand.T3 w) (hr0_9 : Kd.C k33 w A0_9 l0_9.length l0_9) (hc0_9 : l0_9.length ≤ c0_9) (hr0_10 : Kd.C k33 w A0_10 l0_10.length l0_10) (hc0_10 : l0_10.length ≤ c0_10) (h : pylonlaw02_plays.f k a0_0 a0_1 a0_2 a0_3 a0_4 a0_5 a0_6 a0_7 a0_8 l0_9 l0_10 a0_11 a0_12 a0_13 a0_14 = some (r1, r2, r3, r4, r5, r6, r7, r8, r9, r10, r11)) :
  Calls Tryz.prog 6 #[.agg #[.int .i64 a0_0, .float .f64 a0_1, .float .f64 a0_2, .float .f64 a0_3, .float .f64 a0_4, .float .f64 a0_5, .float .f64 a0_6, .float .f64 a0_7, .float .f64 a0_8, .slice A0_9 l0_9.length c0_9, .slice A0_10 l0_10.length c0_10, .int .i64 a0_11, .int .i64 a0_12, .int .i64 a0_13, .string a0_14]] w fun e w' => e = .returned (.agg #[.complex .f64 r1.re r1.im, .complex .f64 r2.re r2.im, .complex .f64 r3.re r3.im, .complex .f64 r4.re r4.im, .complex .f64 r5.re r5.im, .int .i64 r6, .int .i64 r7, .int .i64 r8, .bool r9, .string r10, .int .i64 r11]) ∧ Below w.heap.size w w' := by
 have hu36 := Tryz.underlying36
 have hu29 := Tryz.underlying29
 have hu33 := Tryz.underlying33
 have hu26 := Tryz.underlying26
 have HTB := Aside0.mk hT_
 clear hT_
 have HR0_9 := Aside0.mk hr0_9
 have HC0_9 := Aside0.mk hc0_9
 clear hr0_9 hc0_9
 have HR0_10 := Aside0.mk hr0_10
 have HC0_10 := Aside0.mk hc0_10
 clear hr0_10 hc0_10
 have HB := Aside0.mk (Below.refl w.heap.size w)
 have H : (if a0_0 = 1 then ((pylonlaw02_Z_c.f a0_1 a0_2).bind fun t228 => ((phasor_Fits.f t228).bind fun t229 => (some (cx 0 0, cx 0 0, cx 0 0, cx 0 0, cx 0 0, 0, 0, 0, t229, (⟨#[]⟩ : ByteArray), 0)))) else (if a0_0 = 2 then ((phasor_Of.f a0_11 a0_12).bind fun bt230 => (some (bt230.1, cx 0 0, cx 0 0, cx 0 0, cx 0 0, 0, 0, 0, false, (⟨#[]⟩ : ByteArray), bt230.2))) else (if a0_0 = 3 then ((pylonlaw02_Z_c.f a0_1 a0_2).bind fun t232 => ((phasor_Parts.f t232).bind fun bt233 => (some (cx 0 0, cx 0 0, cx 0 0, cx 0 0, cx 0 0, bt233.1, bt233.2.1, 0, false, (⟨#[]⟩ : ByteArray), bt233.2.2)))) else (if a0_0 = 4 then ((pylonlaw02_Z_c.f a0_1 a0_2).bind fun t236 => ((pylonlaw02_Z_c.f a0_3 a0_4).bind fun t237 => ((phasor_Power.f t236 t237).bind fun bt238 => (some (bt238.1, cx 0 0, cx 0 0, cx 0 0, cx 0 0, 0, 0, 0, false, (⟨#[]⟩ : ByteArray), bt238.2))))) else (if a0_0 = 5 then ((pylonlaw02_numbers.f k l0_9).bind fun t240 => ((pylonlaw02_numbers.f k l0_10).bind fun t243 => ((phasor_Phases.f k t240 t243).bind fun bt246 => (some (bt246.1, cx 0 0, cx 0 0, cx 0 0, cx 0 0, 0, 0, 0, false, (⟨#[]⟩ : ByteArray), bt246.2))))) else (if a0_0 = 6 then ((pylonlaw02_Z_c.f a0_1 a0_2).bind fun t248 => ((pylonlaw02_Z_c.f a0_3 a0_4).bind fun t249 => ((pylonlaw02_Z_c.f a0_5 a0_6).bind fun t250 => ((pylonlaw02_Z_c.f a0_7 a0_8).bind fun t251 => ((phasor_Aron.f t248 t249 t250 t251).bind fun bt252 => (some (bt252.1, cx 0 0, cx 0 0, cx 0 0, cx 0 0, 0, 0, 0, false, (⟨#[]⟩ : ByteArray), bt252.2))))))) else (if a0_0 = 7 then ((pylonlaw02_Z_c.f a0_1 a0_2).bind fun t254 => ((phasor_Turn.f t254 a0_13).bind fun bt255 => (some (bt255.1, cx 0 0, cx 0 0, cx 0 0, cx 0 0, 0, 0, 0, false, (⟨#[]⟩ : ByteArray), bt255.2)))) else (if a0_0 = 8 then ((pylonlaw02_Z_c.f a0_1 a0_2).bind fun t257 => ((phasor_Quadrant.f k t257).bind fun t258 => (some (cx 0 0, cx 0 0, cx 0 0, cx 0 0, cx 0 0, 0, 0, t258, false, (⟨#[]⟩ : ByteArray), 0)))) else (if a0_0 = 9 then ((pylonlaw02_Z_c.f a0_1 a0_2).bind fun t259 => ((phasor_Apparent.f k t259).bind fun bt260 => (some (cx 0 0, cx 0 0, cx 0 0, cx 0 0, cx 0 0, bt260.1, 0, 0, false, (⟨#[]⟩ : ByteArray), bt260.2)))) else (if a0_0 = 10 then ((pylonlaw02_Z_c.f a0_1 a0_2).bind fun t262 => ((pylonlaw02_Z_c.f a0_3 a0_4).bind fun t263 => ((pylonlaw02_Z_c.f a0_5 a0_6).bind fun t264 => ((pylonlaw02_Z_c.f a0_7 a0_8).bind fun t265 => ((phasor_Four.f t262 t263 t264 t265).bind fun bt266 => (some (cx 0 0, bt266.1, bt266.2.1, bt266.2.2.1, bt266.2.2.2.1, 0, 0, 0, false, (⟨#[]⟩ : ByteArray), bt266.2.2.2.2))))))) else (if a0_0 = 11 then ((pylonlaw02_Z_c.f a0_1 a0_2).bind fun t271 => ((pylonlaw02_Z_c.f a0_3 a0_4).bind fun t272 => ((pylonlaw02_Z_c.f a0_5 a0_6).bind fun t273 => ((pylonlaw02_Z_c.f a0_7 a0_8).bind fun t274 => ((phasor_Back.f t271 t272 t273 t274).bind fun bt275 => (some (cx 0 0, bt275.1, bt275.2.1, bt275.2.2.1, bt275.2.2.2.1, 0, 0, 0, false, (⟨#[]⟩ : ByteArray), bt275.2.2.2.2))))))) else (if a0_0 = 12 then ((pylonlaw02_Z_c.f a0_1 a0_2).bind fun t280 => ((phasor_Text.f t280).bind fun bt281 => (some (cx 0 0, cx 0 0, cx 0 0, cx 0 0, cx 0 0, 0, 0, 0, false, bt281.1, bt281.2)))) else (if a0_0 = 13 then ((phasor_Read.f k a0_14).bind fun bt283 => (some (bt283.1, cx 0 0, cx 0 0, cx 0 0, cx 0 0, 0, 0, 0, false, (⟨#[]⟩ : ByteArray), bt283.2))) else (some (cx 0 0, cx 0 0, cx 0 0, cx 0 0, cx 0 0, 0, 0, 0, false, (⟨#[]⟩ : ByteArray), 0))))))))))))))) = some (r1, r2, r3, r4, r5, r6, r7, r8, r9, r10, r11) := h
 clear h
 go_enter Tryz.func6, Tryz.ntmps6
 go_upto_block 0 with (first | ((with_reducible refine gate_dst (N := 1) rfl ?_); refine box_event ?hg (N := 1) ?hd (cs := #[.int .i64 a0_0, .float .f64 a0_1, .float .f64 a0_2, .float .f64 a0_3, .float .f64 a0_4, .float .f64 a0_5, .float .f64 a0_6, .float .f64 a0_7, .float .f64 a0_8, .slice A0_9 l0_9.length c0_9, .slice A0_10 l0_10.length c0_10, .int .i64 a0_11, .int .i64 a0_12, .int .i64 a0_13, .string a0_14]) (t := 36) ?hr ?_; (case hd => rfl); (case hg => rfl); (case hr => first | (go_simp; done) | (go_simp; rfl)); intro g1 hg w1 hbox hb; have K1 := Aside0.mk hbox; have S1 := Aside0.mk hg; have B1 := Aside0.mk hb; clear hb hbox hg) | ((with_reducible refine gate_dst (N := 2) rfl ?_); refine box_event ?hg (N := 2) ?hd (cs := #[.complex .f64 0 0, .complex .f64 0 0, .complex .f64 0 0, .complex .f64 0 0, .complex .f64 0 0, .int .i64 0, .int .i64 0, .int .i64 0, .bool false, .string (⟨#[]⟩ : ByteArray), .int .i64 0]) (t := 29) ?hr ?_; (case hd => rfl); (case hg => rfl); (case hr => first | (go_simp; done) | (go_simp; rfl)); intro g2 hg w2 hbox hb; have K2 := Aside0.mk hbox; have S2 := Aside0.mk hg; have B2 := Aside0.mk hb; clear hb hbox hg) | ((with_reducible refine gate_dst (N := 3) rfl ?_); refine box_event ?hg (N := 3) ?hd (cs := #[.complex .f64 0 0, .complex .f64 0 0, .complex .f64 0 0, .complex .f64 0 0, .complex .f64 0 0, .int .i64 0, .int .i64 0, .int .i64 0, .bool false, .string (⟨#[]⟩ : ByteArray), .int .i64 0]) (t := 29) ?hr ?_; (case hd => rfl); (case hg => rfl); (case hr => first | (go_simp; done) | (go_simp; rfl)); intro g3 hg w3 hbox hb; have BX := Aside0.mk (Bx.made HB.out K1.out S1.out B1.out K2.out S2.out B2.out hbox hg hb); clear hb hbox hg K1 S1 B1 K2 S2 B2; have k0 : w3.cell? ⟨g1, 0, none⟩ = some (.int .i64 a0_0) := (blk_cell BX.out.b1 0).trans rfl))
 go_cut [] (fun wc => Bx w g1 g2 g3 #[.int .i64 a0_0, .float .f64 a0_1, .float .f64 a0_2, .float .f64 a0_3, .float .f64 a0_4, .float .f64 a0_5, .float .f64 a0_6, .float .f64 a0_7, .float .f64 a0_8, .slice A0_9 l0_9.length c0_9, .slice A0_10 l0_10.length c0_10, .int .i64 a0_11, .int .i64 a0_12, .int .i64 a0_13, .string a0_14] #[.complex .f64 0 0, .complex .f64 0 0, .complex .f64 0 0, .complex .f64 0 0, .complex .f64 0 0, .int .i64 0, .int .i64 0, .int .i64 0, .bool false, .string (⟨#[]⟩ : ByteArray), .int .i64 0] #[.complex .f64 r1.re r1.im, .complex .f64 r2.re r2.im, .complex .f64 r3.re r3.im, .complex .f64 r4.re r4.im, .complex .f64 r5.re r5.im, .int .i64 r6, .int .i64 r7, .int .i64 r8, .bool r9, .string r10, .int .i64 r11] wc)
 case first =>
  by_cases c1 : a0_0 = 1
  ·
   rw [if_pos c1] at H
   have b1 : (a0_0 == 1) = true := beq_iff_eq.mpr c1
   clear c1
   simp only [Option.bind_eq_some_iff] at H
   obtain ⟨z1, A1, x1, A2, H⟩ := H
   replace A1 := Aside0.mk A1
   replace A2 := Aside0.mk A2
   simp only [Option.some.injEq, Prod.mk.injEq] at H
   obtain ⟨rfl, rfl, rfl, rfl, rfl, rfl, rfl, rfl, rfl, rfl, rfl⟩ := H
   have k1 : w3.cell? ⟨g1, 1, none⟩ = some (.float .f64 a0_1) := (blk_cell BX.out.b1 1).trans rfl
   have k2 : w3.cell? ⟨g1, 2, none⟩ = some (.float .f64 a0_2) := (blk_cell BX.out.b1 2).trans rfl
   go_wp2_with (first | ((with_reducible refine gate_callee (f := 10) rfl ?_); refine gL_ (some 10) Tryz.func10 #[.agg #[.float .f64 a0_1, .float .f64 a0_2]] ?_; (with_reducible refine (pylonlaw02_Z_c.calls a0_1 a0_2 z1 _ A1.out).mono ?_); rintro e v1 ⟨rfl, hb⟩; refine ⟨_, rfl, ?_⟩; replace BX := Aside0.mk (BX.out.below hb); clear hb) | ((with_reducible refine gate_callee (f := 9) rfl ?_); refine gL_ (some 11) Tryz.func9 #[.complex .f64 z1.re z1.im] ?_; (with_reducible refine (phasor_Fits.calls z1 x1 _ A2.out).mono ?_); rintro e v2 ⟨rfl, hb⟩; refine ⟨_, rfl, ?_⟩; replace BX := Aside0.mk (BX.out.below hb); clear hb; have s8 : v2.cell? ⟨g3, 8, none⟩ = some (.bool false) := (blk_cell BX.out.b3 8).trans rfl; have f8 := blk_frozen BX.out.b3 8))
   go_meet
   case rel => exact (BX.out.put3 8 _ rfl)
  rw [if_neg c1] at H
  have b1 : (a0_0 == 1) = false := beq_eq_false_iff_ne.mpr c1
  clear c1
  by_cases c2 : a0_0 = 2
  ·
   rw [if_pos c2] at H
   have b2 : (a0_0 == 2) = true := beq_iff_eq.mpr c2
   clear c2
   simp only [Option.bind_eq_some_iff] at H
   obtain ⟨⟨x1, x2⟩, A1, H⟩ := H
   replace A1 := Aside0.mk A1
   simp only [Option.some.injEq, Prod.mk.injEq] at H
   obtain ⟨rfl, rfl, rfl, rfl, rfl, rfl, rfl, rfl, rfl, rfl, rfl⟩ := H
   have k11 : w3.cell? ⟨g1, 11, none⟩ = some (.int .i64 a0_11) := (blk_cell BX.out.b1 11).trans rfl
   have k12 : w3.cell? ⟨g1, 12, none⟩ = some (.int .i64 a0_12) := (blk_cell BX.out.b1 12).trans rfl
   go_wp2_with (first | ((with_reducible refine gate_callee (f := 11) rfl ?_); refine gL_ (some 20) Tryz.func11 #[.int .i64 a0_11, .int .i64 a0_12] ?_; (with_reducible refine (phasor_Of.calls a0_11 a0_12 x1 x2 _ A1.out).mono ?_); rintro e v1 ⟨rfl, hb⟩; refine ⟨_, rfl, ?_⟩; replace BX := Aside0.mk (BX.out.below hb); clear hb; have s0 : v1.cell? ⟨g3, 0, none⟩ = some (.complex .f64 0 0) := (blk_cell BX.out.b3 0).trans rfl; have s10 : v1.cell? ⟨g3, 10, none⟩ = some (.int .i64 0) := (blk_cell BX.out.b3 10).trans rfl; have f0 := blk_frozen BX.out.b3 0; have f10 := blk_frozen BX.out.b3 10))
   go_meet
   case rel => exact ((BX.out.put3 0 _ rfl).put3 10 _ rfl)
  rw [if_neg c2] at H
  have b2 : (a0_0 == 2) = false := beq_eq_false_iff_ne.mpr c2
  clear c2
  by_cases c3 : a0_0 = 3
  ·
   rw [if_pos c3] at H
   have b3 : (a0_0 == 3) = true := beq_iff_eq.mpr c3
   clear c3
   simp only [Option.bind_eq_some_iff] at H
   obtain ⟨z1, A1, ⟨x1, x2, x3⟩, A2, H⟩ := H
   replace A1 := Aside0.mk A1
   replace A2 := Aside0.mk A2
   simp only [Option.some.injEq, Prod.mk.injEq] at H
   obtain ⟨rfl, rfl, rfl, rfl, rfl, rfl, rfl, rfl, rfl, rfl, rfl⟩ := H
   have k1 : w3.cell? ⟨g1, 1, none⟩ = some (.float .f64 a0_1) := (blk_cell BX.out.b1 1).trans rfl
   have k2 : w3.cell? ⟨g1, 2, none⟩ = some (.float .f64 a0_2) := (blk_cell BX.out.b1 2).trans rfl
   go_wp2_with (first | ((with_reducible refine gate_callee (f := 10) rfl ?_); refine gL_ (some 30) Tryz.func10 #[.agg #[.float .f64 a0_1, .float .f64 a0_2]] ?_; (with_reducible refine (pylonlaw02_Z_c.calls a0_1 a0_2 z1 _ A1.out).mono ?_); rintro e v1 ⟨rfl, hb⟩; refine ⟨_, rfl, ?_⟩; replace BX := Aside0.mk (BX.out.below hb); clear hb) | ((with_reducible refine gate_callee (f := 12) rfl ?_); refine gL_ (some 31) Tryz.func12 #[.complex .f64 z1.re z1.im] ?_; (with_reducible refine (phasor_Parts.calls z1 x1 x2 x3 _ A2.out).mono ?_); rintro e v2 ⟨rfl, hb⟩; refine ⟨_, rfl, ?_⟩; replace BX := Aside0.mk (BX.out.below hb); clear hb; have s5 : v2.cell? ⟨g3, 5, none⟩ = some (.int .i64 0) := (blk_cell BX.out.b3 5).trans rfl; have s6 : v2.cell? ⟨g3, 6, none⟩ = some (.int .i64 0) := (blk_cell BX.out.b3 6).trans rfl; have s10 : v2.cell? ⟨g3, 10, none⟩ = some (.int .i64 0) := (blk_cell BX.out.b3 10).trans rfl; have f5 := blk_frozen BX.out.b3 5; have f6 := blk_frozen BX.out.b3 6; have f10 := blk_frozen BX.out.b3 10))
   go_meet
   case rel => exact (((BX.out.put3 5 _ rfl).put3 6 _ rfl).put3 10 _ rfl)
  rw [if_neg c3] at H
  have b3 : (a0_0 == 3) = false := beq_eq_false_iff_ne.mpr c3
  clear c3
  by_cases c4 : a0_0 = 4
  ·
   rw [if_pos c4] at H
   have b4 : (a0_0 == 4) = true := beq_iff_eq.mpr c4
   clear c4
   simp only [Option.bind_eq_some_iff] at H
   obtain ⟨z1, A1, z2, A2, ⟨x1, x2⟩, A3, H⟩ := H
   replace A1 := Aside0.mk A1
   replace A2 := Aside0.mk A2
   replace A3 := Aside0.mk A3
   simp only [Option.some.injEq, Prod.mk.injEq] at H
   obtain ⟨rfl, rfl, rfl, rfl, rfl, rfl, rfl, rfl, rfl, rfl, rfl⟩ := H
   go_wp2
   have B1 := Aside0.mk BX.out.b1
   replace BX := Aside0.mk BX.out.draw
   refine start_ (n := 14) (S := fun w' => w'.heap[g1]? = w3.heap[g1]?) (ds := []) (upT 0 14) (by kernel_rfl) rfl rfl rfl (fun hH => ?_); refine with_tabW pylonlaw02_plays.tab10 pylonlaw02_plays.bits10 (fun HT_ HW_ => ?_)
   generalize w3.drew = w4 at BX hH ⊢
   refine pq_ 0 41 (upT 1 13) HT_ ?_
   refine pq_ 3 44 #[true, false, false, true, false, false, false, false, false, false, false, false, false, false] HT_ ?_
   refine tk_ (.agg #[.float .f64 a0_1, .float .f64 a0_2]) 1 42 #[true, true, false, true, false, false, false, false, false, false, false, false, false, false] HT_ HW_ hH (Or.inl ⟨rfl, fun w' hs => ?_⟩) ?_
   · have k1 : w'.cell? ⟨g1, 1, none⟩ = some (.float .f64 a0_1) := (blk_cell (hs.trans B1.out) 1).trans rfl; have k2 : w'.cell? ⟨g1, 2, none⟩ = some (.float .f64 a0_2) := (blk_cell (hs.trans B1.out) 2).trans rfl; clear hs; go_simp; try with_reducible rfl
   refine tk_ (.agg #[.float .f64 a0_3, .float .f64 a0_4]) 4 45 #[true, true, false, true, true, false, false, false, false, false, false, false, false, false] HT_ HW_ hH (Or.inl ⟨rfl, fun w' hs => ?_⟩) ?_
   · have k3 : w'.cell? ⟨g1, 3, none⟩ = some (.float .f64 a0_3) := (blk_cell (hs.trans B1.out) 3).trans rfl; have k4 : w'.cell? ⟨g1, 4, none⟩ = some (.float .f64 a0_4) := (blk_cell (hs.trans B1.out) 4).trans rfl; clear hs; go_simp; try with_reducible rfl
   refine on_ 2 (some 43) (upT 5 9) HT_ (fun K hK => ?_)
   refine gN_ Tryz.func10 #[.agg #[.float .f64 a0_1, .float .f64 a0_2]] ?_
   with_reducible refine (pylonlaw02_Z_c.calls a0_1 a0_2 z1 _ A1.out).mono ?_
   rintro e v1 ⟨rfl, hb⟩
   refine ⟨_, rfl, ?_⟩
   replace BX := Aside0.mk (BX.out.below hb)
   clear hb
   refine hK.out _ _ (BX.out.b1.trans B1.out.symm) (fun hH => ?_)
   clear hK K
   refine nm_ 43 _ ?_
   refine on_ 5 (some 46) (upT 6 8) HT_ (fun K hK => ?_)
   refine gN_ Tryz.func10 #[.agg #[.float .f64 a0_3, .float .f64 a0_4]] ?_
   with_reducible refine (pylonlaw02_Z_c.calls a0_3 a0_4 z2 _ A2.out).mono ?_
   rintro e v2 ⟨rfl, hb⟩
   refine ⟨_, rfl, ?_⟩
   replace BX := Aside0.mk (BX.out.below hb)
   clear hb
   refine hK.out _ _ (BX.out.b1.trans B1.out.symm) (fun hH => ?_)
   clear hK K
   refine nm_ 46 _ ?_
   refine on_ 6 (some 47) (upT 7 7) HT_ (fun K hK => ?_)
   refine gN_ Tryz.func8 #[.complex .f64 z1.re z1.im, .complex .f64 z2.re z2.im] ?_
   with_reducible refine (phasor_Power.calls z1 z2 x1 x2 _ A3.out).mono ?_
   rintro e v3 ⟨rfl, hb⟩
   refine ⟨_, rfl, ?_⟩
   replace BX := Aside0.mk (BX.out.below hb)
   clear hb
   refine hK.out _ _ (BX.out.b1.trans B1.out.symm) (fun hH => ?_)
   clear hK K
   refine nm_ 47 _ ?_
   refine pq_ 7 40 (upT 8 6) HT_ ?_
   refine pq_ 8 48 (upT 9 5) HT_ ?_
   refine pq_ 9 49 (upT 10 4) HT_ ?_
   refine pq_ 10 50 (upT 11 3) HT_ ?_
   have s0 : v3.cell? ⟨g3, 0, none⟩ = some (.complex .f64 0 0) := (blk_cell BX.out.b3 0).trans rfl
   have s10 : v3.cell? ⟨g3, 10, none⟩ = some (.int .i64 0) := (blk_cell BX.out.b3 10).trans rfl
   have f0 := blk_frozen BX.out.b3 0
   have f10 := blk_frozen BX.out.b3 10
   refine on_ 11 none (upT 12 2) HT_ (fun K hK => ?_)
   refine sk_ ?_
   refine hK.out _ _ ((BX.out.put3 0 _ rfl).b1.trans B1.out.symm) (fun hH => ?_)
   clear hK K
   refine pq_ 12 51 (upT 13 1) HT_ ?_
   refine on_ 13 none (upT 14 0) HT_ (fun K hK => ?_)
   refine sk_ ?_
   refine hK.out _ _ (((BX.out.put3 0 _ rfl).put3 10 _ rfl).b1.trans B1.out.symm) (fun hH => ?_)
   clear hK K
   refine done_ (done_of HT_.out (by kernel_rfl)) ?_
   try go_wp2
   go_meet
   case rel => exact ((BX.out.put3 0 _ rfl).put3 10 _ rfl)
  rw [if_neg c4] at H
  have b4 : (a0_0 == 4) = false := beq_eq_false_iff_ne.mpr c4
  clear c4
  by_cases c5 : a0_0 = 5
  ·
   rw [if_pos c5] at H
   have b5 : (a0_0 == 5) = true := beq_iff_eq.mpr c5
   clear c5
   simp only [Option.bind_eq_some_iff] at H
   obtain ⟨z1, A1, z2, A2, ⟨x1, x2⟩, A3, H⟩ := H
   replace A1 := Aside0.mk A1
   replace A2 := Aside0.mk A2
   replace A3 := Aside0.mk A3
   simp only [Option.some.injEq, Prod.mk.injEq] at H
   obtain ⟨rfl, rfl, rfl, rfl, rfl, rfl, rfl, rfl, rfl, rfl, rfl⟩ := H
   go_wp2
   have B1 := Aside0.mk BX.out.b1
   replace BX := Aside0.mk BX.out.draw
   refine start_ (n := 14) (S := fun w' => w'.heap[g1]? = w3.heap[g1]?) (ds := []) (upT 0 14) (by kernel_rfl) rfl rfl rfl (fun hH => ?_); refine with_tabW pylonlaw02_plays.tab12 pylonlaw02_plays.bits12 (fun HT_ HW_ => ?_)
   generalize w3.drew = w4 at BX hH ⊢
   refine pq_ 0 55 (upT 1 13) HT_ ?_
   refine pq_ 3 58 #[true, false, false, true, false, false, false, false, false, false, false, false, false, false] HT_ ?_
   refine tk_ (.slice A0_9 l0_9.length c0_9) 1 56 #[true, true, false, true, false, false, false, false, false, false, false, false, false, false] HT_ HW_ hH (Or.inl ⟨rfl, fun w' hs => ?_⟩) ?_
   · have k9 : w'.cell? ⟨g1, 9, none⟩ = some (.slice A0_9 l0_9.length c0_9) := (blk_cell (hs.trans B1.out) 9).trans rfl; clear hs; go_simp; try with_reducible rfl
   refine tk_ (.slice A0_10 l0_10.length c0_10) 4 59 #[true, true, false, true, true, false, false, false, false, false, false, false, false, false] HT_ HW_ hH (Or.inl ⟨rfl, fun w' hs => ?_⟩) ?_
   · have k10 : w'.cell? ⟨g1, 10, none⟩ = some (.slice A0_10 l0_10.length c0_10) := (blk_cell (hs.trans B1.out) 10).trans rfl; clear hs; go_simp; try with_reducible rfl
   refine on_ 2 (some 57) (upT 5 9) HT_ (fun K hK => ?_)
   refine gN_ Tryz.func14 #[.slice A0_9 l0_9.length c0_9] ?_
   with_reducible refine (pylonlaw02_numbers.calls k _ _ l0_9 z1 _ ?side5_0_1 ?side5_0_2 A1.out).mono ?_
   (case side5_0_1 => exact Kd.C_below HR0_9.out BX.out.hb)
   (case side5_0_2 => exact HC0_9.out)
   rintro e v1 ⟨vv, rfl, ho0, hb⟩
   refine ⟨_, rfl, ?_⟩
   obtain ⟨Az1, coz1, eo⟩ := Kd.R_slice ho0
   subst eo
   have hC1 := Aside0.mk (And.intro (Kd.R_reads' ho0).2.2 (Kd.R_reads' ho0).2.1)
   clear ho0
   replace BX := Aside0.mk (BX.out.below hb)
   clear hb
   refine hK.out _ _ (BX.out.b1.trans B1.out.symm) (fun hH => ?_)
   clear hK K
   refine nm_ 57 _ ?_
   refine on_ 5 (some 60) (upT 6 8) HT_ (fun K hK => ?_)
   refine gN_ Tryz.func14 #[.slice A0_10 l0_10.length c0_10] ?_
   with_reducible refine (pylonlaw02_numbers.calls k _ _ l0_10 z2 _ ?side5_1_1 ?side5_1_2 A2.out).mono ?_
   (case side5_1_1 => exact Kd.C_below HR0_10.out BX.out.hb)
   (case side5_1_2 => exact HC0_10.out)
   rintro e v2 ⟨vv, rfl, ho0, hb⟩
   refine ⟨_, rfl, ?_⟩
   replace hC1 := Aside0.mk (And.intro (Kd.C_below hC1.out.1 hb) hC1.out.2)
   obtain ⟨Az2, coz2, eo⟩ := Kd.R_slice ho0
   subst eo
   have hC2 := Aside0.mk (And.intro (Kd.R_reads' ho0).2.2 (Kd.R_reads' ho0).2.1)
   clear ho0
   replace BX := Aside0.mk (BX.out.below hb)
   clear hb
   refine hK.out _ _ (BX.out.b1.trans B1.out.symm) (fun hH => ?_)
   clear hK K
   refine nm_ 60 _ ?_
   refine on_ 6 (some 61) (upT 7 7) HT_ (fun K hK => ?_)
   refine gN_ Tryz.func13 #[.slice Az1 z1.length coz1, .slice Az2 z2.length coz2] ?_
   with_reducible refine (phasor_Phases.calls k _ _ z1 _ _ z2 x1 x2 _ ?side5_2_1 ?side5_2_2 ?side5_2_3 ?side5_2_4 A3.out).mono ?_
   (case side5_2_1 => exact hC1.out.1)
   (case side5_2_2 => exact hC1.out.2)
   (case side5_2_3 => exact hC2.out.1)
   (case side5_2_4 => exact hC2.out.2)
   rintro e v3 ⟨rfl, hb⟩
   refine ⟨_, rfl, ?_⟩
   replace BX := Aside0.mk (BX.out.below hb)
   clear hb
   refine hK.out _ _ (BX.out.b1.trans B1.out.symm) (fun hH => ?_)
   clear hK K
   refine nm_ 61 _ ?_
   refine pq_ 7 54 (upT 8 6) HT_ ?_
   refine pq_ 8 62 (upT 9 5) HT_ ?_
   refine pq_ 9 63 (upT 10 4) HT_ ?_
   refine pq_ 10 64 (upT 11 3) HT_ ?_
   have s0 : v3.cell? ⟨g3, 0, none⟩ = some (.complex .f64 0 0) := (blk_cell BX.out.b3 0).trans rfl
   have s10 : v3.cell? ⟨g3, 10, none⟩ = some (.int .i64 0) := (blk_cell BX.out.b3 10).trans rfl
   have f0 := blk_frozen BX.out.b3 0
   have f10 := blk_frozen BX.out.b3 10
   refine on_ 11 none (upT 12 2) HT_ (fun K hK => ?_)
   refine sk_ ?_
   refine hK.out _ _ ((BX.out.put3 0 _ rfl).b1.trans B1.out.symm) (fun hH => ?_)
   clear hK K
   refine pq_ 12 65 (upT 13 1) HT_ ?_
   refine on_ 13 none (upT 14 0) HT_ (fun K hK => ?_)
   refine sk_ ?_
   refine hK.out _ _ (((BX.out.put3 0 _ rfl).put3 10 _ rfl).b1.trans B1.out.symm) (fun hH => ?_)
   clear hK K
   refine done_ (done_of HT_.out (by kernel_rfl)) ?_
   try go_wp2
   go_meet
   case rel => exact ((BX.out.put3 0 _ rfl).put3 10 _ rfl)
  rw [if_neg c5] at H
  have b5 : (a0_0 == 5) = false := beq_eq_false_iff_ne.mpr c5
  clear c5
  by_cases c6 : a0_0 = 6
  ·
   rw [if_pos c6] at H
   have b6 : (a0_0 == 6) = true := beq_iff_eq.mpr c6
   clear c6
   simp only [Option.bind_eq_some_iff] at H
   obtain ⟨z1, A1, z2, A2, z3, A3, z4, A4, ⟨x1, x2⟩, A5, H⟩ := H
   replace A1 := Aside0.mk A1
   replace A2 := Aside0.mk A2
   replace A3 := Aside0.mk A3
   replace A4 := Aside0.mk A4
   replace A5 := Aside0.mk A5
   simp only [Option.some.injEq, Prod.mk.injEq] at H
   obtain ⟨rfl, rfl, rfl, rfl, rfl, rfl, rfl, rfl, rfl, rfl, rfl⟩ := H
   go_wp2
   have B1 := Aside0.mk BX.out.b1
   replace BX := Aside0.mk BX.out.draw
   refine start_ (n := 20) (S := fun w' => w'.heap[g1]? = w3.heap[g1]?) (ds := []) (upT 0 20) (by kernel_rfl) rfl rfl rfl (fun hH => ?_); refine with_tabW pylonlaw02_plays.tab14 pylonlaw02_plays.bits14 (fun HT_ HW_ => ?_)
   generalize w3.drew = w4 at BX hH ⊢
   refine pq_ 0 69 (upT 1 19) HT_ ?_
   refine pq_ 3 72 #[true, false, false, true, false, false, false, false, false, false, false, false, false, false, false, false, false, false, false, false] HT_ ?_
   refine pq_ 6 75 #[true, false, false, true, false, false, true, false, false, false, false, false, false, false, false, false, false, false, false, false] HT_ ?_
   refine pq_ 9 78 #[true, false, false, true, false, false, true, false, false, true, false, false, false, false, false, false, false, false, false, false] HT_ ?_
   refine tk_ (.agg #[.float .f64 a0_1, .float .f64 a0_2]) 1 70 #[true, true, false, true, false, false, true, false, false, true, false, false, false, false, false, false, false, false, false, false] HT_ HW_ hH (Or.inl ⟨rfl, fun w' hs => ?_⟩) ?_
   · have k1 : w'.cell? ⟨g1, 1, none⟩ = some (.float .f64 a0_1) := (blk_cell (hs.trans B1.out) 1).trans rfl; have k2 : w'.cell? ⟨g1, 2, none⟩ = some (.float .f64 a0_2) := (blk_cell (hs.trans B1.out) 2).trans rfl; clear hs; go_simp; try with_reducible rfl
   refine tk_ (.agg #[.float .f64 a0_3, .float .f64 a0_4]) 4 73 #[true, true, false, true, true, false, true, false, false, true, false, false, false, false, false, false, false, false, false, false] HT_ HW_ hH (Or.inl ⟨rfl, fun w' hs => ?_⟩) ?_
   · have k3 : w'.cell? ⟨g1, 3, none⟩ = some (.float .f64 a0_3) := (blk_cell (hs.trans B1.out) 3).trans rfl; have k4 : w'.cell? ⟨g1, 4, none⟩ = some (.float .f64 a0_4) := (blk_cell (hs.trans B1.out) 4).trans rfl; clear hs; go_simp; try with_reducible rfl
   refine tk_ (.agg #[.float .f64 a0_5, .float .f64 a0_6]) 7 76 #[true, true, false, true, true, false, true, true, false, true, false, false, false, false, false, false, false, false, false, false] HT_ HW_ hH (Or.inl ⟨rfl, fun w' hs => ?_⟩) ?_
   · have k5 : w'.cell? ⟨g1, 5, none⟩ = some (.float .f64 a0_5) := (blk_cell (hs.trans B1.out) 5).trans rfl; have k6 : w'.cell? ⟨g1, 6, none⟩ = some (.float .f64 a0_6) := (blk_cell (hs.trans B1.out) 6).trans rfl; clear hs; go_simp; try with_reducible rfl
   refine tk_ (.agg #[.float .f64 a0_7, .float .f64 a0_8]) 10 79 #[true, true, false, true, true, false, true, true, false, true, true, false, false, false, false, false, false, false, false, false] HT_ HW_ hH (Or.inl ⟨rfl, fun w' hs => ?_⟩) ?_
   · have k7 : w'.cell? ⟨g1, 7, none⟩ = some (.float .f64 a0_7) := (blk_cell (hs.trans B1.out) 7).trans rfl; have k8 : w'.cell? ⟨g1, 8, none⟩ = some (.float .f64 a0_8) := (blk_cell (hs.trans B1.out) 8).trans rfl; clear hs; go_simp; try with_reducible rfl
   refine on_ 2 (some 71) #[true, true, true, true, true, false, true, true, false, true, true, false, false, false, false, false, false, false, false, false] HT_ (fun K hK => ?_)
   refine gN_ Tryz.func10 #[.agg #[.float .f64 a0_1, .float .f64 a0_2]] ?_
   with_reducible refine (pylonlaw02_Z_c.calls a0_1 a0_2 z1 _ A1.out).mono ?_
   rintro e v1 ⟨rfl, hb⟩
   refine ⟨_, rfl, ?_⟩
   replace BX := Aside0.mk (BX.out.below hb)
   clear hb
   refine hK.out _ _ (BX.out.b1.trans B1.out.symm) (fun hH => ?_)
   clear hK K
   refine nm_ 71 _ ?_
   refine on_ 5 (some 74) #[true, true, true, true, true, true, true, true, false, true, true, false, false, false, false, false, false, false, false, false] HT_ (fun K hK => ?_)
   refine gN_ Tryz.func10 #[.agg #[.float .f64 a0_3, .float .f64 a0_4]] ?_
   with_reducible refine (pylonlaw02_Z_c.calls a0_3 a0_4 z2 _ A2.out).mono ?_
   rintro e v2 ⟨rfl, hb⟩
   refine ⟨_, rfl, ?_⟩
   replace BX := Aside0.mk (BX.out.below hb)
   clear hb
   refine hK.out _ _ (BX.out.b1.trans B1.out.symm) (fun hH => ?_)
   clear hK K
   refine nm_ 74 _ ?_
   refine on_ 8 (some 77) (upT 11 9) HT_ (fun K hK => ?_)
   refine gN_ Tryz.func10 #[.agg #[.float .f64 a0_5, .float .f64 a0_6]] ?_
   with_reducible refine (pylonlaw02_Z_c.calls a0_5 a0_6 z3 _ A3.out).mono ?_
   rintro e v3 ⟨rfl, hb⟩
   refine ⟨_, rfl, ?_⟩
   replace BX := Aside0.mk (BX.out.below hb)
   clear hb
   refine hK.out _ _ (BX.out.b1.trans B1.out.symm) (fun hH => ?_)
   clear hK K
   refine nm_ 77 _ ?_
   refine on_ 11 (some 80) (upT 12 8) HT_ (fun K hK => ?_)
   refine gN_ Tryz.func10 #[.agg #[.float .f64 a0_7, .float .f64 a0_8]] ?_
   with_reducible refine (pylonlaw02_Z_c.calls a0_7 a0_8 z4 _ A4.out).mono ?_
   rintro e v4 ⟨rfl, hb⟩
   refine ⟨_, rfl, ?_⟩
   replace BX := Aside0.mk (BX.out.below hb)
   clear hb
   refine hK.out _ _ (BX.out.b1.trans B1.out.symm) (fun hH => ?_)
   clear hK K
   refine nm_ 80 _ ?_
   refine on_ 12 (some 81) (upT 13 7) HT_ (fun K hK => ?_)
   refine gN_ Tryz.func15 #[.complex .f64 z1.re z1.im, .complex .f64 z2.re z2.im, .complex .f64 z3.re z3.im, .complex .f64 z4.re z4.im] ?_
   with_reducible refine (phasor_Aron.calls z1 z2 z3 z4 x1 x2 _ A5.out).mono ?_
   rintro e v5 ⟨rfl, hb⟩
   refine ⟨_, rfl, ?_⟩
   replace BX := Aside0.mk (BX.out.below hb)
   clear hb
   refine hK.out _ _ (BX.out.b1.trans B1.out.symm) (fun hH => ?_)
   clear hK K
   refine nm_ 81 _ ?_
   refine pq_ 13 68 (upT 14 6) HT_ ?_
   refine pq_ 14 82 (upT 15 5) HT_ ?_
   refine pq_ 15 83 (upT 16 4) HT_ ?_
   refine pq_ 16 84 (upT 17 3) HT_ ?_
   have s0 : v5.cell? ⟨g3, 0, none⟩ = some (.complex .f64 0 0) := (blk_cell BX.out.b3 0).trans rfl
   have s10 : v5.cell? ⟨g3, 10, none⟩ = some (.int .i64 0) := (blk_cell BX.out.b3 10).trans rfl
   have f0 := blk_frozen BX.out.b3 0
   have f10 := blk_frozen BX.out.b3 10
   refine on_ 17 none (upT 18 2) HT_ (fun K hK => ?_)
   refine sk_ ?_
   refine hK.out _ _ ((BX.out.put3 0 _ rfl).b1.trans B1.out.symm) (fun hH => ?_)
   clear hK K
   refine pq_ 18 85 (upT 19 1) HT_ ?_
   refine on_ 19 none (upT 20 0) HT_ (fun K hK => ?_)
   refine sk_ ?_
   refine hK.out _ _ (((BX.out.put3 0 _ rfl).put3 10 _ rfl).b1.trans B1.out.symm) (fun hH => ?_)
   clear hK K
   refine done_ (done_of HT_.out (by kernel_rfl)) ?_
   try go_wp2
   go_meet
   case rel => exact ((BX.out.put3 0 _ rfl).put3 10 _ rfl)
  rw [if_neg c6] at H
  have b6 : (a0_0 == 6) = false := beq_eq_false_iff_ne.mpr c6
  clear c6
  by_cases c7 : a0_0 = 7
  ·
   rw [if_pos c7] at H
   have b7 : (a0_0 == 7) = true := beq_iff_eq.mpr c7
   clear c7
   simp only [Option.bind_eq_some_iff] at H
   obtain ⟨z1, A1, ⟨x1, x2⟩, A2, H⟩ := H
   replace A1 := Aside0.mk A1
   replace A2 := Aside0.mk A2
   simp only [Option.some.injEq, Prod.mk.injEq] at H
   obtain ⟨rfl, rfl, rfl, rfl, rfl, rfl, rfl, rfl, rfl, rfl, rfl⟩ := H
   go_wp2
   have B1 := Aside0.mk BX.out.b1
   replace BX := Aside0.mk BX.out.draw
   refine start_ (n := 13) (S := fun w' => w'.heap[g1]? = w3.heap[g1]?) (ds := []) (upT 0 13) (by kernel_rfl) rfl rfl rfl (fun hH => ?_); refine with_tabW pylonlaw02_plays.tab16 pylonlaw02_plays.bits16 (fun HT_ HW_ => ?_)
   generalize w3.drew = w4 at BX hH ⊢
   refine pq_ 0 89 (upT 1 12) HT_ ?_
   refine pq_ 3 92 #[true, false, false, true, false, false, false, false, false, false, false, false, false] HT_ ?_
   refine tk_ (.agg #[.float .f64 a0_1, .float .f64 a0_2]) 1 90 #[true, true, false, true, false, false, false, false, false, false, false, false, false] HT_ HW_ hH (Or.inl ⟨rfl, fun w' hs => ?_⟩) ?_
   · have k1 : w'.cell? ⟨g1, 1, none⟩ = some (.float .f64 a0_1) := (blk_cell (hs.trans B1.out) 1).trans rfl; have k2 : w'.cell? ⟨g1, 2, none⟩ = some (.float .f64 a0_2) := (blk_cell (hs.trans B1.out) 2).trans rfl; clear hs; go_simp; try with_reducible rfl
   refine tk_ (.int .i64 a0_13) 4 93 #[true, true, false, true, true, false, false, false, false, false, false, false, false] HT_ HW_ hH (Or.inl ⟨rfl, fun w' hs => ?_⟩) ?_
   · have k13 : w'.cell? ⟨g1, 13, none⟩ = some (.int .i64 a0_13) := (blk_cell (hs.trans B1.out) 13).trans rfl; clear hs; go_simp; try with_reducible rfl
   refine on_ 2 (some 91) (upT 5 8) HT_ (fun K hK => ?_)
   refine gN_ Tryz.func10 #[.agg #[.float .f64 a0_1, .float .f64 a0_2]] ?_
   with_reducible refine (pylonlaw02_Z_c.calls a0_1 a0_2 z1 _ A1.out).mono ?_
   rintro e v1 ⟨rfl, hb⟩
   refine ⟨_, rfl, ?_⟩
   replace BX := Aside0.mk (BX.out.below hb)
   clear hb
   refine hK.out _ _ (BX.out.b1.trans B1.out.symm) (fun hH => ?_)
   clear hK K
   refine nm_ 91 _ ?_
   refine on_ 5 (some 94) (upT 6 7) HT_ (fun K hK => ?_)
   refine gN_ Tryz.func16 #[.complex .f64 z1.re z1.im, .int .i64 a0_13] ?_
   with_reducible refine (phasor_Turn.calls z1 a0_13 x1 x2 _ A2.out).mono ?_
   rintro e v2 ⟨rfl, hb⟩
   refine ⟨_, rfl, ?_⟩
   replace BX := Aside0.mk (BX.out.below hb)
   clear hb
   refine hK.out _ _ (BX.out.b1.trans B1.out.symm) (fun hH => ?_)
   clear hK K
   refine nm_ 94 _ ?_
   refine pq_ 6 88 (upT 7 6) HT_ ?_
   refine pq_ 7 95 (upT 8 5) HT_ ?_
   refine pq_ 8 96 (upT 9 4) HT_ ?_
   refine pq_ 9 97 (upT 10 3) HT_ ?_
   have s0 : v2.cell? ⟨g3, 0, none⟩ = some (.complex .f64 0 0) := (blk_cell BX.out.b3 0).trans rfl
   have s10 : v2.cell? ⟨g3, 10, none⟩ = some (.int .i64 0) := (blk_cell BX.out.b3 10).trans rfl
   have f0 := blk_frozen BX.out.b3 0
   have f10 := blk_frozen BX.out.b3 10
   refine on_ 10 none (upT 11 2) HT_ (fun K hK => ?_)
   refine sk_ ?_
   refine hK.out _ _ ((BX.out.put3 0 _ rfl).b1.trans B1.out.symm) (fun hH => ?_)
   clear hK K
   refine pq_ 11 98 (upT 12 1) HT_ ?_
   refine on_ 12 none (upT 13 0) HT_ (fun K hK => ?_)
   refine sk_ ?_
   refine hK.out _ _ (((BX.out.put3 0 _ rfl).put3 10 _ rfl).b1.trans B1.out.symm) (fun hH => ?_)
   clear hK K
   refine done_ (done_of HT_.out (by kernel_rfl)) ?_
   try go_wp2
   go_meet
   case rel => exact ((BX.out.put3 0 _ rfl).put3 10 _ rfl)
  rw [if_neg c7] at H
  have b7 : (a0_0 == 7) = false := beq_eq_false_iff_ne.mpr c7
  clear c7
  by_cases c8 : a0_0 = 8
  ·
   rw [if_pos c8] at H
   have b8 : (a0_0 == 8) = true := beq_iff_eq.mpr c8
   clear c8
   simp only [Option.bind_eq_some_iff] at H
   obtain ⟨z1, A1, x1, A2, H⟩ := H
   replace A1 := Aside0.mk A1
   replace A2 := Aside0.mk A2
   simp only [Option.some.injEq, Prod.mk.injEq] at H
   obtain ⟨rfl, rfl, rfl, rfl, rfl, rfl, rfl, rfl, rfl, rfl, rfl⟩ := H
   have k1 : w3.cell? ⟨g1, 1, none⟩ = some (.float .f64 a0_1) := (blk_cell BX.out.b1 1).trans rfl
   have k2 : w3.cell? ⟨g1, 2, none⟩ = some (.float .f64 a0_2) := (blk_cell BX.out.b1 2).trans rfl
   go_wp2_with (first | ((with_reducible refine gate_callee (f := 10) rfl ?_); refine gL_ (some 103) Tryz.func10 #[.agg #[.float .f64 a0_1, .float .f64 a0_2]] ?_; (with_reducible refine (pylonlaw02_Z_c.calls a0_1 a0_2 z1 _ A1.out).mono ?_); rintro e v1 ⟨rfl, hb⟩; refine ⟨_, rfl, ?_⟩; replace BX := Aside0.mk (BX.out.below hb); clear hb) | ((with_reducible refine gate_callee (f := 17) rfl ?_); refine gL_ (some 104) Tryz.func17 #[.complex .f64 z1.re z1.im] ?_; (with_reducible refine (phasor_Quadrant.calls k z1 x1 _ A2.out).mono ?_); rintro e v2 ⟨rfl, hb⟩; refine ⟨_, rfl, ?_⟩; replace BX := Aside0.mk (BX.out.below hb); clear hb; have s7 : v2.cell? ⟨g3, 7, none⟩ = some (.int .i64 0) := (blk_cell BX.out.b3 7).trans rfl; have f7 := blk_frozen BX.out.b3 7))
   go_meet
   case rel => exact (BX.out.put3 7 _ rfl)
  rw [if_neg c8] at H
  have b8 : (a0_0 == 8) = false := beq_eq_false_iff_ne.mpr c8
  clear c8
  by_cases c9 : a0_0 = 9
  ·
   rw [if_pos c9] at H
   have b9 : (a0_0 == 9) = true := beq_iff_eq.mpr c9
   clear c9
   simp only [Option.bind_eq_some_iff] at H
   obtain ⟨z1, A1, ⟨x1, x2⟩, A2, H⟩ := H
   replace A1 := Aside0.mk A1
   replace A2 := Aside0.mk A2
   simp only [Option.some.injEq, Prod.mk.injEq] at H
   obtain ⟨rfl, rfl, rfl, rfl, rfl, rfl, rfl, rfl, rfl, rfl, rfl⟩ := H
   have k1 : w3.cell? ⟨g1, 1, none⟩ = some (.float .f64 a0_1) := (blk_cell BX.out.b1 1).trans rfl
   have k2 : w3.cell? ⟨g1, 2, none⟩ = some (.float .f64 a0_2) := (blk_cell BX.out.b1 2).trans rfl
   go_wp2_with (first | ((with_reducible refine gate_callee (f := 10) rfl ?_); refine gL_ (some 111) Tryz.func10 #[.agg #[.float .f64 a0_1, .float .f64 a0_2]] ?_; (with_reducible refine (pylonlaw02_Z_c.calls a0_1 a0_2 z1 _ A1.out).mono ?_); rintro e v1 ⟨rfl, hb⟩; refine ⟨_, rfl, ?_⟩; replace BX := Aside0.mk (BX.out.below hb); clear hb) | ((with_reducible refine gate_callee (f := 18) rfl ?_); refine gL_ (some 112) Tryz.func18 #[.complex .f64 z1.re z1.im] ?_; (with_reducible refine (phasor_Apparent.calls k z1 x1 x2 _ A2.out).mono ?_); rintro e v2 ⟨rfl, hb⟩; refine ⟨_, rfl, ?_⟩; replace BX := Aside0.mk (BX.out.below hb); clear hb; have s5 : v2.cell? ⟨g3, 5, none⟩ = some (.int .i64 0) := (blk_cell BX.out.b3 5).trans rfl; have s10 : v2.cell? ⟨g3, 10, none⟩ = some (.int .i64 0) := (blk_cell BX.out.b3 10).trans rfl; have f5 := blk_frozen BX.out.b3 5; have f10 := blk_frozen BX.out.b3 10))
   go_meet
   case rel => exact ((BX.out.put3 5 _ rfl).put3 10 _ rfl)
  rw [if_neg c9] at H
  have b9 : (a0_0 == 9) = false := beq_eq_false_iff_ne.mpr c9
  clear c9
  by_cases c10 : a0_0 = 10
  ·
   rw [if_pos c10] at H
   have b10 : (a0_0 == 10) = true := beq_iff_eq.mpr c10
   clear c10
   simp only [Option.bind_eq_some_iff] at H
   obtain ⟨z1, A1, z2, A2, z3, A3, z4, A4, ⟨x1, x2, x3, x4, x5⟩, A5, H⟩ := H
   replace A1 := Aside0.mk A1
   replace A2 := Aside0.mk A2
   replace A3 := Aside0.mk A3
   replace A4 := Aside0.mk A4
   replace A5 := Aside0.mk A5
   simp only [Option.some.injEq, Prod.mk.injEq] at H
   obtain ⟨rfl, rfl, rfl, rfl, rfl, rfl, rfl, rfl, rfl, rfl, rfl⟩ := H
   go_wp2
   have B1 := Aside0.mk BX.out.b1
   replace BX := Aside0.mk BX.out.draw
   refine start_ (n := 21) (S := fun w' => w'.heap[g1]? = w3.heap[g1]?) (ds := []) (upT 0 21) (by kernel_rfl) rfl rfl rfl (fun hH => ?_); refine with_tabW pylonlaw02_plays.tab22 pylonlaw02_plays.bits22 (fun HT_ HW_ => ?_)
   generalize w3.drew = w4 at BX hH ⊢
   refine pq_ 0 120 (upT 1 20) HT_ ?_
   refine pq_ 3 123 #[true, false, false, true, false, false, false, false, false, false, false, false, false, false, false, false, false, false, false, false, false] HT_ ?_
   refine pq_ 6 126 #[true, false, false, true, false, false, true, false, false, false, false, false, false, false, false, false, false, false, false, false, false] HT_ ?_
   refine pq_ 9 129 #[true, false, false, true, false, false, true, false, false, true, false, false, false, false, false, false, false, false, false, false, false] HT_ ?_
   refine tk_ (.agg #[.float .f64 a0_1, .float .f64 a0_2]) 1 121 #[true, true, false, true, false, false, true, false, false, true, false, false, false, false, false, false, false, false, false, false, false] HT_ HW_ hH (Or.inl ⟨rfl, fun w' hs => ?_⟩) ?_
   · have k1 : w'.cell? ⟨g1, 1, none⟩ = some (.float .f64 a0_1) := (blk_cell (hs.trans B1.out) 1).trans rfl; have k2 : w'.cell? ⟨g1, 2, none⟩ = some (.float .f64 a0_2) := (blk_cell (hs.trans B1.out) 2).trans rfl; clear hs; go_simp; try with_reducible rfl
   refine tk_ (.agg #[.float .f64 a0_3, .float .f64 a0_4]) 4 124 #[true, true, false, true, true, false, true, false, false, true, false, false, false, false, false, false, false, false, false, false, false] HT_ HW_ hH (Or.inl ⟨rfl, fun w' hs => ?_⟩) ?_
   · have k3 : w'.cell? ⟨g1, 3, none⟩ = some (.float .f64 a0_3) := (blk_cell (hs.trans B1.out) 3).trans rfl; have k4 : w'.cell? ⟨g1, 4, none⟩ = some (.float .f64 a0_4) := (blk_cell (hs.trans B1.out) 4).trans rfl; clear hs; go_simp; try with_reducible rfl
   refine tk_ (.agg #[.float .f64 a0_5, .float .f64 a0_6]) 7 127 #[true, true, false, true, true, false, true, true, false, true, false, false, false, false, false, false, false, false, false, false, false] HT_ HW_ hH (Or.inl ⟨rfl, fun w' hs => ?_⟩) ?_
   · have k5 : w'.cell? ⟨g1, 5, none⟩ = some (.float .f64 a0_5) := (blk_cell (hs.trans B1.out) 5).trans rfl; have k6 : w'.cell? ⟨g1, 6, none⟩ = some (.float .f64 a0_6) := (blk_cell (hs.trans B1.out) 6).trans rfl; clear hs; go_simp; try with_reducible rfl
   refine tk_ (.agg #[.float .f64 a0_7, .float .f64 a0_8]) 10 130 #[true, true, false, true, true, false, true, true, false, true, true, false, false, false, false, false, false, false, false, false, false] HT_ HW_ hH (Or.inl ⟨rfl, fun w' hs => ?_⟩) ?_
   · have k7 : w'.cell? ⟨g1, 7, none⟩ = some (.float .f64 a0_7) := (blk_cell (hs.trans B1.out) 7).trans rfl; have k8 : w'.cell? ⟨g1, 8, none⟩ = some (.float .f64 a0_8) := (blk_cell (hs.trans B1.out) 8).trans rfl; clear hs; go_simp; try with_reducible rfl
   refine on_ 2 (some 122) #[true, true, true, true, true, false, true, true, false, true, true, false, false, false, false, false, false, false, false, false, false] HT_ (fun K hK => ?_)
   refine gN_ Tryz.func10 #[.agg #[.float .f64 a0_1, .float .f64 a0_2]] ?_
   with_reducible refine (pylonlaw02_Z_c.calls a0_1 a0_2 z1 _ A1.out).mono ?_
   rintro e v1 ⟨rfl, hb⟩
   refine ⟨_, rfl, ?_⟩
   replace BX := Aside0.mk (BX.out.below hb)
   clear hb
   refine hK.out _ _ (BX.out.b1.trans B1.out.symm) (fun hH => ?_)
   clear hK K
   refine nm_ 122 _ ?_
   refine on_ 5 (some 125) #[true, true, true, true, true, true, true, true, false, true, true, false, false, false, false, false, false, false, false, false, false] HT_ (fun K hK => ?_)
   refine gN_ Tryz.func10 #[.agg #[.float .f64 a0_3, .float .f64 a0_4]] ?_
   with_reducible refine (pylonlaw02_Z_c.calls a0_3 a0_4 z2 _ A2.out).mono ?_
   rintro e v2 ⟨rfl, hb⟩
   refine ⟨_, rfl, ?_⟩
   replace BX := Aside0.mk (BX.out.below hb)
   clear hb
   refine hK.out _ _ (BX.out.b1.trans B1.out.symm) (fun hH => ?_)
   clear hK K
   refine nm_ 125 _ ?_
   refine on_ 8 (some 128) (upT 11 10) HT_ (fun K hK => ?_)
   refine gN_ Tryz.func10 #[.agg #[.float .f64 a0_5, .float .f64 a0_6]] ?_
   with_reducible refine (pylonlaw02_Z_c.calls a0_5 a0_6 z3 _ A3.out).mono ?_
   rintro e v3 ⟨rfl, hb⟩
   refine ⟨_, rfl, ?_⟩
   replace BX := Aside0.mk (BX.out.below hb)
   clear hb
   refine hK.out _ _ (BX.out.b1.trans B1.out.symm) (fun hH => ?_)
   clear hK K
   refine nm_ 128 _ ?_
   refine on_ 11 (some 131) (upT 12 9) HT_ (fun K hK => ?_)
   refine gN_ Tryz.func10 #[.agg #[.float .f64 a0_7, .float .f64 a0_8]] ?_
   with_reducible refine (pylonlaw02_Z_c.calls a0_7 a0_8 z4 _ A4.out).mono ?_
   rintro e v4 ⟨rfl, hb⟩
   refine ⟨_, rfl, ?_⟩
   replace BX := Aside0.mk (BX.out.below hb)
   clear hb
   refine hK.out _ _ (BX.out.b1.trans B1.out.symm) (fun hH => ?_)
   clear hK K
   refine nm_ 131 _ ?_
   refine pq_ 12 132 (upT 13 8) HT_ ?_
   refine on_ 13 (some 133) (upT 14 7) HT_ (fun K hK => ?_)
   refine gN_ Tryz.func19 #[.agg #[.complex .f64 z1.re z1.im, .complex .f64 z2.re z2.im, .complex .f64 z3.re z3.im, .complex .f64 z4.re z4.im]] ?_
   with_reducible refine (phasor_Four.calls z1 z2 z3 z4 x1 x2 x3 x4 x5 _ ?side10_4_1 A5.out).mono ?_
   (case side10_4_1 => exact Go.Proofs.YtofedlghaopciaaGreatDoor.Hand.GW.on HTB.out BX.out.hb)
   rintro e v5 ⟨rfl, hb⟩
   refine ⟨_, rfl, ?_⟩
   replace BX := Aside0.mk (BX.out.below hb)
   clear hb
   refine hK.out _ _ (BX.out.b1.trans B1.out.symm) (fun hH => ?_)
   clear hK K
   refine nm_ 133 _ ?_
   refine pq_ 14 119 (upT 15 6) HT_ ?_
   refine pq_ 15 134 (upT 16 5) HT_ ?_
   refine pq_ 16 135 (upT 17 4) HT_ ?_
   refine pq_ 17 136 (upT 18 3) HT_ ?_
   have s1 : v5.cell? ⟨g3, 1, none⟩ = some (.complex .f64 0 0) := (blk_cell BX.out.b3 1).trans rfl
   have s2 : v5.cell? ⟨g3, 2, none⟩ = some (.complex .f64 0 0) := (blk_cell BX.out.b3 2).trans rfl
   have s3 : v5.cell? ⟨g3, 3, none⟩ = some (.complex .f64 0 0) := (blk_cell BX.out.b3 3).trans rfl
   have s4 : v5.cell? ⟨g3, 4, none⟩ = some (.complex .f64 0 0) := (blk_cell BX.out.b3 4).trans rfl
   have s10 : v5.cell? ⟨g3, 10, none⟩ = some (.int .i64 0) := (blk_cell BX.out.b3 10).trans rfl
   have f1 := blk_frozen BX.out.b3 1
   have f2 := blk_frozen BX.out.b3 2
   have f3 := blk_frozen BX.out.b3 3
   have f4 := blk_frozen BX.out.b3 4
   have f10 := blk_frozen BX.out.b3 10
   refine on_ 18 none (upT 19 2) HT_ (fun K hK => ?_)
   refine sk_ ?_
   refine hK.out _ _ (((((BX.out.put3 1 _ rfl).put3 2 _ rfl).put3 3 _ rfl).put3 4 _ rfl).b1.trans B1.out.symm) (fun hH => ?_)
   clear hK K
   refine pq_ 19 137 (upT 20 1) HT_ ?_
   refine on_ 20 none (upT 21 0) HT_ (fun K hK => ?_)
   refine sk_ ?_
   refine hK.out _ _ ((((((BX.out.put3 1 _ rfl).put3 2 _ rfl).put3 3 _ rfl).put3 4 _ rfl).put3 10 _ rfl).b1.trans B1.out.symm) (fun hH => ?_)
   clear hK K
   refine done_ (done_of HT_.out (by kernel_rfl)) ?_
   try go_wp2
   go_meet
   case rel => exact (((((BX.out.put3 1 _ rfl).put3 2 _ rfl).put3 3 _ rfl).put3 4 _ rfl).put3 10 _ rfl)
  rw [if_neg c10] at H
  have b10 : (a0_0 == 10) = false := beq_eq_false_iff_ne.mpr c10
  clear c10
  by_cases c11 : a0_0 = 11
  ·
   rw [if_pos c11] at H
   have b11 : (a0_0 == 11) = true := beq_iff_eq.mpr c11
   clear c11
   simp only [Option.bind_eq_some_iff] at H
   obtain ⟨z1, A1, z2, A2, z3, A3, z4, A4, ⟨x1, x2, x3, x4, x5⟩, A5, H⟩ := H
   replace A1 := Aside0.mk A1
   replace A2 := Aside0.mk A2
   replace A3 := Aside0.mk A3
   replace A4 := Aside0.mk A4
   replace A5 := Aside0.mk A5
   simp only [Option.some.injEq, Prod.mk.injEq] at H
   obtain ⟨rfl, rfl, rfl, rfl, rfl, rfl, rfl, rfl, rfl, rfl, rfl⟩ := H
   go_wp2
   have B1 := Aside0.mk BX.out.b1
   replace BX := Aside0.mk BX.out.draw
   refine start_ (n := 21) (S := fun w' => w'.heap[g1]? = w3.heap[g1]?) (ds := []) (upT 0 21) (by kernel_rfl) rfl rfl rfl (fun hH => ?_); refine with_tabW pylonlaw02_plays.tab24 pylonlaw02_plays.bits24 (fun HT_ HW_ => ?_)
   generalize w3.drew = w4 at BX hH ⊢
   refine pq_ 0 141 (upT 1 20) HT_ ?_
   refine pq_ 3 144 #[true, false, false, true, false, false, false, false, false, false, false, false, false, false, false, false, false, false, false, false, false] HT_ ?_
   refine pq_ 6 147 #[true, false, false, true, false, false, true, false, false, false, false, false, false, false, false, false, false, false, false, false, false] HT_ ?_
   refine pq_ 9 150 #[true, false, false, true, false, false, true, false, false, true, false, false, false, false, false, false, false, false, false, false, false] HT_ ?_
   refine tk_ (.agg #[.float .f64 a0_1, .float .f64 a0_2]) 1 142 #[true, true, false, true, false, false, true, false, false, true, false, false, false, false, false, false, false, false, false, false, false] HT_ HW_ hH (Or.inl ⟨rfl, fun w' hs => ?_⟩) ?_
   · have k1 : w'.cell? ⟨g1, 1, none⟩ = some (.float .f64 a0_1) := (blk_cell (hs.trans B1.out) 1).trans rfl; have k2 : w'.cell? ⟨g1, 2, none⟩ = some (.float .f64 a0_2) := (blk_cell (hs.trans B1.out) 2).trans rfl; clear hs; go_simp; try with_reducible rfl
   refine tk_ (.agg #[.float .f64 a0_3, .float .f64 a0_4]) 4 145 #[true, true, false, true, true, false, true, false, false, true, false, false, false, false, false, false, false, false, false, false, false] HT_ HW_ hH (Or.inl ⟨rfl, fun w' hs => ?_⟩) ?_
   · have k3 : w'.cell? ⟨g1, 3, none⟩ = some (.float .f64 a0_3) := (blk_cell (hs.trans B1.out) 3).trans rfl; have k4 : w'.cell? ⟨g1, 4, none⟩ = some (.float .f64 a0_4) := (blk_cell (hs.trans B1.out) 4).trans rfl; clear hs; go_simp; try with_reducible rfl
   refine tk_ (.agg #[.float .f64 a0_5, .float .f64 a0_6]) 7 148 #[true, true, false, true, true, false, true, true, false, true, false, false, false, false, false, false, false, false, false, false, false] HT_ HW_ hH (Or.inl ⟨rfl, fun w' hs => ?_⟩) ?_
   · have k5 : w'.cell? ⟨g1, 5, none⟩ = some (.float .f64 a0_5) := (blk_cell (hs.trans B1.out) 5).trans rfl; have k6 : w'.cell? ⟨g1, 6, none⟩ = some (.float .f64 a0_6) := (blk_cell (hs.trans B1.out) 6).trans rfl; clear hs; go_simp; try with_reducible rfl
   refine tk_ (.agg #[.float .f64 a0_7, .float .f64 a0_8]) 10 151 #[true, true, false, true, true, false, true, true, false, true, true, false, false, false, false, false, false, false, false, false, false] HT_ HW_ hH (Or.inl ⟨rfl, fun w' hs => ?_⟩) ?_
   · have k7 : w'.cell? ⟨g1, 7, none⟩ = some (.float .f64 a0_7) := (blk_cell (hs.trans B1.out) 7).trans rfl; have k8 : w'.cell? ⟨g1, 8, none⟩ = some (.float .f64 a0_8) := (blk_cell (hs.trans B1.out) 8).trans rfl; clear hs; go_simp; try with_reducible rfl
   refine on_ 2 (some 143) #[true, true, true, true, true, false, true, true, false, true, true, false, false, false, false, false, false, false, false, false, false] HT_ (fun K hK => ?_)
   refine gN_ Tryz.func10 #[.agg #[.float .f64 a0_1, .float .f64 a0_2]] ?_
   with_reducible refine (pylonlaw02_Z_c.calls a0_1 a0_2 z1 _ A1.out).mono ?_
   rintro e v1 ⟨rfl, hb⟩
   refine ⟨_, rfl, ?_⟩
   replace BX := Aside0.mk (BX.out.below hb)
   clear hb
   refine hK.out _ _ (BX.out.b1.trans B1.out.symm) (fun hH => ?_)
   clear hK K
   refine nm_ 143 _ ?_
   refine on_ 5 (some 146) #[true, true, true, true, true, true, true, true, false, true, true, false, false, false, false, false, false, false, false, false, false] HT_ (fun K hK => ?_)
   refine gN_ Tryz.func10 #[.agg #[.float .f64 a0_3, .float .f64 a0_4]] ?_
   with_reducible refine (pylonlaw02_Z_c.calls a0_3 a0_4 z2 _ A2.out).mono ?_
   rintro e v2 ⟨rfl, hb⟩
   refine ⟨_, rfl, ?_⟩
   replace BX := Aside0.mk (BX.out.below hb)
   clear hb
   refine hK.out _ _ (BX.out.b1.trans B1.out.symm) (fun hH => ?_)
   clear hK K
   refine nm_ 146 _ ?_
   refine on_ 8 (some 149) (upT 11 10) HT_ (fun K hK => ?_)
   refine gN_ Tryz.func10 #[.agg #[.float .f64 a0_5, .float .f64 a0_6]] ?_
   with_reducible refine (pylonlaw02_Z_c.calls a0_5 a0_6 z3 _ A3.out).mono ?_
   rintro e v3 ⟨rfl, hb⟩
   refine ⟨_, rfl, ?_⟩
   replace BX := Aside0.mk (BX.out.below hb)
   clear hb
   refine hK.out _ _ (BX.out.b1.trans B1.out.symm) (fun hH => ?_)
   clear hK K
   refine nm_ 149 _ ?_
   refine on_ 11 (some 152) (upT 12 9) HT_ (fun K hK => ?_)
   refine gN_ Tryz.func10 #[.agg #[.float .f64 a0_7, .float .f64 a0_8]] ?_
   with_reducible refine (pylonlaw02_Z_c.calls a0_7 a0_8 z4 _ A4.out).mono ?_
   rintro e v4 ⟨rfl, hb⟩
   refine ⟨_, rfl, ?_⟩
   replace BX := Aside0.mk (BX.out.below hb)
   clear hb
   refine hK.out _ _ (BX.out.b1.trans B1.out.symm) (fun hH => ?_)
   clear hK K
   refine nm_ 152 _ ?_
   refine pq_ 12 153 (upT 13 8) HT_ ?_
   refine on_ 13 (some 154) (upT 14 7) HT_ (fun K hK => ?_)
   refine gN_ Tryz.func20 #[.agg #[.complex .f64 z1.re z1.im, .complex .f64 z2.re z2.im, .complex .f64 z3.re z3.im, .complex .f64 z4.re z4.im]] ?_
   with_reducible refine (phasor_Back.calls z1 z2 z3 z4 x1 x2 x3 x4 x5 _ ?side11_4_1 A5.out).mono ?_
   (case side11_4_1 => exact Go.Proofs.YtofedlghaopciaaGreatDoor.Hand.GW.on HTB.out BX.out.hb)
   rintro e v5 ⟨rfl, hb⟩
   refine ⟨_, rfl, ?_⟩
   replace BX := Aside0.mk (BX.out.below hb)
   clear hb
   refine hK.out _ _ (BX.out.b1.trans B1.out.symm) (fun hH => ?_)
   clear hK K
   refine nm_ 154 _ ?_
   refine pq_ 14 140 (upT 15 6) HT_ ?_
   refine pq_ 15 155 (upT 16 5) HT_ ?_
   refine pq_ 16 156 (upT 17 4) HT_ ?_
   refine pq_ 17 157 (upT 18 3) HT_ ?_
   have s1 : v5.cell? ⟨g3, 1, none⟩ = some (.complex .f64 0 0) := (blk_cell BX.out.b3 1).trans rfl
   have s2 : v5.cell? ⟨g3, 2, none⟩ = some (.complex .f64 0 0) := (blk_cell BX.out.b3 2).trans rfl
   have s3 : v5.cell? ⟨g3, 3, none⟩ = some (.complex .f64 0 0) := (blk_cell BX.out.b3 3).trans rfl
   have s4 : v5.cell? ⟨g3, 4, none⟩ = some (.complex .f64 0 0) := (blk_cell BX.out.b3 4).trans rfl
   have s10 : v5.cell? ⟨g3, 10, none⟩ = some (.int .i64 0) := (blk_cell BX.out.b3 10).trans rfl
   have f1 := blk_frozen BX.out.b3 1
   have f2 := blk_frozen BX.out.b3 2
   have f3 := blk_frozen BX.out.b3 3
   have f4 := blk_frozen BX.out.b3 4
   have f10 := blk_frozen BX.out.b3 10
   refine on_ 18 none (upT 19 2) HT_ (fun K hK => ?_)
   refine sk_ ?_
   refine hK.out _ _ (((((BX.out.put3 1 _ rfl).put3 2 _ rfl).put3 3 _ rfl).put3 4 _ rfl).b1.trans B1.out.symm) (fun hH => ?_)
   clear hK K
   refine pq_ 19 158 (upT 20 1) HT_ ?_
   refine on_ 20 none (upT 21 0) HT_ (fun K hK => ?_)
   refine sk_ ?_
   refine hK.out _ _ ((((((BX.out.put3 1 _ rfl).put3 2 _ rfl).put3 3 _ rfl).put3 4 _ rfl).put3 10 _ rfl).b1.trans B1.out.symm) (fun hH => ?_)
   clear hK K
   refine done_ (done_of HT_.out (by kernel_rfl)) ?_
   try go_wp2
   go_meet
   case rel => exact (((((BX.out.put3 1 _ rfl).put3 2 _ rfl).put3 3 _ rfl).put3 4 _ rfl).put3 10 _ rfl)
  rw [if_neg c11] at H
  have b11 : (a0_0 == 11) = false := beq_eq_false_iff_ne.mpr c11
  clear c11
  by_cases c12 : a0_0 = 12
  ·
   rw [if_pos c12] at H
   have b12 : (a0_0 == 12) = true := beq_iff_eq.mpr c12
   clear c12
   simp only [Option.bind_eq_some_iff] at H
   obtain ⟨z1, A1, ⟨x1, x2⟩, A2, H⟩ := H
   replace A1 := Aside0.mk A1
   replace A2 := Aside0.mk A2
   simp only [Option.some.injEq, Prod.mk.injEq] at H
   obtain ⟨rfl, rfl, rfl, rfl, rfl, rfl, rfl, rfl, rfl, rfl, rfl⟩ := H
   have k1 : w3.cell? ⟨g1, 1, none⟩ = some (.float .f64 a0_1) := (blk_cell BX.out.b1 1).trans rfl
   have k2 : w3.cell? ⟨g1, 2, none⟩ = some (.float .f64 a0_2) := (blk_cell BX.out.b1 2).trans rfl
   go_wp2_with (first | ((with_reducible refine gate_callee (f := 10) rfl ?_); refine gL_ (some 164) Tryz.func10 #[.agg #[.float .f64 a0_1, .float .f64 a0_2]] ?_; (with_reducible refine (pylonlaw02_Z_c.calls a0_1 a0_2 z1 _ A1.out).mono ?_); rintro e v1 ⟨rfl, hb⟩; refine ⟨_, rfl, ?_⟩; replace BX := Aside0.mk (BX.out.below hb); clear hb) | ((with_reducible refine gate_callee (f := 21) rfl ?_); refine gL_ (some 165) Tryz.func21 #[.complex .f64 z1.re z1.im] ?_; (with_reducible refine (phasor_Text.calls z1 x1 x2 _ ?side12_1_1 A2.out).mono ?_); (case side12_1_1 => exact Go.Proofs.YtofedlghaopciaaGreatDoor.Hand.GW.on HTB.out BX.out.hb); rintro e v2 ⟨rfl, hb⟩; refine ⟨_, rfl, ?_⟩; replace BX := Aside0.mk (BX.out.below hb); clear hb; have s9 : v2.cell? ⟨g3, 9, none⟩ = some (.string (⟨#[]⟩ : ByteArray)) := (blk_cell BX.out.b3 9).trans rfl; have s10 : v2.cell? ⟨g3, 10, none⟩ = some (.int .i64 0) := (blk_cell BX.out.b3 10).trans rfl; have f9 := blk_frozen BX.out.b3 9; have f10 := blk_frozen BX.out.b3 10))
   go_meet
   case rel => exact ((BX.out.put3 9 _ rfl).put3 10 _ rfl)
  rw [if_neg c12] at H
  have b12 : (a0_0 == 12) = false := beq_eq_false_iff_ne.mpr c12
  clear c12
  by_cases c13 : a0_0 = 13
  ·
   rw [if_pos c13] at H
   have b13 : (a0_0 == 13) = true := beq_iff_eq.mpr c13
   clear c13
   simp only [Option.bind_eq_some_iff] at H
   obtain ⟨⟨x1, x2⟩, A1, H⟩ := H
   replace A1 := Aside0.mk A1
   simp only [Option.some.injEq, Prod.mk.injEq] at H
   obtain ⟨rfl, rfl, rfl, rfl, rfl, rfl, rfl, rfl, rfl, rfl, rfl⟩ := H
   have k14 : w3.cell? ⟨g1, 14, none⟩ = some (.string a0_14) := (blk_cell BX.out.b1 14).trans rfl
   go_wp2_with (first | ((with_reducible refine gate_callee (f := 22) rfl ?_); refine gL_ (some 175) Tryz.func22 #[.string a0_14] ?_; (with_reducible refine (phasor_Read.calls k a0_14 x1 x2 _ ?side13_0_1 A1.out).mono ?_); (case side13_0_1 => exact Go.Proofs.YtofedlghaopciaaGreatDoor.Hand.GW.on HTB.out BX.out.hb); rintro e v1 ⟨rfl, hb⟩; refine ⟨_, rfl, ?_⟩; replace BX := Aside0.mk (BX.out.below hb); clear hb; have s0 : v1.cell? ⟨g3, 0, none⟩ = some (.complex .f64 0 0) := (blk_cell BX.out.b3 0).trans rfl; have s10 : v1.cell? ⟨g3, 10, none⟩ = some (.int .i64 0) := (blk_cell BX.out.b3 10).trans rfl; have f0 := blk_frozen BX.out.b3 0; have f10 := blk_frozen BX.out.b3 10))
   go_meet
   case rel => exact ((BX.out.put3 0 _ rfl).put3 10 _ rfl)
  rw [if_neg c13] at H
  have b13 : (a0_0 == 13) = false := beq_eq_false_iff_ne.mpr c13
  clear c13
  simp only [Option.some.injEq, Prod.mk.injEq] at H
  obtain ⟨rfl, rfl, rfl, rfl, rfl, rfl, rfl, rfl, rfl, rfl, rfl⟩ := H
  go_wp2
  go_meet
  case rel => exact BX.out
 case rest =>
  clear H k0 BX
  have BX := Aside0.mk hcut
  clear hcut
  have s0 : wc.cell? ⟨g3, 0, none⟩ = some (.complex .f64 r1.re r1.im) := (blk_cell BX.out.b3 0).trans rfl
  have s1 : wc.cell? ⟨g3, 1, none⟩ = some (.complex .f64 r2.re r2.im) := (blk_cell BX.out.b3 1).trans rfl
  have s2 : wc.cell? ⟨g3, 2, none⟩ = some (.complex .f64 r3.re r3.im) := (blk_cell BX.out.b3 2).trans rfl
  have s3 : wc.cell? ⟨g3, 3, none⟩ = some (.complex .f64 r4.re r4.im) := (blk_cell BX.out.b3 3).trans rfl
  have s4 : wc.cell? ⟨g3, 4, none⟩ = some (.complex .f64 r5.re r5.im) := (blk_cell BX.out.b3 4).trans rfl
  have s5 : wc.cell? ⟨g3, 5, none⟩ = some (.int .i64 r6) := (blk_cell BX.out.b3 5).trans rfl
  have s6 : wc.cell? ⟨g3, 6, none⟩ = some (.int .i64 r7) := (blk_cell BX.out.b3 6).trans rfl
  have s7 : wc.cell? ⟨g3, 7, none⟩ = some (.int .i64 r8) := (blk_cell BX.out.b3 7).trans rfl
  have s8 : wc.cell? ⟨g3, 8, none⟩ = some (.bool r9) := (blk_cell BX.out.b3 8).trans rfl
  have s9 : wc.cell? ⟨g3, 9, none⟩ = some (.string r10) := (blk_cell BX.out.b3 9).trans rfl
  have s10 : wc.cell? ⟨g3, 10, none⟩ = some (.int .i64 r11) := (blk_cell BX.out.b3 10).trans rfl
  have t0 : wc.cell? ⟨g2, 0, none⟩ = some (.complex .f64 0 0) := (blk_cell BX.out.b2 0).trans rfl
  have t1 : wc.cell? ⟨g2, 1, none⟩ = some (.complex .f64 0 0) := (blk_cell BX.out.b2 1).trans rfl
  have t2 : wc.cell? ⟨g2, 2, none⟩ = some (.complex .f64 0 0) := (blk_cell BX.out.b2 2).trans rfl
  have t3 : wc.cell? ⟨g2, 3, none⟩ = some (.complex .f64 0 0) := (blk_cell BX.out.b2 3).trans rfl
  have t4 : wc.cell? ⟨g2, 4, none⟩ = some (.complex .f64 0 0) := (blk_cell BX.out.b2 4).trans rfl
  have t5 : wc.cell? ⟨g2, 5, none⟩ = some (.int .i64 0) := (blk_cell BX.out.b2 5).trans rfl
  have t6 : wc.cell? ⟨g2, 6, none⟩ = some (.int .i64 0) := (blk_cell BX.out.b2 6).trans rfl
  have t7 : wc.cell? ⟨g2, 7, none⟩ = some (.int .i64 0) := (blk_cell BX.out.b2 7).trans rfl
  have t8 : wc.cell? ⟨g2, 8, none⟩ = some (.bool false) := (blk_cell BX.out.b2 8).trans rfl
  have t9 : wc.cell? ⟨g2, 9, none⟩ = some (.string (⟨#[]⟩ : ByteArray)) := (blk_cell BX.out.b2 9).trans rfl
  have t10 : wc.cell? ⟨g2, 10, none⟩ = some (.int .i64 0) := (blk_cell BX.out.b2 10).trans rfl
  have f0 := blk_frozen BX.out.b2 0
  have f1 := blk_frozen BX.out.b2 1
  have f2 := blk_frozen BX.out.b2 2
  have f3 := blk_frozen BX.out.b2 3
  have f4 := blk_frozen BX.out.b2 4
  have f5 := blk_frozen BX.out.b2 5
  have f6 := blk_frozen BX.out.b2 6
  have f7 := blk_frozen BX.out.b2 7
  have f8 := blk_frozen BX.out.b2 8
  have f9 := blk_frozen BX.out.b2 9
  have f10 := blk_frozen BX.out.b2 10
  go_wp2
  refine bodyPost_ret (results_cell_row rfl _ _ g2 29 #[.complex .f64 r1.re r1.im, .complex .f64 r2.re r2.im, .complex .f64 r3.re r3.im, .complex .f64 r4.re r4.im, .complex .f64 r5.re r5.im, .int .i64 r6, .int .i64 r7, .int .i64 r8, .bool r9, .string r10, .int .i64 r11] (0, 0) _ rfl BX.out.fill.b2 Tryz.underlying29 rfl (by kernel_rfl)) rfl ?_
  exact ⟨rfl, BX.out.fill.hb⟩
end Go.Proofs.YtofedlghaopciaaGreatDoor.PA
