/- The walk of pylonlaw02_wants over its three boxes; written by wip/genP.py. -/
import Derived.Test.YtofedlghaopciaaGreatDoorPk5
namespace Go.Proofs.YtofedlghaopciaaGreatDoor.PA
open Go.Proofs.YtofedlghaopciaaGreatDoorW.PrintWords
attribute [local go_sem high] fx_eql fx_neq fx_lss fx_leq fx_gtr fx_geq fx_add fx_sub fx_mul fx_neg fx_toint cxx_add cxx_sub cxx_mul cxx_eql cxx_neq cxx_pick st_float st_complex
open Go.RowKit Go.Proofs.YtofedlghaopciaaGreatDoorW.PrintWords Go.Proofs.YtofedlghaopciaaGreatDoorW.PrintLast Go.Proofs.YtofedlghaopciaaGreatDoorW.PrintMore
attribute [local go_sem] max2_int min2_int max_two min_two max_three min_three max_four min_four
set_option linter.unusedVariables false
set_option linter.unusedSimpArgs false
theorem pylonlaw02_wants.mono : ∀ a0 a1 a2 a3 a4 a5 a6 a7 a8 a9 a10 a11 a12 a13 a14 k, LeO (pylonlaw02_wants.f k a0 a1 a2 a3 a4 a5 a6 a7 a8 a9 a10 a11 a12 a13 a14) (pylonlaw02_wants.f (k + 1) a0 a1 a2 a3 a4 a5 a6 a7 a8 a9 a10 a11 a12 a13 a14) := by
 intro a0 a1 a2 a3 a4 a5 a6 a7 a8 a9 a10 a11 a12 a13 a14 k
 unfold pylonlaw02_wants.f
 repeat' first
   | (with_reducible exact pylonlaw02_numbers.mono _ _)
   | (with_reducible exact pylonref02_Apparent.mono _ _)
   | (with_reducible exact pylonref02_Aron.mono _ _ _ _ _)
   | (with_reducible exact pylonref02_Phases.mono _ _ _)
   | (with_reducible exact pylonref02_Power.mono _ _ _)
   | (with_reducible exact pylonref02_Quadrant.mono _ _)
   | (with_reducible exact pylonref02_Read.mono _ _)
   | (with_reducible exact pylonref02_Text.mono _ _)
   | (with_reducible exact LeO.refl _)
   | (with_reducible exact LeO.none _)
   | (with_reducible refine LeO.ite ?_ ?_)
   | (with_reducible refine LeO.bind ?_ (fun _ => ?_))
   | exact pylonlaw02_numbers.mono _ _
   | exact pylonref02_Apparent.mono _ _
   | exact pylonref02_Aron.mono _ _ _ _ _
   | exact pylonref02_Phases.mono _ _ _
   | exact pylonref02_Power.mono _ _ _
   | exact pylonref02_Quadrant.mono _ _
   | exact pylonref02_Read.mono _ _
   | exact pylonref02_Text.mono _ _
   | exact LeO.none _
   | refine LeO.ite ?_ ?_
   | refine LeO.bind ?_ (fun _ => ?_)
def pylonlaw02_wants.T10 : Bool × List (List Nat × List Nat) := (true, [([], []), ([0], [0]), ([], []), ([2], [2]), ([0, 1], []), ([4, 1, 0, 1], [1, 4]), ([0, 1, 2, 3, 4, 5], []), ([6, 3, 5, 0, 1, 2, 3, 4, 5], [3, 6])])
def pylonlaw02_wants.B10 : List Nat := [0, 1, 0, 4, 3, 19, 63, 127]
theorem pylonlaw02_wants.tab10 : rtab .any (opsOf Tryz.f7 10) = pylonlaw02_wants.T10 := by kernel_rfl
theorem pylonlaw02_wants.bits10 : waitsOk pylonlaw02_wants.T10.2 pylonlaw02_wants.B10 = true := by kernel_rfl
def pylonlaw02_wants.T13 : Bool × List (List Nat × List Nat) := (true, [([], []), ([0], [0]), ([1], [1]), ([], []), ([3], [3]), ([4, 2], [4]), ([2, 5, 5], [2, 5]), ([6], [6]), ([7], [7]), ([7], [7]), ([0, 1, 2, 3, 4, 5, 6, 7, 8], []), ([10, 8, 6, 0, 1, 2, 3, 4, 5, 6, 7, 8], [8, 10]), ([0, 1, 2, 3, 4, 5, 6, 7, 8, 9, 10, 11], []), ([12, 9, 11, 0, 1, 2, 3, 4, 5, 6, 7, 8, 9, 10, 11], [9, 12])])
def pylonlaw02_wants.B13 : List Nat := [0, 1, 3, 0, 8, 31, 63, 127, 255, 255, 511, 1535, 4095, 8191]
theorem pylonlaw02_wants.tab13 : rtab .any (opsOf Tryz.f7 13) = pylonlaw02_wants.T13 := by kernel_rfl
theorem pylonlaw02_wants.bits13 : waitsOk pylonlaw02_wants.T13.2 pylonlaw02_wants.B13 = true := by kernel_rfl
def pylonlaw02_wants.T15 : Bool × List (List Nat × List Nat) := (true, [([], []), ([0], [0]), ([1], [1]), ([], []), ([3], [3]), ([4, 2], [4]), ([2, 5, 5], [2, 5]), ([6], [6]), ([7], [7]), ([7], [7]), ([0, 1, 2, 3, 4, 5, 6, 7, 8], []), ([10, 8, 6, 0, 1, 2, 3, 4, 5, 6, 7, 8], [8, 10]), ([0, 1, 2, 3, 4, 5, 6, 7, 8, 9, 10, 11], []), ([12, 9, 11, 0, 1, 2, 3, 4, 5, 6, 7, 8, 9, 10, 11], [9, 12])])
def pylonlaw02_wants.B15 : List Nat := [0, 1, 3, 0, 8, 31, 63, 127, 255, 255, 511, 1535, 4095, 8191]
theorem pylonlaw02_wants.tab15 : rtab .any (opsOf Tryz.f7 15) = pylonlaw02_wants.T15 := by kernel_rfl
theorem pylonlaw02_wants.bits15 : waitsOk pylonlaw02_wants.T15.2 pylonlaw02_wants.B15 = true := by kernel_rfl
def pylonlaw02_wants.T17 : Bool × List (List Nat × List Nat) := (true, [([], []), ([0], [0]), ([1], [1]), ([], []), ([3], [3]), ([4, 2], [4]), ([], []), ([6], [6]), ([7, 5], [7]), ([], []), ([9], [9]), ([10, 8], [10]), ([2, 5, 8, 11, 11], [2, 5, 8, 11]), ([12], [12]), ([13], [13]), ([13], [13]), ([0, 1, 2, 3, 4, 5, 6, 7, 8, 9, 10, 11, 12, 13, 14], []), ([16, 14, 12, 0, 1, 2, 3, 4, 5, 6, 7, 8, 9, 10, 11, 12, 13, 14], [14, 16]), ([0, 1, 2, 3, 4, 5, 6, 7, 8, 9, 10, 11, 12, 13, 14, 15, 16, 17], []), ([18, 15, 17, 0, 1, 2, 3, 4, 5, 6, 7, 8, 9, 10, 11, 12, 13, 14, 15, 16, 17], [15, 18])])
def pylonlaw02_wants.B17 : List Nat := [0, 1, 3, 0, 8, 31, 0, 64, 255, 0, 512, 2047, 4095, 8191, 16383, 16383, 32767, 98303, 262143, 524287]
theorem pylonlaw02_wants.tab17 : rtab .any (opsOf Tryz.f7 17) = pylonlaw02_wants.T17 := by kernel_rfl
theorem pylonlaw02_wants.bits17 : waitsOk pylonlaw02_wants.T17.2 pylonlaw02_wants.B17 = true := by kernel_rfl
def pylonlaw02_wants.T19 : Bool × List (List Nat × List Nat) := (true, [([], []), ([0], [0]), ([1], [1]), ([], []), ([3], [3]), ([2, 4, 2], [2, 4]), ([5], [5]), ([6], [6]), ([6], [6]), ([0, 1, 2, 3, 4, 5, 6, 7], []), ([9, 7, 5, 0, 1, 2, 3, 4, 5, 6, 7], [7, 9]), ([0, 1, 2, 3, 4, 5, 6, 7, 8, 9, 10], []), ([11, 8, 10, 0, 1, 2, 3, 4, 5, 6, 7, 8, 9, 10], [8, 11])])
def pylonlaw02_wants.B19 : List Nat := [0, 1, 3, 0, 8, 31, 63, 127, 127, 255, 767, 2047, 4095]
theorem pylonlaw02_wants.tab19 : rtab .any (opsOf Tryz.f7 19) = pylonlaw02_wants.T19 := by kernel_rfl
theorem pylonlaw02_wants.bits19 : waitsOk pylonlaw02_wants.T19.2 pylonlaw02_wants.B19 = true := by kernel_rfl
def pylonlaw02_wants.T25 : Bool × List (List Nat × List Nat) := (true, [([], []), ([0], [0]), ([1], [1]), ([], []), ([3], [3]), ([4, 2], [4]), ([], []), ([6], [6]), ([7, 5], [7]), ([], []), ([9], [9]), ([10, 8], [10]), ([2, 5, 8, 11], [2, 5, 8, 11]), ([12, 11], [12]), ([13], [13]), ([14], [14]), ([14], [14]), ([0, 1, 2, 3, 4, 5, 6, 7, 8, 9, 10, 11, 12, 13, 14, 15], []), ([17, 15, 13, 0, 1, 2, 3, 4, 5, 6, 7, 8, 9, 10, 11, 12, 13, 14, 15], [15, 17]), ([0, 1, 2, 3, 4, 5, 6, 7, 8, 9, 10, 11, 12, 13, 14, 15, 16, 17, 18], []), ([19, 16, 18, 0, 1, 2, 3, 4, 5, 6, 7, 8, 9, 10, 11, 12, 13, 14, 15, 16, 17, 18], [16, 19])])
def pylonlaw02_wants.B25 : List Nat := [0, 1, 3, 0, 8, 31, 0, 64, 255, 0, 512, 2047, 4095, 8191, 16383, 32767, 32767, 65535, 196607, 524287, 1048575]
theorem pylonlaw02_wants.tab25 : rtab .any (opsOf Tryz.f7 25) = pylonlaw02_wants.T25 := by kernel_rfl
theorem pylonlaw02_wants.bits25 : waitsOk pylonlaw02_wants.T25.2 pylonlaw02_wants.B25 = true := by kernel_rfl
def pylonlaw02_wants.T27 : Bool × List (List Nat × List Nat) := (true, [([], []), ([0], [0]), ([1], [1]), ([], []), ([3], [3]), ([4, 2], [4]), ([], []), ([6], [6]), ([7, 5], [7]), ([], []), ([9], [9]), ([10, 8], [10]), ([2, 5, 8, 11], [2, 5, 8, 11]), ([12, 11], [12]), ([13], [13]), ([14], [14]), ([14], [14]), ([0, 1, 2, 3, 4, 5, 6, 7, 8, 9, 10, 11, 12, 13, 14, 15], []), ([17, 15, 13, 0, 1, 2, 3, 4, 5, 6, 7, 8, 9, 10, 11, 12, 13, 14, 15], [15, 17]), ([0, 1, 2, 3, 4, 5, 6, 7, 8, 9, 10, 11, 12, 13, 14, 15, 16, 17, 18], []), ([19, 16, 18, 0, 1, 2, 3, 4, 5, 6, 7, 8, 9, 10, 11, 12, 13, 14, 15, 16, 17, 18], [16, 19])])
def pylonlaw02_wants.B27 : List Nat := [0, 1, 3, 0, 8, 31, 0, 64, 255, 0, 512, 2047, 4095, 8191, 16383, 32767, 32767, 65535, 196607, 524287, 1048575]
theorem pylonlaw02_wants.tab27 : rtab .any (opsOf Tryz.f7 27) = pylonlaw02_wants.T27 := by kernel_rfl
theorem pylonlaw02_wants.bits27 : waitsOk pylonlaw02_wants.T27.2 pylonlaw02_wants.B27 = true := by kernel_rfl
set_option maxHeartbeats 8000000 in
set_option maxRecDepth 100000 in
theorem pylonlaw02_wants.calls (k : Nat) (a0_0 : Int) (a0_1 : Nat) (a0_2 : Nat) (a0_3 : Nat) (a0_4 : Nat) (a0_5 : Nat) (a0_6 : Nat) (a0_7 : Nat) (a0_8 : Nat) (A0_9 : Option Addr) (c0_9 : Nat) (l0_9 : List (S33)) (A0_10 : Option Addr) (c0_10 : Nat) (l0_10 : List (S33)) (a0_11 : Int) (a0_12 : Int) (a0_13 : Int) (a0_14 : ByteArray) (r1 : Cx) (r2 : Cx) (r3 : Cx) (r4 : Cx) (r5 : Cx) (r6 : Int) (r7 : Int) (r8 : Int) (r9 : Bool) (r10 : ByteArray) (r11 : Int) (w : World) (hT_ : Go.Proofs.YtofedlghaopciaaGreatDoor.Hand.T3 w) (hr0_9 : Kd.C k33 w A0_9 l0_9.length l0_9) (hc0_9 : l0_9.length ≤ c0_9) (hr0_10 : Kd.C k33 w A0_10 l0_10.length l0_10) (hc0_10 : l0_10.length ≤ c0_10) (h : pylonlaw02_wants.f k a0_0 a0_1 a0_2 a0_3 a0_4 a0_5 a0_6 a0_7 a0_8 l0_9 l0_10 a0_11 a0_12 a0_13 a0_14 = some (r1, r2, r3, r4, r5, r6, r7, r8, r9, r10, r11)) :
  Calls Tryz.prog 7 #[.agg #[.int .i64 a0_0, .float .f64 a0_1, .float .f64 a0_2, .float .f64 a0_3, .float .f64 a0_4, .float .f64 a0_5, .float .f64 a0_6, .float .f64 a0_7, .float .f64 a0_8, .slice A0_9 l0_9.length c0_9, .slice A0_10 l0_10.length c0_10, .int .i64 a0_11, .int .i64 a0_12, .int .i64 a0_13, .string a0_14]] w fun e w' => e = .returned (.agg #[.complex .f64 r1.re r1.im, .complex .f64 r2.re r2.im, .complex .f64 r3.re r3.im, .complex .f64 r4.re r4.im, .complex .f64 r5.re r5.im, .int .i64 r6, .int .i64 r7, .int .i64 r8, .bool r9, .string r10, .int .i64 r11]) ∧ Below w.heap.size w w' := by
 have hu36 := Tryz.underlying36
 have hu29 := Tryz.underlying29
 have hu33 := Tryz.underlying33
 have hu59 := Tryz.underlying59
 have hu26 := Tryz.underlying26
 have HTB := Aside0.mk hT_
 clear hT_
 have HR0_9 := Aside0.mk hr0_9
 have HC0_9 := Aside0.mk hc0_9
 clear hr0_9 hc0_9
 have HR0_10 := Aside0.mk hr0_10
 have HC0_10 := Aside0.mk hc0_10
 clear hr0_10 hc0_10
 have HB := Aside0.mk (Below.refl w.heap.size w)
 have H : (if a0_0 = 1 then ((pylonlaw02_Z_c.f a0_1 a0_2).bind fun t396 => ((pylonref02_Fits.f t396).bind fun bt397 => (some (cx 0 0, cx 0 0, cx 0 0, cx 0 0, cx 0 0, 0, 0, 0, bt397.2.2, (⟨#[]⟩ : ByteArray), 0)))) else (if a0_0 = 2 then ((pylonref02_Of.f a0_11 a0_12).bind fun bt400 => (some (bt400.1, cx 0 0, cx 0 0, cx 0 0, cx 0 0, 0, 0, 0, false, (⟨#[]⟩ : ByteArray), bt400.2))) else (if a0_0 = 3 then ((pylonlaw02_Z_c.f a0_1 a0_2).bind fun t402 => ((pylonref02_Fits.f t402).bind fun bt403 => (if bt403.2.2 = true then (some (cx 0 0, cx 0 0, cx 0 0, cx 0 0, cx 0 0, bt403.1, bt403.2.1, 0, false, (⟨#[]⟩ : ByteArray), 0)) else (some (cx 0 0, cx 0 0, cx 0 0, cx 0 0, cx 0 0, 0, 0, 0, false, (⟨#[]⟩ : ByteArray), 5))))) else (if a0_0 = 4 then ((pylonlaw02_Z_c.f a0_1 a0_2).bind fun t407 => ((pylonlaw02_Z_c.f a0_3 a0_4).bind fun t408 => ((pylonref02_Power.f k t407 t408).bind fun bt409 => (some (bt409.1, cx 0 0, cx 0 0, cx 0 0, cx 0 0, 0, 0, 0, false, (⟨#[]⟩ : ByteArray), bt409.2))))) else (if a0_0 = 5 then ((pylonlaw02_numbers.f k l0_9).bind fun t411 => ((pylonlaw02_numbers.f k l0_10).bind fun t414 => ((pylonref02_Phases.f k t411 t414).bind fun bt417 => (some (bt417.1, cx 0 0, cx 0 0, cx 0 0, cx 0 0, 0, 0, 0, false, (⟨#[]⟩ : ByteArray), bt417.2))))) else (if a0_0 = 6 then ((pylonlaw02_Z_c.f a0_1 a0_2).bind fun t419 => ((pylonlaw02_Z_c.f a0_3 a0_4).bind fun t420 => ((pylonlaw02_Z_c.f a0_5 a0_6).bind fun t421 => ((pylonlaw02_Z_c.f a0_7 a0_8).bind fun t422 => ((pylonref02_Aron.f k t419 t420 t421 t422).bind fun bt423 => (some (bt423.1, cx 0 0, cx 0 0, cx 0 0, cx 0 0, 0, 0, 0, false, (⟨#[]⟩ : ByteArray), bt423.2))))))) else (if a0_0 = 7 then ((pylonlaw02_Z_c.f a0_1 a0_2).bind fun t425 => ((pylonref02_Turn.f t425 a0_13).bind fun bt426 => (some (bt426.1, cx 0 0, cx 0 0, cx 0 0, cx 0 0, 0, 0, 0, false, (⟨#[]⟩ : ByteArray), bt426.2)))) else (if a0_0 = 8 then ((pylonlaw02_Z_c.f a0_1 a0_2).bind fun t428 => ((pylonref02_Quadrant.f k t428).bind fun t429 => (some (cx 0 0, cx 0 0, cx 0 0, cx 0 0, cx 0 0, 0, 0, t429, false, (⟨#[]⟩ : ByteArray), 0)))) else (if a0_0 = 9 then ((pylonlaw02_Z_c.f a0_1 a0_2).bind fun t430 => ((pylonref02_Apparent.f k t430).bind fun bt431 => (some (cx 0 0, cx 0 0, cx 0 0, cx 0 0, cx 0 0, bt431.1, 0, 0, false, (⟨#[]⟩ : ByteArray), bt431.2)))) else (if a0_0 = 10 then ((pylonlaw02_Z_c.f a0_1 a0_2).bind fun t433 => ((pylonlaw02_Z_c.f a0_3 a0_4).bind fun t434 => ((pylonlaw02_Z_c.f a0_5 a0_6).bind fun t435 => ((pylonlaw02_Z_c.f a0_7 a0_8).bind fun t436 => ((pylonref02_Four.f t433 t434 t435 t436).bind fun bt437 => (some (cx 0 0, bt437.1, bt437.2.1, bt437.2.2.1, bt437.2.2.2.1, 0, 0, 0, false, (⟨#[]⟩ : ByteArray), bt437.2.2.2.2))))))) else (if a0_0 = 11 then ((pylonlaw02_Z_c.f a0_1 a0_2).bind fun t442 => ((pylonlaw02_Z_c.f a0_3 a0_4).bind fun t443 => ((pylonlaw02_Z_c.f a0_5 a0_6).bind fun t444 => ((pylonlaw02_Z_c.f a0_7 a0_8).bind fun t445 => ((pylonref02_Back.f t442 t443 t444 t445).bind fun bt446 => (some (cx 0 0, bt446.1, bt446.2.1, bt446.2.2.1, bt446.2.2.2.1, 0, 0, 0, false, (⟨#[]⟩ : ByteArray), bt446.2.2.2.2))))))) else (if a0_0 = 12 then ((pylonlaw02_Z_c.f a0_1 a0_2).bind fun t451 => ((pylonref02_Text.f k t451).bind fun bt452 => (some (cx 0 0, cx 0 0, cx 0 0, cx 0 0, cx 0 0, 0, 0, 0, false, bt452.1, bt452.2)))) else (if a0_0 = 13 then ((pylonref02_Read.f k a0_14).bind fun bt454 => (some (bt454.1, cx 0 0, cx 0 0, cx 0 0, cx 0 0, 0, 0, 0, false, (⟨#[]⟩ : ByteArray), bt454.2))) else (some (cx 0 0, cx 0 0, cx 0 0, cx 0 0, cx 0 0, 0, 0, 0, false, (⟨#[]⟩ : ByteArray), 0))))))))))))))) = some (r1, r2, r3, r4, r5, r6, r7, r8, r9, r10, r11) := h
 clear h
 go_enter Tryz.func7, Tryz.ntmps7
 go_upto_block 0 with (first | ((with_reducible refine gate_dst (N := 1) rfl ?_); refine box_event ?hg (N := 1) ?hd (cs := #[.int .i64 a0_0, .float .f64 a0_1, .float .f64 a0_2, .float .f64 a0_3, .float .f64 a0_4, .float .f64 a0_5, .float .f64 a0_6, .float .f64 a0_7, .float .f64 a0_8, .slice A0_9 l0_9.length c0_9, .slice A0_10 l0_10.length c0_10, .int .i64 a0_11, .int .i64 a0_12, .int .i64 a0_13, .string a0_14]) (t := 36) ?hr ?_; (case hd => rfl); (case hg => rfl); (case hr => first | (go_simp; done) | (go_simp; rfl)); intro g1 hg w1 hbox hb; have K1 := Aside0.mk hbox; have S1 := Aside0.mk hg; have B1 := Aside0.mk hb; clear hb hbox hg) | ((with_reducible refine gate_dst (N := 2) rfl ?_); refine box_event ?hg (N := 2) ?hd (cs := #[.complex .f64 0 0, .complex .f64 0 0, .complex .f64 0 0, .complex .f64 0 0, .complex .f64 0 0, .int .i64 0, .int .i64 0, .int .i64 0, .bool false, .string (⟨#[]⟩ : ByteArray), .int .i64 0]) (t := 29) ?hr ?_; (case hd => rfl); (case hg => rfl); (case hr => first | (go_simp; done) | (go_simp; rfl)); intro g2 hg w2 hbox hb; have K2 := Aside0.mk hbox; have S2 := Aside0.mk hg; have B2 := Aside0.mk hb; clear hb hbox hg) | ((with_reducible refine gate_dst (N := 3) rfl ?_); refine box_event ?hg (N := 3) ?hd (cs := #[.complex .f64 0 0, .complex .f64 0 0, .complex .f64 0 0, .complex .f64 0 0, .complex .f64 0 0, .int .i64 0, .int .i64 0, .int .i64 0, .bool false, .string (⟨#[]⟩ : ByteArray), .int .i64 0]) (t := 29) ?hr ?_; (case hd => rfl); (case hg => rfl); (case hr => first | (go_simp; done) | (go_simp; rfl)); intro g3 hg w3 hbox hb; have BX := Aside0.mk (Bx.made HB.out K1.out S1.out B1.out K2.out S2.out B2.out hbox hg hb); clear hb hbox hg K1 S1 B1 K2 S2 B2; have k0 : w3.cell? ⟨g1, 0, none⟩ = some (.int .i64 a0_0) := (blk_cell BX.out.b1 0).trans rfl))
 go_cut [] (fun wc => Bx w g1 g2 g3 #[.int .i64 a0_0, .float .f64 a0_1, .float .f64 a0_2, .float .f64 a0_3, .float .f64 a0_4, .float .f64 a0_5, .float .f64 a0_6, .float .f64 a0_7, .float .f64 a0_8, .slice A0_9 l0_9.length c0_9, .slice A0_10 l0_10.length c0_10, .int .i64 a0_11, .int .i64 a0_12, .int .i64 a0_13, .string a0_14] #[.complex .f64 0 0, .complex .f64 0 0, .complex .f64 0 0, .complex .f64 0 0, .complex .f64 0 0, .int .i64 0, .int .i64 0, .int .i64 0, .bool false, .string (⟨#[]⟩ : ByteArray), .int .i64 0] #[.complex .f64 r1.re r1.im, .complex .f64 r2.re r2.im, .complex .f64 r3.re r3.im, .complex .f64 r4.re r4.im, .complex .f64 r5.re r5.im, .int .i64 r6, .int .i64 r7, .int .i64 r8, .bool r9, .string r10, .int .i64 r11] wc)
 case first =>
  by_cases c1 : a0_0 = 1
  ·
   rw [if_pos c1] at H
   have b1 : (a0_0 == 1) = true := beq_iff_eq.mpr c1
   clear c1
   simp only [Option.bind_eq_some_iff] at H
   obtain ⟨z1, A1, ⟨x1, x2, x3⟩, A2, H⟩ := H
   replace A1 := Aside0.mk A1
   replace A2 := Aside0.mk A2
   simp only [Option.some.injEq, Prod.mk.injEq] at H
   obtain ⟨rfl, rfl, rfl, rfl, rfl, rfl, rfl, rfl, rfl, rfl, rfl⟩ := H
   have k1 : w3.cell? ⟨g1, 1, none⟩ = some (.float .f64 a0_1) := (blk_cell BX.out.b1 1).trans rfl
   have k2 : w3.cell? ⟨g1, 2, none⟩ = some (.float .f64 a0_2) := (blk_cell BX.out.b1 2).trans rfl
   go_wp2_with (first | ((with_reducible refine gate_callee (f := 10) rfl ?_); refine gL_ (some 13) Tryz.func10 #[.agg #[.float .f64 a0_1, .float .f64 a0_2]] ?_; (with_reducible refine (pylonlaw02_Z_c.calls a0_1 a0_2 z1 _ A1.out).mono ?_); rintro e v1 ⟨rfl, hb⟩; refine ⟨_, rfl, ?_⟩; replace BX := Aside0.mk (BX.out.below hb); clear hb) | ((with_reducible refine gate_callee (f := 23) rfl ?_); refine gL_ (some 14) Tryz.func23 #[.complex .f64 z1.re z1.im] ?_; (with_reducible refine (pylonref02_Fits.calls z1 x1 x2 x3 _ A2.out).mono ?_); rintro e v2 ⟨rfl, hb⟩; refine ⟨_, rfl, ?_⟩; replace BX := Aside0.mk (BX.out.below hb); clear hb; have s8 : v2.cell? ⟨g3, 8, none⟩ = some (.bool false) := (blk_cell BX.out.b3 8).trans rfl; have f8 := blk_frozen BX.out.b3 8))
   go_meet
   case rel => exact (BX.out.put3 8 _ rfl)
  rw [if_neg c1] at H
  have b1 : (a0_0 == 1) = false := beq_eq_false_iff_ne.mpr c1
  clear c1
  by_cases c2 : a0_0 = 2
  ·
   rw [if_pos c2] at H
   have b2 : (a0_0 == 2) = true := beq_iff_eq.mpr c2
   clear c2
   simp only [Option.bind_eq_some_iff] at H
   obtain ⟨⟨x1, x2⟩, A1, H⟩ := H
   replace A1 := Aside0.mk A1
   simp only [Option.some.injEq, Prod.mk.injEq] at H
   obtain ⟨rfl, rfl, rfl, rfl, rfl, rfl, rfl, rfl, rfl, rfl, rfl⟩ := H
   have k11 : w3.cell? ⟨g1, 11, none⟩ = some (.int .i64 a0_11) := (blk_cell BX.out.b1 11).trans rfl
   have k12 : w3.cell? ⟨g1, 12, none⟩ = some (.int .i64 a0_12) := (blk_cell BX.out.b1 12).trans rfl
   go_wp2_with (first | ((with_reducible refine gate_callee (f := 24) rfl ?_); refine gL_ (some 25) Tryz.func24 #[.int .i64 a0_11, .int .i64 a0_12] ?_; (with_reducible refine (pylonref02_Of.calls a0_11 a0_12 x1 x2 _ A1.out).mono ?_); rintro e v1 ⟨rfl, hb⟩; refine ⟨_, rfl, ?_⟩; replace BX := Aside0.mk (BX.out.below hb); clear hb; have s0 : v1.cell? ⟨g3, 0, none⟩ = some (.complex .f64 0 0) := (blk_cell BX.out.b3 0).trans rfl; have s10 : v1.cell? ⟨g3, 10, none⟩ = some (.int .i64 0) := (blk_cell BX.out.b3 10).trans rfl; have f0 := blk_frozen BX.out.b3 0; have f10 := blk_frozen BX.out.b3 10))
   go_meet
   case rel => exact ((BX.out.put3 0 _ rfl).put3 10 _ rfl)
  rw [if_neg c2] at H
  have b2 : (a0_0 == 2) = false := beq_eq_false_iff_ne.mpr c2
  clear c2
  by_cases c3 : a0_0 = 3
  ·
   rw [if_pos c3] at H
   have b3 : (a0_0 == 3) = true := beq_iff_eq.mpr c3
   clear c3
   simp only [Option.bind_eq_some_iff] at H
   obtain ⟨z1, A1, ⟨x1, x2, x3⟩, A2, H⟩ := H
   replace A1 := Aside0.mk A1
   replace A2 := Aside0.mk A2
   have k1 : w3.cell? ⟨g1, 1, none⟩ = some (.float .f64 a0_1) := (blk_cell BX.out.b1 1).trans rfl
   have k2 : w3.cell? ⟨g1, 2, none⟩ = some (.float .f64 a0_2) := (blk_cell BX.out.b1 2).trans rfl
   cases x3 with
   | false =>
     replace H : some (cx 0 0, cx 0 0, cx 0 0, cx 0 0, cx 0 0, 0, 0, 0, false, (⟨#[]⟩ : ByteArray), 5) = some (r1, r2, r3, r4, r5, r6, r7, r8, r9, r10, r11) := H
     simp only [Option.some.injEq, Prod.mk.injEq] at H
     obtain ⟨rfl, rfl, rfl, rfl, rfl, rfl, rfl, rfl, rfl, rfl, rfl⟩ := H
     go_wp2_with (first | ((with_reducible refine gate_callee (f := 10) rfl ?_); refine gL_ (some 35) Tryz.func10 #[.agg #[.float .f64 a0_1, .float .f64 a0_2]] ?_; (with_reducible refine (pylonlaw02_Z_c.calls a0_1 a0_2 z1 _ A1.out).mono ?_); rintro e v1 ⟨rfl, hb⟩; refine ⟨_, rfl, ?_⟩; replace BX := Aside0.mk (BX.out.below hb); clear hb) | ((with_reducible refine gate_callee (f := 23) rfl ?_); refine gL_ (some 36) Tryz.func23 #[.complex .f64 z1.re z1.im] ?_; (with_reducible refine (pylonref02_Fits.calls z1 x1 x2 false _ A2.out).mono ?_); rintro e v2 ⟨rfl, hb⟩; refine ⟨_, rfl, ?_⟩; replace BX := Aside0.mk (BX.out.below hb); clear hb) | ((with_reducible refine gate_dst (N := 4) rfl ?_); refine box_event ?hg (N := 4) ?hd (cs := #[.int .i64 0, .int .i64 0]) (t := 59) ?hr ?_; (case hd => rfl); (case hg => rfl); (case hr => first | (go_simp; done) | (go_simp; rfl)); intro g4 hg w4 hbox hb; have D := Aside0.mk (BX.out.apart hg); replace BX := Aside0.mk (BX.out.below hb); have K4 := Aside0.mk hbox; clear hb hbox hg; have q0 : w4.cell? ⟨g4, 0, none⟩ = some (.int .i64 0) := (blk_cell K4.out 0).trans rfl; have e0 := blk_frozen K4.out 0; have q1 : w4.cell? ⟨g4, 1, none⟩ = some (.int .i64 0) := (blk_cell K4.out 1).trans rfl; have e1 := blk_frozen K4.out 1; have n34 := D.out.2.2.1; have n43 := D.out.2.2.1.symm; have s5 : w4.cell? ⟨g3, 5, none⟩ = some (.int .i64 0) := (blk_cell BX.out.b3 5).trans rfl; have f5 := blk_frozen BX.out.b3 5; have s6 : w4.cell? ⟨g3, 6, none⟩ = some (.int .i64 0) := (blk_cell BX.out.b3 6).trans rfl; have f6 := blk_frozen BX.out.b3 6; have s10 : w4.cell? ⟨g3, 10, none⟩ = some (.int .i64 0) := (blk_cell BX.out.b3 10).trans rfl; have f10 := blk_frozen BX.out.b3 10))
     go_meet
     case rel => exact ((BX.out.away D.out 0 _).away D.out 1 _).put3 10 _ rfl
   | true =>
     replace H : some (cx 0 0, cx 0 0, cx 0 0, cx 0 0, cx 0 0, x1, x2, 0, false, (⟨#[]⟩ : ByteArray), 0) = some (r1, r2, r3, r4, r5, r6, r7, r8, r9, r10, r11) := H
     simp only [Option.some.injEq, Prod.mk.injEq] at H
     obtain ⟨rfl, rfl, rfl, rfl, rfl, rfl, rfl, rfl, rfl, rfl, rfl⟩ := H
     go_wp2_with (first | ((with_reducible refine gate_callee (f := 10) rfl ?_); refine gL_ (some 35) Tryz.func10 #[.agg #[.float .f64 a0_1, .float .f64 a0_2]] ?_; (with_reducible refine (pylonlaw02_Z_c.calls a0_1 a0_2 z1 _ A1.out).mono ?_); rintro e v1 ⟨rfl, hb⟩; refine ⟨_, rfl, ?_⟩; replace BX := Aside0.mk (BX.out.below hb); clear hb) | ((with_reducible refine gate_callee (f := 23) rfl ?_); refine gL_ (some 36) Tryz.func23 #[.complex .f64 z1.re z1.im] ?_; (with_reducible refine (pylonref02_Fits.calls z1 x1 x2 true _ A2.out).mono ?_); rintro e v2 ⟨rfl, hb⟩; refine ⟨_, rfl, ?_⟩; replace BX := Aside0.mk (BX.out.below hb); clear hb) | ((with_reducible refine gate_dst (N := 4) rfl ?_); refine box_event ?hg (N := 4) ?hd (cs := #[.int .i64 0, .int .i64 0]) (t := 59) ?hr ?_; (case hd => rfl); (case hg => rfl); (case hr => first | (go_simp; done) | (go_simp; rfl)); intro g4 hg w4 hbox hb; have D := Aside0.mk (BX.out.apart hg); replace BX := Aside0.mk (BX.out.below hb); have K4 := Aside0.mk hbox; clear hb hbox hg; have q0 : w4.cell? ⟨g4, 0, none⟩ = some (.int .i64 0) := (blk_cell K4.out 0).trans rfl; have e0 := blk_frozen K4.out 0; have q1 : w4.cell? ⟨g4, 1, none⟩ = some (.int .i64 0) := (blk_cell K4.out 1).trans rfl; have e1 := blk_frozen K4.out 1; have n34 := D.out.2.2.1; have n43 := D.out.2.2.1.symm; have s5 : w4.cell? ⟨g3, 5, none⟩ = some (.int .i64 0) := (blk_cell BX.out.b3 5).trans rfl; have f5 := blk_frozen BX.out.b3 5; have s6 : w4.cell? ⟨g3, 6, none⟩ = some (.int .i64 0) := (blk_cell BX.out.b3 6).trans rfl; have f6 := blk_frozen BX.out.b3 6; have s10 : w4.cell? ⟨g3, 10, none⟩ = some (.int .i64 0) := (blk_cell BX.out.b3 10).trans rfl; have f10 := blk_frozen BX.out.b3 10))
     have K5 : Aside0 (((w4.setCell ⟨g4, 0, none⟩ (.int .i64 x1)).setCell ⟨g4, 1, none⟩ (.int .i64 x2)).heap[g4]? = some (.cells #[.int .i64 x1, .int .i64 x2] 59 (0, 0))) := ⟨blk_put (blk_put K4.out 0 _ rfl) 1 _ rfl⟩
     have BY := Aside0.mk ((BX.out.away D.out 0 (.int .i64 x1)).away D.out 1 (.int .i64 x2))
     clear q0 q1 e0 e1 s5 s6 s10 f5 f6 f10 n34 n43 BX K4
     generalize ((w4.setCell ⟨g4, 0, none⟩ (.int .i64 x1)).setCell ⟨g4, 1, none⟩ (.int .i64 x2)) = w5 at BY K5 ⊢
     have BX := Aside0.mk BY.out.draw
     clear BY
     refine start_ (n := 8) (S := fun w' => w'.heap[g4]? = w5.heap[g4]?) (ds := []) (upT 0 8) (by kernel_rfl) rfl rfl rfl (fun hH => ?_); refine with_tabW pylonlaw02_wants.tab10 pylonlaw02_wants.bits10 (fun HT_ HW_ => ?_)
     generalize w5.drew = w6 at BX hH ⊢
     refine pq_ 0 40 (upT 1 7) HT_ ?_
     refine pq_ 2 42 #[true, false, true, false, false, false, false, false] HT_ ?_
     refine tk_ (.int .i64 x1) 1 41 (upT 3 5) HT_ HW_ hH (Or.inl ⟨rfl, fun w' hs => ?_⟩) ?_
     · have q0 : w'.cell? ⟨g4, 0, none⟩ = some (.int .i64 x1) := (blk_cell (hs.trans K5.out) 0).trans rfl; clear hs; go_simp; try with_reducible rfl
     refine pq_ 4 44 #[true, true, true, false, true, false, false, false] HT_ ?_
     refine tk_ (.int .i64 x2) 3 43 (upT 5 3) HT_ HW_ hH (Or.inl ⟨rfl, fun w' hs => ?_⟩) ?_
     · have q1 : w'.cell? ⟨g4, 1, none⟩ = some (.int .i64 x2) := (blk_cell (hs.trans K5.out) 1).trans rfl; clear hs; go_simp; try with_reducible rfl
     have K6 := Aside0.mk (hH.trans K5.out)
     have s5 : w6.cell? ⟨g3, 5, none⟩ = some (.int .i64 0) := (blk_cell BX.out.b3 5).trans rfl
     have s6 : w6.cell? ⟨g3, 6, none⟩ = some (.int .i64 0) := (blk_cell BX.out.b3 6).trans rfl
     have f5 := blk_frozen BX.out.b3 5
     have f6 := blk_frozen BX.out.b3 6
     refine on_ 5 none (upT 6 2) HT_ (fun K hK => ?_)
     refine sk_ ?_
     refine hK.out _ _ ((blk_far K6.out D.out.2.2.1.symm _).trans K5.out.symm) (fun hH => ?_)
     clear hK K
     refine pq_ 6 45 (upT 7 1) HT_ ?_
     refine on_ 7 none (upT 8 0) HT_ (fun K hK => ?_)
     refine sk_ ?_
     refine hK.out _ _ ((blk_far (blk_far K6.out D.out.2.2.1.symm _) D.out.2.2.1.symm _).trans K5.out.symm) (fun hH => ?_)
     clear hK K
     refine done_ (done_of HT_.out (by kernel_rfl)) ?_
     try go_wp2
     go_meet
     case rel => exact (BX.out.put3 5 _ rfl).put3 6 _ rfl
  rw [if_neg c3] at H
  have b3 : (a0_0 == 3) = false := beq_eq_false_iff_ne.mpr c3
  clear c3
  by_cases c4 : a0_0 = 4
  ·
   rw [if_pos c4] at H
   have b4 : (a0_0 == 4) = true := beq_iff_eq.mpr c4
   clear c4
   simp only [Option.bind_eq_some_iff] at H
   obtain ⟨z1, A1, z2, A2, ⟨x1, x2⟩, A3, H⟩ := H
   replace A1 := Aside0.mk A1
   replace A2 := Aside0.mk A2
   replace A3 := Aside0.mk A3
   simp only [Option.some.injEq, Prod.mk.injEq] at H
   obtain ⟨rfl, rfl, rfl, rfl, rfl, rfl, rfl, rfl, rfl, rfl, rfl⟩ := H
   go_wp2
   have B1 := Aside0.mk BX.out.b1
   replace BX := Aside0.mk BX.out.draw
   refine start_ (n := 14) (S := fun w' => w'.heap[g1]? = w3.heap[g1]?) (ds := []) (upT 0 14) (by kernel_rfl) rfl rfl rfl (fun hH => ?_); refine with_tabW pylonlaw02_wants.tab13 pylonlaw02_wants.bits13 (fun HT_ HW_ => ?_)
   generalize w3.drew = w4 at BX hH ⊢
   refine pq_ 0 50 (upT 1 13) HT_ ?_
   refine pq_ 3 53 #[true, false, false, true, false, false, false, false, false, false, false, false, false, false] HT_ ?_
   refine tk_ (.agg #[.float .f64 a0_1, .float .f64 a0_2]) 1 51 #[true, true, false, true, false, false, false, false, false, false, false, false, false, false] HT_ HW_ hH (Or.inl ⟨rfl, fun w' hs => ?_⟩) ?_
   · have k1 : w'.cell? ⟨g1, 1, none⟩ = some (.float .f64 a0_1) := (blk_cell (hs.trans B1.out) 1).trans rfl; have k2 : w'.cell? ⟨g1, 2, none⟩ = some (.float .f64 a0_2) := (blk_cell (hs.trans B1.out) 2).trans rfl; clear hs; go_simp; try with_reducible rfl
   refine tk_ (.agg #[.float .f64 a0_3, .float .f64 a0_4]) 4 54 #[true, true, false, true, true, false, false, false, false, false, false, false, false, false] HT_ HW_ hH (Or.inl ⟨rfl, fun w' hs => ?_⟩) ?_
   · have k3 : w'.cell? ⟨g1, 3, none⟩ = some (.float .f64 a0_3) := (blk_cell (hs.trans B1.out) 3).trans rfl; have k4 : w'.cell? ⟨g1, 4, none⟩ = some (.float .f64 a0_4) := (blk_cell (hs.trans B1.out) 4).trans rfl; clear hs; go_simp; try with_reducible rfl
   refine on_ 2 (some 52) (upT 5 9) HT_ (fun K hK => ?_)
   refine gN_ Tryz.func10 #[.agg #[.float .f64 a0_1, .float .f64 a0_2]] ?_
   with_reducible refine (pylonlaw02_Z_c.calls a0_1 a0_2 z1 _ A1.out).mono ?_
   rintro e v1 ⟨rfl, hb⟩
   refine ⟨_, rfl, ?_⟩
   replace BX := Aside0.mk (BX.out.below hb)
   clear hb
   refine hK.out _ _ (BX.out.b1.trans B1.out.symm) (fun hH => ?_)
   clear hK K
   refine nm_ 52 _ ?_
   refine on_ 5 (some 55) (upT 6 8) HT_ (fun K hK => ?_)
   refine gN_ Tryz.func10 #[.agg #[.float .f64 a0_3, .float .f64 a0_4]] ?_
   with_reducible refine (pylonlaw02_Z_c.calls a0_3 a0_4 z2 _ A2.out).mono ?_
   rintro e v2 ⟨rfl, hb⟩
   refine ⟨_, rfl, ?_⟩
   replace BX := Aside0.mk (BX.out.below hb)
   clear hb
   refine hK.out _ _ (BX.out.b1.trans B1.out.symm) (fun hH => ?_)
   clear hK K
   refine nm_ 55 _ ?_
   refine on_ 6 (some 56) (upT 7 7) HT_ (fun K hK => ?_)
   refine gN_ Tryz.func25 #[.complex .f64 z1.re z1.im, .complex .f64 z2.re z2.im] ?_
   with_reducible refine (pylonref02_Power.calls k z1 z2 x1 x2 _ A3.out).mono ?_
   rintro e v3 ⟨rfl, hb⟩
   refine ⟨_, rfl, ?_⟩
   replace BX := Aside0.mk (BX.out.below hb)
   clear hb
   refine hK.out _ _ (BX.out.b1.trans B1.out.symm) (fun hH => ?_)
   clear hK K
   refine nm_ 56 _ ?_
   refine pq_ 7 49 (upT 8 6) HT_ ?_
   refine pq_ 8 57 (upT 9 5) HT_ ?_
   refine pq_ 9 58 (upT 10 4) HT_ ?_
   refine pq_ 10 59 (upT 11 3) HT_ ?_
   have s0 : v3.cell? ⟨g3, 0, none⟩ = some (.complex .f64 0 0) := (blk_cell BX.out.b3 0).trans rfl
   have s10 : v3.cell? ⟨g3, 10, none⟩ = some (.int .i64 0) := (blk_cell BX.out.b3 10).trans rfl
   have f0 := blk_frozen BX.out.b3 0
   have f10 := blk_frozen BX.out.b3 10
   refine on_ 11 none (upT 12 2) HT_ (fun K hK => ?_)
   refine sk_ ?_
   refine hK.out _ _ ((BX.out.put3 0 _ rfl).b1.trans B1.out.symm) (fun hH => ?_)
   clear hK K
   refine pq_ 12 60 (upT 13 1) HT_ ?_
   refine on_ 13 none (upT 14 0) HT_ (fun K hK => ?_)
   refine sk_ ?_
   refine hK.out _ _ (((BX.out.put3 0 _ rfl).put3 10 _ rfl).b1.trans B1.out.symm) (fun hH => ?_)
   clear hK K
   refine done_ (done_of HT_.out (by kernel_rfl)) ?_
   try go_wp2
   go_meet
   case rel => exact ((BX.out.put3 0 _ rfl).put3 10 _ rfl)
  rw [if_neg c4] at H
  have b4 : (a0_0 == 4) = false := beq_eq_false_iff_ne.mpr c4
  clear c4
  by_cases c5 : a0_0 = 5
  ·
   rw [if_pos c5] at H
   have b5 : (a0_0 == 5) = true := beq_iff_eq.mpr c5
   clear c5
   simp only [Option.bind_eq_some_iff] at H
   obtain ⟨z1, A1, z2, A2, ⟨x1, x2⟩, A3, H⟩ := H
   replace A1 := Aside0.mk A1
   replace A2 := Aside0.mk A2
   replace A3 := Aside0.mk A3
   simp only [Option.some.injEq, Prod.mk.injEq] at H
   obtain ⟨rfl, rfl, rfl, rfl, rfl, rfl, rfl, rfl, rfl, rfl, rfl⟩ := H
   go_wp2
   have B1 := Aside0.mk BX.out.b1
   replace BX := Aside0.mk BX.out.draw
   refine start_ (n := 14) (S := fun w' => w'.heap[g1]? = w3.heap[g1]?) (ds := []) (upT 0 14) (by kernel_rfl) rfl rfl rfl (fun hH => ?_); refine with_tabW pylonlaw02_wants.tab15 pylonlaw02_wants.bits15 (fun HT_ HW_ => ?_)
   generalize w3.drew = w4 at BX hH ⊢
   refine pq_ 0 64 (upT 1 13) HT_ ?_
   refine pq_ 3 67 #[true, false, false, true, false, false, false, false, false, false, false, false, false, false] HT_ ?_
   refine tk_ (.slice A0_9 l0_9.length c0_9) 1 65 #[true, true, false, true, false, false, false, false, false, false, false, false, false, false] HT_ HW_ hH (Or.inl ⟨rfl, fun w' hs => ?_⟩) ?_
   · have k9 : w'.cell? ⟨g1, 9, none⟩ = some (.slice A0_9 l0_9.length c0_9) := (blk_cell (hs.trans B1.out) 9).trans rfl; clear hs; go_simp; try with_reducible rfl
   refine tk_ (.slice A0_10 l0_10.length c0_10) 4 68 #[true, true, false, true, true, false, false, false, false, false, false, false, false, false] HT_ HW_ hH (Or.inl ⟨rfl, fun w' hs => ?_⟩) ?_
   · have k10 : w'.cell? ⟨g1, 10, none⟩ = some (.slice A0_10 l0_10.length c0_10) := (blk_cell (hs.trans B1.out) 10).trans rfl; clear hs; go_simp; try with_reducible rfl
   refine on_ 2 (some 66) (upT 5 9) HT_ (fun K hK => ?_)
   refine gN_ Tryz.func14 #[.slice A0_9 l0_9.length c0_9] ?_
   with_reducible refine (pylonlaw02_numbers.calls k _ _ l0_9 z1 _ ?side5_0_1 ?side5_0_2 A1.out).mono ?_
   (case side5_0_1 => exact Kd.C_below HR0_9.out BX.out.hb)
   (case side5_0_2 => exact HC0_9.out)
   rintro e v1 ⟨vv, rfl, ho0, hb⟩
   refine ⟨_, rfl, ?_⟩
   obtain ⟨Az1, coz1, eo⟩ := Kd.R_slice ho0
   subst eo
   have hC1 := Aside0.mk (And.intro (Kd.R_reads' ho0).2.2 (Kd.R_reads' ho0).2.1)
   clear ho0
   replace BX := Aside0.mk (BX.out.below hb)
   clear hb
   refine hK.out _ _ (BX.out.b1.trans B1.out.symm) (fun hH => ?_)
   clear hK K
   refine nm_ 66 _ ?_
   refine on_ 5 (some 69) (upT 6 8) HT_ (fun K hK => ?_)
   refine gN_ Tryz.func14 #[.slice A0_10 l0_10.length c0_10] ?_
   with_reducible refine (pylonlaw02_numbers.calls k _ _ l0_10 z2 _ ?side5_1_1 ?side5_1_2 A2.out).mono ?_
   (case side5_1_1 => exact Kd.C_below HR0_10.out BX.out.hb)
   (case side5_1_2 => exact HC0_10.out)
   rintro e v2 ⟨vv, rfl, ho0, hb⟩
   refine ⟨_, rfl, ?_⟩
   replace hC1 := Aside0.mk (And.intro (Kd.C_below hC1.out.1 hb) hC1.out.2)
   obtain ⟨Az2, coz2, eo⟩ := Kd.R_slice ho0
   subst eo
   have hC2 := Aside0.mk (And.intro (Kd.R_reads' ho0).2.2 (Kd.R_reads' ho0).2.1)
   clear ho0
   replace BX := Aside0.mk (BX.out.below hb)
   clear hb
   refine hK.out _ _ (BX.out.b1.trans B1.out.symm) (fun hH => ?_)
   clear hK K
   refine nm_ 69 _ ?_
   refine on_ 6 (some 70) (upT 7 7) HT_ (fun K hK => ?_)
   refine gN_ Tryz.func26 #[.slice Az1 z1.length coz1, .slice Az2 z2.length coz2] ?_
   with_reducible refine (pylonref02_Phases.calls k _ _ z1 _ _ z2 x1 x2 _ ?side5_2_1 ?side5_2_2 ?side5_2_3 ?side5_2_4 A3.out).mono ?_
   (case side5_2_1 => exact hC1.out.1)
   (case side5_2_2 => exact hC1.out.2)
   (case side5_2_3 => exact hC2.out.1)
   (case side5_2_4 => exact hC2.out.2)
   rintro e v3 ⟨rfl, hb⟩
   refine ⟨_, rfl, ?_⟩
   replace BX := Aside0.mk (BX.out.below hb)
   clear hb
   refine hK.out _ _ (BX.out.b1.trans B1.out.symm) (fun hH => ?_)
   clear hK K
   refine nm_ 70 _ ?_
   refine pq_ 7 63 (upT 8 6) HT_ ?_
   refine pq_ 8 71 (upT 9 5) HT_ ?_
   refine pq_ 9 72 (upT 10 4) HT_ ?_
   refine pq_ 10 73 (upT 11 3) HT_ ?_
   have s0 : v3.cell? ⟨g3, 0, none⟩ = some (.complex .f64 0 0) := (blk_cell BX.out.b3 0).trans rfl
   have s10 : v3.cell? ⟨g3, 10, none⟩ = some (.int .i64 0) := (blk_cell BX.out.b3 10).trans rfl
   have f0 := blk_frozen BX.out.b3 0
   have f10 := blk_frozen BX.out.b3 10
   refine on_ 11 none (upT 12 2) HT_ (fun K hK => ?_)
   refine sk_ ?_
   refine hK.out _ _ ((BX.out.put3 0 _ rfl).b1.trans B1.out.symm) (fun hH => ?_)
   clear hK K
   refine pq_ 12 74 (upT 13 1) HT_ ?_
   refine on_ 13 none (upT 14 0) HT_ (fun K hK => ?_)
   refine sk_ ?_
   refine hK.out _ _ (((BX.out.put3 0 _ rfl).put3 10 _ rfl).b1.trans B1.out.symm) (fun hH => ?_)
   clear hK K
   refine done_ (done_of HT_.out (by kernel_rfl)) ?_
   try go_wp2
   go_meet
   case rel => exact ((BX.out.put3 0 _ rfl).put3 10 _ rfl)
  rw [if_neg c5] at H
  have b5 : (a0_0 == 5) = false := beq_eq_false_iff_ne.mpr c5
  clear c5
  by_cases c6 : a0_0 = 6
  ·
   rw [if_pos c6] at H
   have b6 : (a0_0 == 6) = true := beq_iff_eq.mpr c6
   clear c6
   simp only [Option.bind_eq_some_iff] at H
   obtain ⟨z1, A1, z2, A2, z3, A3, z4, A4, ⟨x1, x2⟩, A5, H⟩ := H
   replace A1 := Aside0.mk A1
   replace A2 := Aside0.mk A2
   replace A3 := Aside0.mk A3
   replace A4 := Aside0.mk A4
   replace A5 := Aside0.mk A5
   simp only [Option.some.injEq, Prod.mk.injEq] at H
   obtain ⟨rfl, rfl, rfl, rfl, rfl, rfl, rfl, rfl, rfl, rfl, rfl⟩ := H
   go_wp2
   have B1 := Aside0.mk BX.out.b1
   replace BX := Aside0.mk BX.out.draw
   refine start_ (n := 20) (S := fun w' => w'.heap[g1]? = w3.heap[g1]?) (ds := []) (upT 0 20) (by kernel_rfl) rfl rfl rfl (fun hH => ?_); refine with_tabW pylonlaw02_wants.tab17 pylonlaw02_wants.bits17 (fun HT_ HW_ => ?_)
   generalize w3.drew = w4 at BX hH ⊢
   refine pq_ 0 78 (upT 1 19) HT_ ?_
   refine pq_ 3 81 #[true, false, false, true, false, false, false, false, false, false, false, false, false, false, false, false, false, false, false, false] HT_ ?_
   refine pq_ 6 84 #[true, false, false, true, false, false, true, false, false, false, false, false, false, false, false, false, false, false, false, false] HT_ ?_
   refine pq_ 9 87 #[true, false, false, true, false, false, true, false, false, true, false, false, false, false, false, false, false, false, false, false] HT_ ?_
   refine tk_ (.agg #[.float .f64 a0_1, .float .f64 a0_2]) 1 79 #[true, true, false, true, false, false, true, false, false, true, false, false, false, false, false, false, false, false, false, false] HT_ HW_ hH (Or.inl ⟨rfl, fun w' hs => ?_⟩) ?_
   · have k1 : w'.cell? ⟨g1, 1, none⟩ = some (.float .f64 a0_1) := (blk_cell (hs.trans B1.out) 1).trans rfl; have k2 : w'.cell? ⟨g1, 2, none⟩ = some (.float .f64 a0_2) := (blk_cell (hs.trans B1.out) 2).trans rfl; clear hs; go_simp; try with_reducible rfl
   refine tk_ (.agg #[.float .f64 a0_3, .float .f64 a0_4]) 4 82 #[true, true, false, true, true, false, true, false, false, true, false, false, false, false, false, false, false, false, false, false] HT_ HW_ hH (Or.inl ⟨rfl, fun w' hs => ?_⟩) ?_
   · have k3 : w'.cell? ⟨g1, 3, none⟩ = some (.float .f64 a0_3) := (blk_cell (hs.trans B1.out) 3).trans rfl; have k4 : w'.cell? ⟨g1, 4, none⟩ = some (.float .f64 a0_4) := (blk_cell (hs.trans B1.out) 4).trans rfl; clear hs; go_simp; try with_reducible rfl
   refine tk_ (.agg #[.float .f64 a0_5, .float .f64 a0_6]) 7 85 #[true, true, false, true, true, false, true, true, false, true, false, false, false, false, false, false, false, false, false, false] HT_ HW_ hH (Or.inl ⟨rfl, fun w' hs => ?_⟩) ?_
   · have k5 : w'.cell? ⟨g1, 5, none⟩ = some (.float .f64 a0_5) := (blk_cell (hs.trans B1.out) 5).trans rfl; have k6 : w'.cell? ⟨g1, 6, none⟩ = some (.float .f64 a0_6) := (blk_cell (hs.trans B1.out) 6).trans rfl; clear hs; go_simp; try with_reducible rfl
   refine tk_ (.agg #[.float .f64 a0_7, .float .f64 a0_8]) 10 88 #[true, true, false, true, true, false, true, true, false, true, true, false, false, false, false, false, false, false, false, false] HT_ HW_ hH (Or.inl ⟨rfl, fun w' hs => ?_⟩) ?_
   · have k7 : w'.cell? ⟨g1, 7, none⟩ = some (.float .f64 a0_7) := (blk_cell (hs.trans B1.out) 7).trans rfl; have k8 : w'.cell? ⟨g1, 8, none⟩ = some (.float .f64 a0_8) := (blk_cell (hs.trans B1.out) 8).trans rfl; clear hs; go_simp; try with_reducible rfl
   refine on_ 2 (some 80) #[true, true, true, true, true, false, true, true, false, true, true, false, false, false, false, false, false, false, false, false] HT_ (fun K hK => ?_)
   refine gN_ Tryz.func10 #[.agg #[.float .f64 a0_1, .float .f64 a0_2]] ?_
   with_reducible refine (pylonlaw02_Z_c.calls a0_1 a0_2 z1 _ A1.out).mono ?_
   rintro e v1 ⟨rfl, hb⟩
   refine ⟨_, rfl, ?_⟩
   replace BX := Aside0.mk (BX.out.below hb)
   clear hb
   refine hK.out _ _ (BX.out.b1.trans B1.out.symm) (fun hH => ?_)
   clear hK K
   refine nm_ 80 _ ?_
   refine on_ 5 (some 83) #[true, true, true, true, true, true, true, true, false, true, true, false, false, false, false, false, false, false, false, false] HT_ (fun K hK => ?_)
   refine gN_ Tryz.func10 #[.agg #[.float .f64 a0_3, .float .f64 a0_4]] ?_
   with_reducible refine (pylonlaw02_Z_c.calls a0_3 a0_4 z2 _ A2.out).mono ?_
   rintro e v2 ⟨rfl, hb⟩
   refine ⟨_, rfl, ?_⟩
   replace BX := Aside0.mk (BX.out.below hb)
   clear hb
   refine hK.out _ _ (BX.out.b1.trans B1.out.symm) (fun hH => ?_)
   clear hK K
   refine nm_ 83 _ ?_
   refine on_ 8 (some 86) (upT 11 9) HT_ (fun K hK => ?_)
   refine gN_ Tryz.func10 #[.agg #[.float .f64 a0_5, .float .f64 a0_6]] ?_
   with_reducible refine (pylonlaw02_Z_c.calls a0_5 a0_6 z3 _ A3.out).mono ?_
   rintro e v3 ⟨rfl, hb⟩
   refine ⟨_, rfl, ?_⟩
   replace BX := Aside0.mk (BX.out.below hb)
   clear hb
   refine hK.out _ _ (BX.out.b1.trans B1.out.symm) (fun hH => ?_)
   clear hK K
   refine nm_ 86 _ ?_
   refine on_ 11 (some 89) (upT 12 8) HT_ (fun K hK => ?_)
   refine gN_ Tryz.func10 #[.agg #[.float .f64 a0_7, .float .f64 a0_8]] ?_
   with_reducible refine (pylonlaw02_Z_c.calls a0_7 a0_8 z4 _ A4.out).mono ?_
   rintro e v4 ⟨rfl, hb⟩
   refine ⟨_, rfl, ?_⟩
   replace BX := Aside0.mk (BX.out.below hb)
   clear hb
   refine hK.out _ _ (BX.out.b1.trans B1.out.symm) (fun hH => ?_)
   clear hK K
   refine nm_ 89 _ ?_
   refine on_ 12 (some 90) (upT 13 7) HT_ (fun K hK => ?_)
   refine gN_ Tryz.func27 #[.complex .f64 z1.re z1.im, .complex .f64 z2.re z2.im, .complex .f64 z3.re z3.im, .complex .f64 z4.re z4.im] ?_
   with_reducible refine (pylonref02_Aron.calls k z1 z2 z3 z4 x1 x2 _ A5.out).mono ?_
   rintro e v5 ⟨rfl, hb⟩
   refine ⟨_, rfl, ?_⟩
   replace BX := Aside0.mk (BX.out.below hb)
   clear hb
   refine hK.out _ _ (BX.out.b1.trans B1.out.symm) (fun hH => ?_)
   clear hK K
   refine nm_ 90 _ ?_
   refine pq_ 13 77 (upT 14 6) HT_ ?_
   refine pq_ 14 91 (upT 15 5) HT_ ?_
   refine pq_ 15 92 (upT 16 4) HT_ ?_
   refine pq_ 16 93 (upT 17 3) HT_ ?_
   have s0 : v5.cell? ⟨g3, 0, none⟩ = some (.complex .f64 0 0) := (blk_cell BX.out.b3 0).trans rfl
   have s10 : v5.cell? ⟨g3, 10, none⟩ = some (.int .i64 0) := (blk_cell BX.out.b3 10).trans rfl
   have f0 := blk_frozen BX.out.b3 0
   have f10 := blk_frozen BX.out.b3 10
   refine on_ 17 none (upT 18 2) HT_ (fun K hK => ?_)
   refine sk_ ?_
   refine hK.out _ _ ((BX.out.put3 0 _ rfl).b1.trans B1.out.symm) (fun hH => ?_)
   clear hK K
   refine pq_ 18 94 (upT 19 1) HT_ ?_
   refine on_ 19 none (upT 20 0) HT_ (fun K hK => ?_)
   refine sk_ ?_
   refine hK.out _ _ (((BX.out.put3 0 _ rfl).put3 10 _ rfl).b1.trans B1.out.symm) (fun hH => ?_)
   clear hK K
   refine done_ (done_of HT_.out (by kernel_rfl)) ?_
   try go_wp2
   go_meet
   case rel => exact ((BX.out.put3 0 _ rfl).put3 10 _ rfl)
  rw [if_neg c6] at H
  have b6 : (a0_0 == 6) = false := beq_eq_false_iff_ne.mpr c6
  clear c6
  by_cases c7 : a0_0 = 7
  ·
   rw [if_pos c7] at H
   have b7 : (a0_0 == 7) = true := beq_iff_eq.mpr c7
   clear c7
   simp only [Option.bind_eq_some_iff] at H
   obtain ⟨z1, A1, ⟨x1, x2⟩, A2, H⟩ := H
   replace A1 := Aside0.mk A1
   replace A2 := Aside0.mk A2
   simp only [Option.some.injEq, Prod.mk.injEq] at H
   obtain ⟨rfl, rfl, rfl, rfl, rfl, rfl, rfl, rfl, rfl, rfl, rfl⟩ := H
   go_wp2
   have B1 := Aside0.mk BX.out.b1
   replace BX := Aside0.mk BX.out.draw
   refine start_ (n := 13) (S := fun w' => w'.heap[g1]? = w3.heap[g1]?) (ds := []) (upT 0 13) (by kernel_rfl) rfl rfl rfl (fun hH => ?_); refine with_tabW pylonlaw02_wants.tab19 pylonlaw02_wants.bits19 (fun HT_ HW_ => ?_)
   generalize w3.drew = w4 at BX hH ⊢
   refine pq_ 0 98 (upT 1 12) HT_ ?_
   refine pq_ 3 101 #[true, false, false, true, false, false, false, false, false, false, false, false, false] HT_ ?_
   refine tk_ (.agg #[.float .f64 a0_1, .float .f64 a0_2]) 1 99 #[true, true, false, true, false, false, false, false, false, false, false, false, false] HT_ HW_ hH (Or.inl ⟨rfl, fun w' hs => ?_⟩) ?_
   · have k1 : w'.cell? ⟨g1, 1, none⟩ = some (.float .f64 a0_1) := (blk_cell (hs.trans B1.out) 1).trans rfl; have k2 : w'.cell? ⟨g1, 2, none⟩ = some (.float .f64 a0_2) := (blk_cell (hs.trans B1.out) 2).trans rfl; clear hs; go_simp; try with_reducible rfl
   refine tk_ (.int .i64 a0_13) 4 102 #[true, true, false, true, true, false, false, false, false, false, false, false, false] HT_ HW_ hH (Or.inl ⟨rfl, fun w' hs => ?_⟩) ?_
   · have k13 : w'.cell? ⟨g1, 13, none⟩ = some (.int .i64 a0_13) := (blk_cell (hs.trans B1.out) 13).trans rfl; clear hs; go_simp; try with_reducible rfl
   refine on_ 2 (some 100) (upT 5 8) HT_ (fun K hK => ?_)
   refine gN_ Tryz.func10 #[.agg #[.float .f64 a0_1, .float .f64 a0_2]] ?_
   with_reducible refine (pylonlaw02_Z_c.calls a0_1 a0_2 z1 _ A1.out).mono ?_
   rintro e v1 ⟨rfl, hb⟩
   refine ⟨_, rfl, ?_⟩
   replace BX := Aside0.mk (BX.out.below hb)
   clear hb
   refine hK.out _ _ (BX.out.b1.trans B1.out.symm) (fun hH => ?_)
   clear hK K
   refine nm_ 100 _ ?_
   refine on_ 5 (some 103) (upT 6 7) HT_ (fun K hK => ?_)
   refine gN_ Tryz.func28 #[.complex .f64 z1.re z1.im, .int .i64 a0_13] ?_
   with_reducible refine (pylonref02_Turn.calls z1 a0_13 x1 x2 _ A2.out).mono ?_
   rintro e v2 ⟨rfl, hb⟩
   refine ⟨_, rfl, ?_⟩
   replace BX := Aside0.mk (BX.out.below hb)
   clear hb
   refine hK.out _ _ (BX.out.b1.trans B1.out.symm) (fun hH => ?_)
   clear hK K
   refine nm_ 103 _ ?_
   refine pq_ 6 97 (upT 7 6) HT_ ?_
   refine pq_ 7 104 (upT 8 5) HT_ ?_
   refine pq_ 8 105 (upT 9 4) HT_ ?_
   refine pq_ 9 106 (upT 10 3) HT_ ?_
   have s0 : v2.cell? ⟨g3, 0, none⟩ = some (.complex .f64 0 0) := (blk_cell BX.out.b3 0).trans rfl
   have s10 : v2.cell? ⟨g3, 10, none⟩ = some (.int .i64 0) := (blk_cell BX.out.b3 10).trans rfl
   have f0 := blk_frozen BX.out.b3 0
   have f10 := blk_frozen BX.out.b3 10
   refine on_ 10 none (upT 11 2) HT_ (fun K hK => ?_)
   refine sk_ ?_
   refine hK.out _ _ ((BX.out.put3 0 _ rfl).b1.trans B1.out.symm) (fun hH => ?_)
   clear hK K
   refine pq_ 11 107 (upT 12 1) HT_ ?_
   refine on_ 12 none (upT 13 0) HT_ (fun K hK => ?_)
   refine sk_ ?_
   refine hK.out _ _ (((BX.out.put3 0 _ rfl).put3 10 _ rfl).b1.trans B1.out.symm) (fun hH => ?_)
   clear hK K
   refine done_ (done_of HT_.out (by kernel_rfl)) ?_
   try go_wp2
   go_meet
   case rel => exact ((BX.out.put3 0 _ rfl).put3 10 _ rfl)
  rw [if_neg c7] at H
  have b7 : (a0_0 == 7) = false := beq_eq_false_iff_ne.mpr c7
  clear c7
  by_cases c8 : a0_0 = 8
  ·
   rw [if_pos c8] at H
   have b8 : (a0_0 == 8) = true := beq_iff_eq.mpr c8
   clear c8
   simp only [Option.bind_eq_some_iff] at H
   obtain ⟨z1, A1, x1, A2, H⟩ := H
   replace A1 := Aside0.mk A1
   replace A2 := Aside0.mk A2
   simp only [Option.some.injEq, Prod.mk.injEq] at H
   obtain ⟨rfl, rfl, rfl, rfl, rfl, rfl, rfl, rfl, rfl, rfl, rfl⟩ := H
   have k1 : w3.cell? ⟨g1, 1, none⟩ = some (.float .f64 a0_1) := (blk_cell BX.out.b1 1).trans rfl
   have k2 : w3.cell? ⟨g1, 2, none⟩ = some (.float .f64 a0_2) := (blk_cell BX.out.b1 2).trans rfl
   go_wp2_with (first | ((with_reducible refine gate_callee (f := 10) rfl ?_); refine gL_ (some 112) Tryz.func10 #[.agg #[.float .f64 a0_1, .float .f64 a0_2]] ?_; (with_reducible refine (pylonlaw02_Z_c.calls a0_1 a0_2 z1 _ A1.out).mono ?_); rintro e v1 ⟨rfl, hb⟩; refine ⟨_, rfl, ?_⟩; replace BX := Aside0.mk (BX.out.below hb); clear hb) | ((with_reducible refine gate_callee (f := 29) rfl ?_); refine gL_ (some 113) Tryz.func29 #[.complex .f64 z1.re z1.im] ?_; (with_reducible refine (pylonref02_Quadrant.calls k z1 x1 _ A2.out).mono ?_); rintro e v2 ⟨rfl, hb⟩; refine ⟨_, rfl, ?_⟩; replace BX := Aside0.mk (BX.out.below hb); clear hb; have s7 : v2.cell? ⟨g3, 7, none⟩ = some (.int .i64 0) := (blk_cell BX.out.b3 7).trans rfl; have f7 := blk_frozen BX.out.b3 7))
   go_meet
   case rel => exact (BX.out.put3 7 _ rfl)
  rw [if_neg c8] at H
  have b8 : (a0_0 == 8) = false := beq_eq_false_iff_ne.mpr c8
  clear c8
  by_cases c9 : a0_0 = 9
  ·
   rw [if_pos c9] at H
   have b9 : (a0_0 == 9) = true := beq_iff_eq.mpr c9
   clear c9
   simp only [Option.bind_eq_some_iff] at H
   obtain ⟨z1, A1, ⟨x1, x2⟩, A2, H⟩ := H
   replace A1 := Aside0.mk A1
   replace A2 := Aside0.mk A2
   simp only [Option.some.injEq, Prod.mk.injEq] at H
   obtain ⟨rfl, rfl, rfl, rfl, rfl, rfl, rfl, rfl, rfl, rfl, rfl⟩ := H
   have k1 : w3.cell? ⟨g1, 1, none⟩ = some (.float .f64 a0_1) := (blk_cell BX.out.b1 1).trans rfl
   have k2 : w3.cell? ⟨g1, 2, none⟩ = some (.float .f64 a0_2) := (blk_cell BX.out.b1 2).trans rfl
   go_wp2_with (first | ((with_reducible refine gate_callee (f := 10) rfl ?_); refine gL_ (some 120) Tryz.func10 #[.agg #[.float .f64 a0_1, .float .f64 a0_2]] ?_; (with_reducible refine (pylonlaw02_Z_c.calls a0_1 a0_2 z1 _ A1.out).mono ?_); rintro e v1 ⟨rfl, hb⟩; refine ⟨_, rfl, ?_⟩; replace BX := Aside0.mk (BX.out.below hb); clear hb) | ((with_reducible refine gate_callee (f := 30) rfl ?_); refine gL_ (some 121) Tryz.func30 #[.complex .f64 z1.re z1.im] ?_; (with_reducible refine (pylonref02_Apparent.calls k z1 x1 x2 _ A2.out).mono ?_); rintro e v2 ⟨rfl, hb⟩; refine ⟨_, rfl, ?_⟩; replace BX := Aside0.mk (BX.out.below hb); clear hb; have s5 : v2.cell? ⟨g3, 5, none⟩ = some (.int .i64 0) := (blk_cell BX.out.b3 5).trans rfl; have s10 : v2.cell? ⟨g3, 10, none⟩ = some (.int .i64 0) := (blk_cell BX.out.b3 10).trans rfl; have f5 := blk_frozen BX.out.b3 5; have f10 := blk_frozen BX.out.b3 10))
   go_meet
   case rel => exact ((BX.out.put3 5 _ rfl).put3 10 _ rfl)
  rw [if_neg c9] at H
  have b9 : (a0_0 == 9) = false := beq_eq_false_iff_ne.mpr c9
  clear c9
  by_cases c10 : a0_0 = 10
  ·
   rw [if_pos c10] at H
   have b10 : (a0_0 == 10) = true := beq_iff_eq.mpr c10
   clear c10
   simp only [Option.bind_eq_some_iff] at H
   obtain ⟨z1, A1, z2, A2, z3, A3, z4, A4, ⟨x1, x2, x3, x4, x5⟩, A5, H⟩ := H
   replace A1 := Aside0.mk A1
   replace A2 := Aside0.mk A2
   replace A3 := Aside0.mk A3
   replace A4 := Aside0.mk A4
   replace A5 := Aside0.mk A5
   simp only [Option.some.injEq, Prod.mk.injEq] at H
   obtain ⟨rfl, rfl, rfl, rfl, rfl, rfl, rfl, rfl, rfl, rfl, rfl⟩ := H
   go_wp2
   have B1 := Aside0.mk BX.out.b1
   replace BX := Aside0.mk BX.out.draw
   refine start_ (n := 21) (S := fun w' => w'.heap[g1]? = w3.heap[g1]?) (ds := []) (upT 0 21) (by kernel_rfl) rfl rfl rfl (fun hH => ?_); refine with_tabW pylonlaw02_wants.tab25 pylonlaw02_wants.bits25 (fun HT_ HW_ => ?_)
   generalize w3.drew = w4 at BX hH ⊢
   refine pq_ 0 129 (upT 1 20) HT_ ?_
   refine pq_ 3 132 #[true, false, false, true, false, false, false, false, false, false, false, false, false, false, false, false, false, false, false, false, false] HT_ ?_
   refine pq_ 6 135 #[true, false, false, true, false, false, true, false, false, false, false, false, false, false, false, false, false, false, false, false, false] HT_ ?_
   refine pq_ 9 138 #[true, false, false, true, false, false, true, false, false, true, false, false, false, false, false, false, false, false, false, false, false] HT_ ?_
   refine tk_ (.agg #[.float .f64 a0_1, .float .f64 a0_2]) 1 130 #[true, true, false, true, false, false, true, false, false, true, false, false, false, false, false, false, false, false, false, false, false] HT_ HW_ hH (Or.inl ⟨rfl, fun w' hs => ?_⟩) ?_
   · have k1 : w'.cell? ⟨g1, 1, none⟩ = some (.float .f64 a0_1) := (blk_cell (hs.trans B1.out) 1).trans rfl; have k2 : w'.cell? ⟨g1, 2, none⟩ = some (.float .f64 a0_2) := (blk_cell (hs.trans B1.out) 2).trans rfl; clear hs; go_simp; try with_reducible rfl
   refine tk_ (.agg #[.float .f64 a0_3, .float .f64 a0_4]) 4 133 #[true, true, false, true, true, false, true, false, false, true, false, false, false, false, false, false, false, false, false, false, false] HT_ HW_ hH (Or.inl ⟨rfl, fun w' hs => ?_⟩) ?_
   · have k3 : w'.cell? ⟨g1, 3, none⟩ = some (.float .f64 a0_3) := (blk_cell (hs.trans B1.out) 3).trans rfl; have k4 : w'.cell? ⟨g1, 4, none⟩ = some (.float .f64 a0_4) := (blk_cell (hs.trans B1.out) 4).trans rfl; clear hs; go_simp; try with_reducible rfl
   refine tk_ (.agg #[.float .f64 a0_5, .float .f64 a0_6]) 7 136 #[true, true, false, true, true, false, true, true, false, true, false, false, false, false, false, false, false, false, false, false, false] HT_ HW_ hH (Or.inl ⟨rfl, fun w' hs => ?_⟩) ?_
   · have k5 : w'.cell? ⟨g1, 5, none⟩ = some (.float .f64 a0_5) := (blk_cell (hs.trans B1.out) 5).trans rfl; have k6 : w'.cell? ⟨g1, 6, none⟩ = some (.float .f64 a0_6) := (blk_cell (hs.trans B1.out) 6).trans rfl; clear hs; go_simp; try with_reducible rfl
   refine tk_ (.agg #[.float .f64 a0_7, .float .f64 a0_8]) 10 139 #[true, true, false, true, true, false, true, true, false, true, true, false, false, false, false, false, false, false, false, false, false] HT_ HW_ hH (Or.inl ⟨rfl, fun w' hs => ?_⟩) ?_
   · have k7 : w'.cell? ⟨g1, 7, none⟩ = some (.float .f64 a0_7) := (blk_cell (hs.trans B1.out) 7).trans rfl; have k8 : w'.cell? ⟨g1, 8, none⟩ = some (.float .f64 a0_8) := (blk_cell (hs.trans B1.out) 8).trans rfl; clear hs; go_simp; try with_reducible rfl
   refine on_ 2 (some 131) #[true, true, true, true, true, false, true, true, false, true, true, false, false, false, false, false, false, false, false, false, false] HT_ (fun K hK => ?_)
   refine gN_ Tryz.func10 #[.agg #[.float .f64 a0_1, .float .f64 a0_2]] ?_
   with_reducible refine (pylonlaw02_Z_c.calls a0_1 a0_2 z1 _ A1.out).mono ?_
   rintro e v1 ⟨rfl, hb⟩
   refine ⟨_, rfl, ?_⟩
   replace BX := Aside0.mk (BX.out.below hb)
   clear hb
   refine hK.out _ _ (BX.out.b1.trans B1.out.symm) (fun hH => ?_)
   clear hK K
   refine nm_ 131 _ ?_
   refine on_ 5 (some 134) #[true, true, true, true, true, true, true, true, false, true, true, false, false, false, false, false, false, false, false, false, false] HT_ (fun K hK => ?_)
   refine gN_ Tryz.func10 #[.agg #[.float .f64 a0_3, .float .f64 a0_4]] ?_
   with_reducible refine (pylonlaw02_Z_c.calls a0_3 a0_4 z2 _ A2.out).mono ?_
   rintro e v2 ⟨rfl, hb⟩
   refine ⟨_, rfl, ?_⟩
   replace BX := Aside0.mk (BX.out.below hb)
   clear hb
   refine hK.out _ _ (BX.out.b1.trans B1.out.symm) (fun hH => ?_)
   clear hK K
   refine nm_ 134 _ ?_
   refine on_ 8 (some 137) (upT 11 10) HT_ (fun K hK => ?_)
   refine gN_ Tryz.func10 #[.agg #[.float .f64 a0_5, .float .f64 a0_6]] ?_
   with_reducible refine (pylonlaw02_Z_c.calls a0_5 a0_6 z3 _ A3.out).mono ?_
   rintro e v3 ⟨rfl, hb⟩
   refine ⟨_, rfl, ?_⟩
   replace BX := Aside0.mk (BX.out.below hb)
   clear hb
   refine hK.out _ _ (BX.out.b1.trans B1.out.symm) (fun hH => ?_)
   clear hK K
   refine nm_ 137 _ ?_
   refine on_ 11 (some 140) (upT 12 9) HT_ (fun K hK => ?_)
   refine gN_ Tryz.func10 #[.agg #[.float .f64 a0_7, .float .f64 a0_8]] ?_
   with_reducible refine (pylonlaw02_Z_c.calls a0_7 a0_8 z4 _ A4.out).mono ?_
   rintro e v4 ⟨rfl, hb⟩
   refine ⟨_, rfl, ?_⟩
   replace BX := Aside0.mk (BX.out.below hb)
   clear hb
   refine hK.out _ _ (BX.out.b1.trans B1.out.symm) (fun hH => ?_)
   clear hK K
   refine nm_ 140 _ ?_
   refine pq_ 12 141 (upT 13 8) HT_ ?_
   refine on_ 13 (some 142) (upT 14 7) HT_ (fun K hK => ?_)
   refine gN_ Tryz.func31 #[.agg #[.complex .f64 z1.re z1.im, .complex .f64 z2.re z2.im, .complex .f64 z3.re z3.im, .complex .f64 z4.re z4.im]] ?_
   with_reducible refine (pylonref02_Four.calls z1 z2 z3 z4 x1 x2 x3 x4 x5 _ ?side10_4_1 A5.out).mono ?_
   (case side10_4_1 => exact Go.Proofs.YtofedlghaopciaaGreatDoor.Hand.GW.on HTB.out BX.out.hb)
   rintro e v5 ⟨rfl, hb⟩
   refine ⟨_, rfl, ?_⟩
   replace BX := Aside0.mk (BX.out.below hb)
   clear hb
   refine hK.out _ _ (BX.out.b1.trans B1.out.symm) (fun hH => ?_)
   clear hK K
   refine nm_ 142 _ ?_
   refine pq_ 14 128 (upT 15 6) HT_ ?_
   refine pq_ 15 143 (upT 16 5) HT_ ?_
   refine pq_ 16 144 (upT 17 4) HT_ ?_
   refine pq_ 17 145 (upT 18 3) HT_ ?_
   have s1 : v5.cell? ⟨g3, 1, none⟩ = some (.complex .f64 0 0) := (blk_cell BX.out.b3 1).trans rfl
   have s2 : v5.cell? ⟨g3, 2, none⟩ = some (.complex .f64 0 0) := (blk_cell BX.out.b3 2).trans rfl
   have s3 : v5.cell? ⟨g3, 3, none⟩ = some (.complex .f64 0 0) := (blk_cell BX.out.b3 3).trans rfl
   have s4 : v5.cell? ⟨g3, 4, none⟩ = some (.complex .f64 0 0) := (blk_cell BX.out.b3 4).trans rfl
   have s10 : v5.cell? ⟨g3, 10, none⟩ = some (.int .i64 0) := (blk_cell BX.out.b3 10).trans rfl
   have f1 := blk_frozen BX.out.b3 1
   have f2 := blk_frozen BX.out.b3 2
   have f3 := blk_frozen BX.out.b3 3
   have f4 := blk_frozen BX.out.b3 4
   have f10 := blk_frozen BX.out.b3 10
   refine on_ 18 none (upT 19 2) HT_ (fun K hK => ?_)
   refine sk_ ?_
   refine hK.out _ _ (((((BX.out.put3 1 _ rfl).put3 2 _ rfl).put3 3 _ rfl).put3 4 _ rfl).b1.trans B1.out.symm) (fun hH => ?_)
   clear hK K
   refine pq_ 19 146 (upT 20 1) HT_ ?_
   refine on_ 20 none (upT 21 0) HT_ (fun K hK => ?_)
   refine sk_ ?_
   refine hK.out _ _ ((((((BX.out.put3 1 _ rfl).put3 2 _ rfl).put3 3 _ rfl).put3 4 _ rfl).put3 10 _ rfl).b1.trans B1.out.symm) (fun hH => ?_)
   clear hK K
   refine done_ (done_of HT_.out (by kernel_rfl)) ?_
   try go_wp2
   go_meet
   case rel => exact (((((BX.out.put3 1 _ rfl).put3 2 _ rfl).put3 3 _ rfl).put3 4 _ rfl).put3 10 _ rfl)
  rw [if_neg c10] at H
  have b10 : (a0_0 == 10) = false := beq_eq_false_iff_ne.mpr c10
  clear c10
  by_cases c11 : a0_0 = 11
  ·
   rw [if_pos c11] at H
   have b11 : (a0_0 == 11) = true := beq_iff_eq.mpr c11
   clear c11
   simp only [Option.bind_eq_some_iff] at H
   obtain ⟨z1, A1, z2, A2, z3, A3, z4, A4, ⟨x1, x2, x3, x4, x5⟩, A5, H⟩ := H
   replace A1 := Aside0.mk A1
   replace A2 := Aside0.mk A2
   replace A3 := Aside0.mk A3
   replace A4 := Aside0.mk A4
   replace A5 := Aside0.mk A5
   simp only [Option.some.injEq, Prod.mk.injEq] at H
   obtain ⟨rfl, rfl, rfl, rfl, rfl, rfl, rfl, rfl, rfl, rfl, rfl⟩ := H
   go_wp2
   have B1 := Aside0.mk BX.out.b1
   replace BX := Aside0.mk BX.out.draw
   refine start_ (n := 21) (S := fun w' => w'.heap[g1]? = w3.heap[g1]?) (ds := []) (upT 0 21) (by kernel_rfl) rfl rfl rfl (fun hH => ?_); refine with_tabW pylonlaw02_wants.tab27 pylonlaw02_wants.bits27 (fun HT_ HW_ => ?_)
   generalize w3.drew = w4 at BX hH ⊢
   refine pq_ 0 150 (upT 1 20) HT_ ?_
   refine pq_ 3 153 #[true, false, false, true, false, false, false, false, false, false, false, false, false, false, false, false, false, false, false, false, false] HT_ ?_
   refine pq_ 6 156 #[true, false, false, true, false, false, true, false, false, false, false, false, false, false, false, false, false, false, false, false, false] HT_ ?_
   refine pq_ 9 159 #[true, false, false, true, false, false, true, false, false, true, false, false, false, false, false, false, false, false, false, false, false] HT_ ?_
   refine tk_ (.agg #[.float .f64 a0_1, .float .f64 a0_2]) 1 151 #[true, true, false, true, false, false, true, false, false, true, false, false, false, false, false, false, false, false, false, false, false] HT_ HW_ hH (Or.inl ⟨rfl, fun w' hs => ?_⟩) ?_
   · have k1 : w'.cell? ⟨g1, 1, none⟩ = some (.float .f64 a0_1) := (blk_cell (hs.trans B1.out) 1).trans rfl; have k2 : w'.cell? ⟨g1, 2, none⟩ = some (.float .f64 a0_2) := (blk_cell (hs.trans B1.out) 2).trans rfl; clear hs; go_simp; try with_reducible rfl
   refine tk_ (.agg #[.float .f64 a0_3, .float .f64 a0_4]) 4 154 #[true, true, false, true, true, false, true, false, false, true, false, false, false, false, false, false, false, false, false, false, false] HT_ HW_ hH (Or.inl ⟨rfl, fun w' hs => ?_⟩) ?_
   · have k3 : w'.cell? ⟨g1, 3, none⟩ = some (.float .f64 a0_3) := (blk_cell (hs.trans B1.out) 3).trans rfl; have k4 : w'.cell? ⟨g1, 4, none⟩ = some (.float .f64 a0_4) := (blk_cell (hs.trans B1.out) 4).trans rfl; clear hs; go_simp; try with_reducible rfl
   refine tk_ (.agg #[.float .f64 a0_5, .float .f64 a0_6]) 7 157 #[true, true, false, true, true, false, true, true, false, true, false, false, false, false, false, false, false, false, false, false, false] HT_ HW_ hH (Or.inl ⟨rfl, fun w' hs => ?_⟩) ?_
   · have k5 : w'.cell? ⟨g1, 5, none⟩ = some (.float .f64 a0_5) := (blk_cell (hs.trans B1.out) 5).trans rfl; have k6 : w'.cell? ⟨g1, 6, none⟩ = some (.float .f64 a0_6) := (blk_cell (hs.trans B1.out) 6).trans rfl; clear hs; go_simp; try with_reducible rfl
   refine tk_ (.agg #[.float .f64 a0_7, .float .f64 a0_8]) 10 160 #[true, true, false, true, true, false, true, true, false, true, true, false, false, false, false, false, false, false, false, false, false] HT_ HW_ hH (Or.inl ⟨rfl, fun w' hs => ?_⟩) ?_
   · have k7 : w'.cell? ⟨g1, 7, none⟩ = some (.float .f64 a0_7) := (blk_cell (hs.trans B1.out) 7).trans rfl; have k8 : w'.cell? ⟨g1, 8, none⟩ = some (.float .f64 a0_8) := (blk_cell (hs.trans B1.out) 8).trans rfl; clear hs; go_simp; try with_reducible rfl
   refine on_ 2 (some 152) #[true, true, true, true, true, false, true, true, false, true, true, false, false, false, false, false, false, false, false, false, false] HT_ (fun K hK => ?_)
   refine gN_ Tryz.func10 #[.agg #[.float .f64 a0_1, .float .f64 a0_2]] ?_
   with_reducible refine (pylonlaw02_Z_c.calls a0_1 a0_2 z1 _ A1.out).mono ?_
   rintro e v1 ⟨rfl, hb⟩
   refine ⟨_, rfl, ?_⟩
   replace BX := Aside0.mk (BX.out.below hb)
   clear hb
   refine hK.out _ _ (BX.out.b1.trans B1.out.symm) (fun hH => ?_)
   clear hK K
   refine nm_ 152 _ ?_
   refine on_ 5 (some 155) #[true, true, true, true, true, true, true, true, false, true, true, false, false, false, false, false, false, false, false, false, false] HT_ (fun K hK => ?_)
   refine gN_ Tryz.func10 #[.agg #[.float .f64 a0_3, .float .f64 a0_4]] ?_
   with_reducible refine (pylonlaw02_Z_c.calls a0_3 a0_4 z2 _ A2.out).mono ?_
   rintro e v2 ⟨rfl, hb⟩
   refine ⟨_, rfl, ?_⟩
   replace BX := Aside0.mk (BX.out.below hb)
   clear hb
   refine hK.out _ _ (BX.out.b1.trans B1.out.symm) (fun hH => ?_)
   clear hK K
   refine nm_ 155 _ ?_
   refine on_ 8 (some 158) (upT 11 10) HT_ (fun K hK => ?_)
   refine gN_ Tryz.func10 #[.agg #[.float .f64 a0_5, .float .f64 a0_6]] ?_
   with_reducible refine (pylonlaw02_Z_c.calls a0_5 a0_6 z3 _ A3.out).mono ?_
   rintro e v3 ⟨rfl, hb⟩
   refine ⟨_, rfl, ?_⟩
   replace BX := Aside0.mk (BX.out.below hb)
   clear hb
   refine hK.out _ _ (BX.out.b1.trans B1.out.symm) (fun hH => ?_)
   clear hK K
   refine nm_ 158 _ ?_
   refine on_ 11 (some 161) (upT 12 9) HT_ (fun K hK => ?_)
   refine gN_ Tryz.func10 #[.agg #[.float .f64 a0_7, .float .f64 a0_8]] ?_
   with_reducible refine (pylonlaw02_Z_c.calls a0_7 a0_8 z4 _ A4.out).mono ?_
   rintro e v4 ⟨rfl, hb⟩
   refine ⟨_, rfl, ?_⟩
   replace BX := Aside0.mk (BX.out.below hb)
   clear hb
   refine hK.out _ _ (BX.out.b1.trans B1.out.symm) (fun hH => ?_)
   clear hK K
   refine nm_ 161 _ ?_
   refine pq_ 12 162 (upT 13 8) HT_ ?_
   refine on_ 13 (some 163) (upT 14 7) HT_ (fun K hK => ?_)
   refine gN_ Tryz.func32 #[.agg #[.complex .f64 z1.re z1.im, .complex .f64 z2.re z2.im, .complex .f64 z3.re z3.im, .complex .f64 z4.re z4.im]] ?_
   with_reducible refine (pylonref02_Back.calls z1 z2 z3 z4 x1 x2 x3 x4 x5 _ ?side11_4_1 A5.out).mono ?_
   (case side11_4_1 => exact Go.Proofs.YtofedlghaopciaaGreatDoor.Hand.GW.on HTB.out BX.out.hb)
   rintro e v5 ⟨rfl, hb⟩
   refine ⟨_, rfl, ?_⟩
   replace BX := Aside0.mk (BX.out.below hb)
   clear hb
   refine hK.out _ _ (BX.out.b1.trans B1.out.symm) (fun hH => ?_)
   clear hK K
   refine nm_ 163 _ ?_
   refine pq_ 14 149 (upT 15 6) HT_ ?_
   refine pq_ 15 164 (upT 16 5) HT_ ?_
   refine pq_ 16 165 (upT 17 4) HT_ ?_
   refine pq_ 17 166 (upT 18 3) HT_ ?_
   have s1 : v5.cell? ⟨g3, 1, none⟩ = some (.complex .f64 0 0) := (blk_cell BX.out.b3 1).trans rfl
   have s2 : v5.cell? ⟨g3, 2, none⟩ = some (.complex .f64 0 0) := (blk_cell BX.out.b3 2).trans rfl
   have s3 : v5.cell? ⟨g3, 3, none⟩ = some (.complex .f64 0 0) := (blk_cell BX.out.b3 3).trans rfl
   have s4 : v5.cell? ⟨g3, 4, none⟩ = some (.complex .f64 0 0) := (blk_cell BX.out.b3 4).trans rfl
   have s10 : v5.cell? ⟨g3, 10, none⟩ = some (.int .i64 0) := (blk_cell BX.out.b3 10).trans rfl
   have f1 := blk_frozen BX.out.b3 1
   have f2 := blk_frozen BX.out.b3 2
   have f3 := blk_frozen BX.out.b3 3
   have f4 := blk_frozen BX.out.b3 4
   have f10 := blk_frozen BX.out.b3 10
   refine on_ 18 none (upT 19 2) HT_ (fun K hK => ?_)
   refine sk_ ?_
   refine hK.out _ _ (((((BX.out.put3 1 _ rfl).put3 2 _ rfl).put3 3 _ rfl).put3 4 _ rfl).b1.trans B1.out.symm) (fun hH => ?_)
   clear hK K
   refine pq_ 19 167 (upT 20 1) HT_ ?_
   refine on_ 20 none (upT 21 0) HT_ (fun K hK => ?_)
   refine sk_ ?_
   refine hK.out _ _ ((((((BX.out.put3 1 _ rfl).put3 2 _ rfl).put3 3 _ rfl).put3 4 _ rfl).put3 10 _ rfl).b1.trans B1.out.symm) (fun hH => ?_)
   clear hK K
   refine done_ (done_of HT_.out (by kernel_rfl)) ?_
   try go_wp2
   go_meet
   case rel => exact (((((BX.out.put3 1 _ rfl).put3 2 _ rfl).put3 3 _ rfl).put3 4 _ rfl).put3 10 _ rfl)
  rw [if_neg c11] at H
  have b11 : (a0_0 == 11) = false := beq_eq_false_iff_ne.mpr c11
  clear c11
  by_cases c12 : a0_0 = 12
  ·
   rw [if_pos c12] at H
   have b12 : (a0_0 == 12) = true := beq_iff_eq.mpr c12
   clear c12
   simp only [Option.bind_eq_some_iff] at H
   obtain ⟨z1, A1, ⟨x1, x2⟩, A2, H⟩ := H
   replace A1 := Aside0.mk A1
   replace A2 := Aside0.mk A2
   simp only [Option.some.injEq, Prod.mk.injEq] at H
   obtain ⟨rfl, rfl, rfl, rfl, rfl, rfl, rfl, rfl, rfl, rfl, rfl⟩ := H
   have k1 : w3.cell? ⟨g1, 1, none⟩ = some (.float .f64 a0_1) := (blk_cell BX.out.b1 1).trans rfl
   have k2 : w3.cell? ⟨g1, 2, none⟩ = some (.float .f64 a0_2) := (blk_cell BX.out.b1 2).trans rfl
   go_wp2_with (first | ((with_reducible refine gate_callee (f := 10) rfl ?_); refine gL_ (some 173) Tryz.func10 #[.agg #[.float .f64 a0_1, .float .f64 a0_2]] ?_; (with_reducible refine (pylonlaw02_Z_c.calls a0_1 a0_2 z1 _ A1.out).mono ?_); rintro e v1 ⟨rfl, hb⟩; refine ⟨_, rfl, ?_⟩; replace BX := Aside0.mk (BX.out.below hb); clear hb) | ((with_reducible refine gate_callee (f := 33) rfl ?_); refine gL_ (some 174) Tryz.func33 #[.complex .f64 z1.re z1.im] ?_; (with_reducible refine (pylonref02_Text.calls k z1 x1 x2 _ A2.out).mono ?_); rintro e v2 ⟨rfl, hb⟩; refine ⟨_, rfl, ?_⟩; replace BX := Aside0.mk (BX.out.below hb); clear hb; have s9 : v2.cell? ⟨g3, 9, none⟩ = some (.string (⟨#[]⟩ : ByteArray)) := (blk_cell BX.out.b3 9).trans rfl; have s10 : v2.cell? ⟨g3, 10, none⟩ = some (.int .i64 0) := (blk_cell BX.out.b3 10).trans rfl; have f9 := blk_frozen BX.out.b3 9; have f10 := blk_frozen BX.out.b3 10))
   go_meet
   case rel => exact ((BX.out.put3 9 _ rfl).put3 10 _ rfl)
  rw [if_neg c12] at H
  have b12 : (a0_0 == 12) = false := beq_eq_false_iff_ne.mpr c12
  clear c12
  by_cases c13 : a0_0 = 13
  ·
   rw [if_pos c13] at H
   have b13 : (a0_0 == 13) = true := beq_iff_eq.mpr c13
   clear c13
   simp only [Option.bind_eq_some_iff] at H
   obtain ⟨⟨x1, x2⟩, A1, H⟩ := H
   replace A1 := Aside0.mk A1
   simp only [Option.some.injEq, Prod.mk.injEq] at H
   obtain ⟨rfl, rfl, rfl, rfl, rfl, rfl, rfl, rfl, rfl, rfl, rfl⟩ := H
   have k14 : w3.cell? ⟨g1, 14, none⟩ = some (.string a0_14) := (blk_cell BX.out.b1 14).trans rfl
   go_wp2_with (first | ((with_reducible refine gate_callee (f := 34) rfl ?_); refine gL_ (some 184) Tryz.func34 #[.string a0_14] ?_; (with_reducible refine (pylonref02_Read.calls k a0_14 x1 x2 _ A1.out).mono ?_); rintro e v1 ⟨rfl, hb⟩; refine ⟨_, rfl, ?_⟩; replace BX := Aside0.mk (BX.out.below hb); clear hb; have s0 : v1.cell? ⟨g3, 0, none⟩ = some (.complex .f64 0 0) := (blk_cell BX.out.b3 0).trans rfl; have s10 : v1.cell? ⟨g3, 10, none⟩ = some (.int .i64 0) := (blk_cell BX.out.b3 10).trans rfl; have f0 := blk_frozen BX.out.b3 0; have f10 := blk_frozen BX.out.b3 10))
   go_meet
   case rel => exact ((BX.out.put3 0 _ rfl).put3 10 _ rfl)
  rw [if_neg c13] at H
  have b13 : (a0_0 == 13) = false := beq_eq_false_iff_ne.mpr c13
  clear c13
  simp only [Option.some.injEq, Prod.mk.injEq] at H
  obtain ⟨rfl, rfl, rfl, rfl, rfl, rfl, rfl, rfl, rfl, rfl, rfl⟩ := H
  go_wp2
  go_meet
  case rel => exact BX.out
 case rest =>
  clear H k0 BX
  have BX := Aside0.mk hcut
  clear hcut
  have s0 : wc.cell? ⟨g3, 0, none⟩ = some (.complex .f64 r1.re r1.im) := (blk_cell BX.out.b3 0).trans rfl
  have s1 : wc.cell? ⟨g3, 1, none⟩ = some (.complex .f64 r2.re r2.im) := (blk_cell BX.out.b3 1).trans rfl
  have s2 : wc.cell? ⟨g3, 2, none⟩ = some (.complex .f64 r3.re r3.im) := (blk_cell BX.out.b3 2).trans rfl
  have s3 : wc.cell? ⟨g3, 3, none⟩ = some (.complex .f64 r4.re r4.im) := (blk_cell BX.out.b3 3).trans rfl
  have s4 : wc.cell? ⟨g3, 4, none⟩ = some (.complex .f64 r5.re r5.im) := (blk_cell BX.out.b3 4).trans rfl
  have s5 : wc.cell? ⟨g3, 5, none⟩ = some (.int .i64 r6) := (blk_cell BX.out.b3 5).trans rfl
  have s6 : wc.cell? ⟨g3, 6, none⟩ = some (.int .i64 r7) := (blk_cell BX.out.b3 6).trans rfl
  have s7 : wc.cell? ⟨g3, 7, none⟩ = some (.int .i64 r8) := (blk_cell BX.out.b3 7).trans rfl
  have s8 : wc.cell? ⟨g3, 8, none⟩ = some (.bool r9) := (blk_cell BX.out.b3 8).trans rfl
  have s9 : wc.cell? ⟨g3, 9, none⟩ = some (.string r10) := (blk_cell BX.out.b3 9).trans rfl
  have s10 : wc.cell? ⟨g3, 10, none⟩ = some (.int .i64 r11) := (blk_cell BX.out.b3 10).trans rfl
  have t0 : wc.cell? ⟨g2, 0, none⟩ = some (.complex .f64 0 0) := (blk_cell BX.out.b2 0).trans rfl
  have t1 : wc.cell? ⟨g2, 1, none⟩ = some (.complex .f64 0 0) := (blk_cell BX.out.b2 1).trans rfl
  have t2 : wc.cell? ⟨g2, 2, none⟩ = some (.complex .f64 0 0) := (blk_cell BX.out.b2 2).trans rfl
  have t3 : wc.cell? ⟨g2, 3, none⟩ = some (.complex .f64 0 0) := (blk_cell BX.out.b2 3).trans rfl
  have t4 : wc.cell? ⟨g2, 4, none⟩ = some (.complex .f64 0 0) := (blk_cell BX.out.b2 4).trans rfl
  have t5 : wc.cell? ⟨g2, 5, none⟩ = some (.int .i64 0) := (blk_cell BX.out.b2 5).trans rfl
  have t6 : wc.cell? ⟨g2, 6, none⟩ = some (.int .i64 0) := (blk_cell BX.out.b2 6).trans rfl
  have t7 : wc.cell? ⟨g2, 7, none⟩ = some (.int .i64 0) := (blk_cell BX.out.b2 7).trans rfl
  have t8 : wc.cell? ⟨g2, 8, none⟩ = some (.bool false) := (blk_cell BX.out.b2 8).trans rfl
  have t9 : wc.cell? ⟨g2, 9, none⟩ = some (.string (⟨#[]⟩ : ByteArray)) := (blk_cell BX.out.b2 9).trans rfl
  have t10 : wc.cell? ⟨g2, 10, none⟩ = some (.int .i64 0) := (blk_cell BX.out.b2 10).trans rfl
  have f0 := blk_frozen BX.out.b2 0
  have f1 := blk_frozen BX.out.b2 1
  have f2 := blk_frozen BX.out.b2 2
  have f3 := blk_frozen BX.out.b2 3
  have f4 := blk_frozen BX.out.b2 4
  have f5 := blk_frozen BX.out.b2 5
  have f6 := blk_frozen BX.out.b2 6
  have f7 := blk_frozen BX.out.b2 7
  have f8 := blk_frozen BX.out.b2 8
  have f9 := blk_frozen BX.out.b2 9
  have f10 := blk_frozen BX.out.b2 10
  go_wp2
  refine bodyPost_ret (results_cell_row rfl _ _ g2 29 #[.complex .f64 r1.re r1.im, .complex .f64 r2.re r2.im, .complex .f64 r3.re r3.im, .complex .f64 r4.re r4.im, .complex .f64 r5.re r5.im, .int .i64 r6, .int .i64 r7, .int .i64 r8, .bool r9, .string r10, .int .i64 r11] (0, 0) _ rfl BX.out.fill.b2 Tryz.underlying29 rfl (by kernel_rfl)) rfl ?_
  exact ⟨rfl, BX.out.fill.hb⟩
end Go.Proofs.YtofedlghaopciaaGreatDoor.PA
