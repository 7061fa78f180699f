/- PhasorPhases holds: the power of the phases of two lists together is the sum of both powers; one phase is Power, two are Aron. -/
import Derived.Test.YtapimggcnneabaaPhasorLH
import Derived.Test.YtapimggcnneabaaPHx3
set_option linter.unusedVariables false
set_option linter.unusedSimpArgs false
namespace Go.Proofs.Ytapimggcnneabaa.Pure
open Go.RowKit Go.Proofs.Ytapimggcnneabaa.PH Go.Proofs.Ytapimggcnneabaa.PureH Go.Proofs.Ytapimggcnneabaa.Num Go.Proofs.Ytapimggcnneabaa.Flt Go.Proofs.YtapimggcnneabaaW.PrintWords Go.Proofs.YtapimggcnneabaaW.PrintLast Go.Proofs.YtapimggcnneabaaW.PrintMore

theorem ceq_zero : ceq (cx 0 0).re (cx 0 0).im 0 0 = true := by
  rw [ceq_is is_zero is_zero is_zero is_zero]
  rfl
theorem one_of {l : List Cx} (h : l.length = 1) : ∃ z, l = [z] := by
  match l, h with
  | [z], _ => exact ⟨z, rfl⟩
theorem aron_ok {u v i j : Cx} (g : PGood (u, i)) (g2 : PGood (v, j)) (b1 : Bits u) (b2 : Bits v) (b3 : Bits i) (b4 : Bits j) : ∃ z, phasor_Aron.f u v i j = some (z, 0) ∧ IsT z.re (pRe (u, i) + pRe (v, j)) ∧ IsT z.im (pIm (u, i) + pIm (v, j)) := by
  obtain ⟨p, e, p1, p2, p3, p4⟩ := pair_ok g b1 b3
  obtain ⟨q, f, q1, q2, q3, q4⟩ := pair_ok g2 b2 b4
  obtain ⟨ok, r, m⟩ := caddT_is p1 p2 q1 q2 (by omega) (by omega)
  refine ⟨cx (caddre p.re p.im q.re q.im) (caddim p.re p.im q.re q.im), ?_, r, m⟩
  unfold phasor_Aron.f
  simp only at e f
  rw [e, f]
  simp only [Option.bind_some, if_true, ok]

/-- The law's last test. -/
theorem last_ok {u i v j : List Cx} {p both : Cx} (hlen : u.length = i.length) (hlen2 : v.length = j.length) (bu : ∀ z ∈ u, Bits z) (bi : ∀ z ∈ i, Bits z) (bv : ∀ z ∈ v, Bits z) (bj : ∀ z ∈ j, Bits z)
    (g : ∀ p ∈ u.zip i, PGood p) (g2 : ∀ p ∈ v.zip j, PGood p) (hp : IsT p.re (sRe (u.zip i))) (hp2 : IsT p.im (sIm (u.zip i)))
    (hb : IsT both.re (sRe (u.zip i) + sRe (v.zip j))) (hb2 : IsT both.im (sIm (u.zip i) + sIm (v.zip j))) : Ev (fun k => pylonlaw02_PhasorPhases.j2 k u i v j p both false) true := by
  refine Ev.shift ?_
  simp only [pylonlaw02_PhasorPhases.j2, Bool.false_eq_true, if_false]
  by_cases h1 : u.length = 1
  · by_cases h2 : v.length = 1
    · obtain ⟨x, rfl⟩ := one_of h1
      obtain ⟨y, rfl⟩ := one_of h2
      obtain ⟨x', rfl⟩ := one_of (hlen.symm.trans h1)
      obtain ⟨y', rfl⟩ := one_of (hlen2.symm.trans h2)
      have gx : PGood (x, x') := g _ (by simp)
      have gy : PGood (y, y') := g2 _ (by simp)
      have b1 := bu x (by simp)
      have b2 := bi x' (by simp)
      have b3 := bv y (by simp)
      have b4 := bj y' (by simp)
      obtain ⟨w, e, w1, w2, _, _⟩ := pair_ok gx b1 b2
      obtain ⟨a, f, a1, a2⟩ := aron_ok gx gy b1 b3 b2 b4
      have sx : sRe ([x].zip [x']) = pRe (x, x') := by simp [sRe]
      have sy : sRe ([y].zip [y']) = pRe (y, y') := by simp [sRe]
      have tx : sIm ([x].zip [x']) = pIm (x, x') := by simp [sIm]
      have ty : sIm ([y].zip [y']) = pIm (y, y') := by simp [sIm]
      rw [sx] at hp hb
      rw [tx] at hp2 hb2
      rw [sy] at hb
      rw [ty] at hb2
      have c1 : ceq w.re w.im p.re p.im = true := ceq_top (.inl w1) (.inl w2) hp hp2
      have c2 : ceq a.re a.im both.re both.im = true := ceq_top a1 a2 hb hb2
      have r1 : ∀ z : Cx, rdOf (cx 0 0) [z] 0 = z := fun z => rfl
      refine Ev.shift ?_
      simp only at e
      simp only [List.length_cons, List.length_nil, r1]
      simp only [pylonlaw02_PhasorPhases.j3]
      simp only [List.length_cons, List.length_nil, r1, e, f, Option.bind_some, c1, c2]
      exact Ev.ofEq (by simp)
    · simp only [if_pos (show (u.length : Int) = 1 by omega), show ((v.length : Int) == 1) = false from beq_eq_false_iff_ne.mpr (by omega)]
      refine Ev.shift ?_
      simp only [pylonlaw02_PhasorPhases.j3, Bool.false_eq_true, if_false]
      exact Ev.now _
  · simp only [if_neg (show ¬ (u.length : Int) = 1 by omega)]
    refine Ev.shift ?_
    simp only [pylonlaw02_PhasorPhases.j3, Bool.false_eq_true, if_false]
    exact Ev.now _

set_option maxHeartbeats 1000000 in
theorem phases_j {l0 l1 l2 l3 : List S105} (h01 : l0.length = l1.length) (h23 : l2.length = l3.length) (h0 : l0.length ≤ 2) (h2 : l2.length ≤ 2)
    (k0 : ∀ y ∈ l0, okS105 y) (k1 : ∀ y ∈ l1, okS105 y) (k2 : ∀ y ∈ l2, okS105 y) (k3 : ∀ y ∈ l3, okS105 y) : Ev (fun k => pylonlaw02_PhasorPhases.j0 k l0 l1 l2 l3 false) true := by
  have n0 := numbers_f (l := l0) (by omega) (by omega)
  have n1 := numbers_f (l := l1) (by omega) (by omega)
  have n2 := numbers_f (l := l2) (by omega) (by omega)
  have n3 := numbers_f (l := l3) (by omega) (by omega)
  have b0 := bits_conv k0
  have b1 := bits_conv k1
  have b2 := bits_conv k2
  have b3 := bits_conv k3
  have e0 : (l0.map conv).length = l0.length := List.length_map ..
  have e1 : (l1.map conv).length = l1.length := List.length_map ..
  have e2 : (l2.map conv).length = l2.length := List.length_map ..
  have e3 : (l3.map conv).length = l3.length := List.length_map ..
  generalize l0.map conv = u at *
  generalize l1.map conv = i at *
  generalize l2.map conv = v at *
  generalize l3.map conv = j at *
  have hz : (u ++ v).zip (i ++ j) = u.zip i ++ v.zip j := List.zip_append (by omega)
  have A := phases_f (u := u) (v := i) (by omega) (by omega) b0 b1
  have B := phases_f (u := v) (v := j) (by omega) (by omega) b2 b3
  have C := phases_f (u := u ++ v) (v := i ++ j) (by simp; omega) (by simp; omega) (fun z hz => (List.mem_append.mp hz).elim (b0 z) (b2 z)) (fun z hz => (List.mem_append.mp hz).elim (b1 z) (b3 z))
  rw [hz, sRe_app, sIm_app] at C
  have hall : (∀ p ∈ u.zip i ++ v.zip j, PGood p) ↔ (∀ p ∈ u.zip i, PGood p) ∧ (∀ p ∈ v.zip j, PGood p) := List.forall_mem_append
  rw [hall] at C
  -- what both lists' powers answer
  have key : ∃ rp rq rb : Cx × Int, Ev (fun k => phasor_Phases.f k u i) rp ∧ Ev (fun k => phasor_Phases.f k v j) rq ∧ Ev (fun k => phasor_Phases.f k (u ++ v) (i ++ j)) rb ∧
      Ev (fun k => if rp.2 = 0 then pylonlaw02_PhasorPhases.j1 k u i v j rp.1 rp.2 rq.1 rq.2 rb.1 rb.2 (rq.2 != 0) else pylonlaw02_PhasorPhases.j1 k u i v j rp.1 rp.2 rq.1 rq.2 rb.1 rb.2 true) true := by
    by_cases gA : ∀ p ∈ u.zip i, PGood p
    · obtain ⟨p, ep, p1, p2, p3, p4⟩ := A.1 gA
      by_cases gB : ∀ p ∈ v.zip j, PGood p
      · obtain ⟨q, eq, q1, q2, q3, q4⟩ := B.1 gB
        obtain ⟨b, eb, c1, c2, _, _⟩ := C.1 ⟨gA, gB⟩
        refine ⟨(p, 0), (q, 0), (b, 0), ep, eq, eb, ?_⟩
        simp only [if_true, bne_self_eq_false]
        obtain ⟨ok, s1, s2⟩ := caddT_is (p1.small (by omega)) (p2.small (by omega)) (q1.small (by omega)) (q2.small (by omega)) (by omega) (by omega)
        have c : ceq b.re b.im (caddre p.re p.im q.re q.im) (caddim p.re p.im q.re q.im) = true := ceq_top c1 c2 s1 s2
        refine Ev.shift ?_
        simp only [pylonlaw02_PhasorPhases.j1, Bool.false_eq_true, if_false, if_true, ok, c, Bool.not_true]
        exact last_ok (by omega) (by omega) b0 b1 b2 b3 gA gB p1 p2 c1 c2
      · have eq := B.2 gB
        have eb := C.2 (fun h => gB h.2)
        refine ⟨(p, 0), (cx 0 0, 5), (cx 0 0, 5), ep, eq, eb, ?_⟩
        simp only [if_true]
        refine Ev.shift ?_
        simp only [pylonlaw02_PhasorPhases.j1, if_true, ceq_zero]
        exact Ev.ofEq (by simp)
    · have ep := A.2 gA
      have eb := C.2 (fun h => gA h.1)
      by_cases gB : ∀ p ∈ v.zip j, PGood p
      · obtain ⟨q, eq, _⟩ := B.1 gB
        refine ⟨(cx 0 0, 5), (q, 0), (cx 0 0, 5), ep, eq, eb, ?_⟩
        refine Ev.shift ?_
        simp only [pylonlaw02_PhasorPhases.j1, if_true, ceq_zero]
        exact Ev.ofEq (by simp)
      · have eq := B.2 gB
        refine ⟨(cx 0 0, 5), (cx 0 0, 5), (cx 0 0, 5), ep, eq, eb, ?_⟩
        refine Ev.shift ?_
        simp only [pylonlaw02_PhasorPhases.j1, if_true, ceq_zero]
        exact Ev.ofEq (by simp)
  obtain ⟨rp, rq, rb, ep, eq, eb, fin⟩ := key
  refine Ev.shift ?_
  simp only [pylonlaw02_PhasorPhases.j0, Bool.false_eq_true, if_false]
  refine ev_bind n0 (ev_bind n1 (ev_bind n2 (ev_bind n3 (ev_bind ep (ev_bind eq ?_)))))
  simp only [Option.bind_some, List.nil_append, List.length_nil]
  simp only [if_pos (show 0 + u.length < 8796093022208 by omega), if_pos (show u.length + v.length < 8796093022208 by omega), if_pos (show 0 + i.length < 8796093022208 by omega), if_pos (show i.length + j.length < 8796093022208 by omega)]
  exact ev_bind eb fin

theorem PhasorPhases : pylonlaw02_PhasorPhases.Pure := by
  intro l0 l1 l2 l3 h0 h1 h2 h3
  have yes : Ev (fun k => pylonlaw02_PhasorPhases.j0 k l0 l1 l2 l3 true) true := by
    refine Ev.shift ?_
    simp only [pylonlaw02_PhasorPhases.j0, if_true]
    exact Ev.now _
  refine ev_ex (r := true) ?_
  unfold pylonlaw02_PhasorPhases.f
  simp only [awake_ok, Option.bind_some, if_true]
  by_cases c1 : (l0.length : Int) = (l1.length : Int)
  · by_cases c2 : (l2.length : Int) = (l3.length : Int)
    · simp only [if_pos c1, if_pos c2]
      by_cases c3 : (l0.length : Int) > 2
      · simp only [if_pos c3]
        exact yes
      · simp only [if_neg c3]
        by_cases c4 : (l2.length : Int) > 2
        · rw [decide_eq_true c4]
          exact yes
        · rw [decide_eq_false c4]
          exact phases_j (by omega) (by omega) (by omega) (by omega) h0.2 h1.2 h2.2 h3.2
    · simp only [if_pos c1, if_neg c2]
      exact yes
  · simp only [if_neg c1]
    exact yes
end Go.Proofs.Ytapimggcnneabaa.Pure
