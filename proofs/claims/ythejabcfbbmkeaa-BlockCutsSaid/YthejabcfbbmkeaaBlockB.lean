/- Layer 17: what the printed functions of block and of the reference answer. -/
import Derived.Test.YthejabcfbbmkeaaRefSumB
import Derived.Test.YthejabcfbbmkeaaPBx2
import Derived.Test.YthejabcfbbmkeaaPBx4
import Derived.Test.YthejabcfbbmkeaaPBx5
import Derived.Test.YthejabcfbbmkeaaPBx7
import Derived.Test.YthejabcfbbmkeaaPBx8
import Derived.KernelRfl
set_option linter.unusedVariables false
set_option linter.unusedSimpArgs false
namespace Go.Proofs.Ythejabcfbbmkeaa.PureB
open Go.RowKit Go.Proofs.Ythejabcfbbmkeaa.PB Go.Proofs.Ythejabcfbbmkeaa.Num Go.Proofs.YthejabcfbbmkeaaW.PrintWords Go.Proofs.YthejabcfbbmkeaaW.PrintLast Go.Proofs.YthejabcfbbmkeaaW.PrintMore

theorem awake_some : pylonlaw17_awake.f 1000 = some true := by kernel_rfl
theorem awake_ev : Ev (fun k => pylonlaw17_awake.f k) true := Ev.of pylonlaw17_awake.mono awake_some

theorem rdT_mid {p t : List S35} {s : S35} {i : Int} (hi : i = p.length) : rd_T35 (p ++ s :: t) i = s := by
  subst hi; simp [rd_T35]
def rateOk (s : S35) : Bool := decide (-10000000 ≤ s.f1) && decide (s.f1 ≤ 10000000)
/-- Are steps good that begin above b? -/
def gB (b : Int) : List S35 → Bool
  | [] => false
  | [s] => rateOk s && s.f0 == 0
  | s :: r :: t => rateOk s && (decide (b < s.f0) && (decide (s.f0 ≤ 500000000000000) && gB s.f0 (r :: t)))
def goodL (l : List S35) : Bool := decide ((l.length : Int) ≤ 64) && gB 0 l
theorem gB_last : ∀ (t p : List S35) (b : Int), gB b t = true → (rd_T35 (p ++ t) (((p ++ t).length : Int) - 1)).f0 = 0
  | [], _, _, h => by simp [gB] at h
  | [s], p, b, h => by
    simp only [gB, Bool.and_eq_true, beq_iff_eq] at h
    rw [rdT_mid (by simp)]
    exact h.2
  | s :: r :: t, p, b, h => by
    simp only [gB, Bool.and_eq_true] at h
    have := gB_last (r :: t) (p ++ [s]) s.f0 h.2.2.2
    simpa using this

/-! ### Good -/
theorem good_l0 : ∀ (t p : List S35) {l : List S35} {b i : Int}, l = p ++ t → i = p.length → t ≠ [] → (l.length : Int) ≤ 64 → 0 ≤ b → (i = 0 → b = 0) → (0 < i → (rd_T35 l (i - 1)).f0 = b) → (rd_T35 l ((l.length : Int) - 1)).f0 = 0 →
    Ev (fun k => block_Good.l0 k l l (l.length : Int) i) (gB b t)
  | [], _, _, _, _, _, _, h, _, _, _, _, _ => absurd rfl h
  | s :: t, p, l, b, i, hl, hi, _, hn, hb, hb0, hb1, hz => by
    have hlt : i < (l.length : Int) := by subst hl; simp; omega
    have hrd : rd_T35 l i = s := by subst hl; exact rdT_mid hi
    have el : wrap64 ((l.length : Int) - 1) = (l.length : Int) - 1 := i64in (by omega) (by omega)
    have ei : wrap64 (i + 1) = i + 1 := i64in (by omega) (by omega)
    have J : ∀ (x : Bool), x = !rateOk s → Ev (fun k => block_Good.j2 k l i l (l.length : Int) i x s.f0 s.f1) (gB b (s :: t)) := by
      intro x hx
      refine Ev.shift ?_
      simp only [block_Good.j2, el, ei]
      cases hr : rateOk s
      · rw [hr] at hx
        subst hx
        have : gB b (s :: t) = false := by cases t <;> simp [gB, hr]
        rw [this]
        simp only [Bool.not_false, if_true]
        exact Ev.now _
      · rw [hr] at hx
        subst hx
        simp only [Bool.not_true, Bool.false_eq_true, if_false]
        cases t with
        | nil =>
          have e : i = (l.length : Int) - 1 := by subst hl; simp; omega
          rw [e] at hrd
          rw [hrd] at hz
          simp only [if_pos e, gB, hr, hz]
          exact Ev.now _
        | cons r t =>
          have e : ¬ i = (l.length : Int) - 1 := by subst hl; simp; omega
          simp only [if_neg e, gB, hr, Bool.true_and]
          by_cases h1 : s.f0 < 1
          · simp only [if_pos h1, decide_eq_false (show ¬ b < s.f0 by omega), Bool.false_and]
            exact Ev.now _
          · simp only [if_neg h1]
            by_cases h2 : s.f0 > 500000000000000
            · simp only [if_pos h2, decide_eq_false (show ¬ s.f0 ≤ 500000000000000 by omega), Bool.false_and, Bool.and_false]
              exact Ev.now _
            · simp only [if_neg h2, decide_eq_true (show s.f0 ≤ 500000000000000 by omega), Bool.true_and]
              have IH := good_l0 (r :: t) (p ++ [s]) (l := l) (b := s.f0) (i := i + 1) (by subst hl; simp) (by simp; omega) (by simp) hn (by omega) (by omega) (fun _ => by rw [show i + 1 - 1 = i by omega, hrd]) hz
              by_cases h3 : i > 0
              · have e2 : wrap64 (i - 1) = i - 1 := i64in (by omega) (by omega)
                simp only [if_pos h3, e2, if_pos (show 0 ≤ i - 1 by omega), if_pos (show i - 1 < (l.length : Int) by omega), hb1 h3]
                by_cases h4 : s.f0 ≤ b
                · simp only [if_pos h4, decide_eq_false (show ¬ b < s.f0 by omega), Bool.false_and]
                  exact Ev.now _
                · simp only [if_neg h4, decide_eq_true (show b < s.f0 by omega), Bool.true_and]
                  exact IH
              · simp only [if_neg h3, decide_eq_true (show b < s.f0 by have := hb0 (by omega); omega), Bool.true_and]
                exact IH
    refine Ev.shift ?_
    simp only [block_Good.l0, if_pos hlt, if_pos (show 0 ≤ i by omega), hrd]
    by_cases h : s.f1 < -10000000
    · simp only [if_pos h]
      exact J true (by unfold rateOk; rw [decide_eq_false (show ¬ -10000000 ≤ s.f1 by omega)]; rfl)
    · simp only [if_neg h]
      refine J _ ?_
      unfold rateOk
      rw [decide_eq_true (show -10000000 ≤ s.f1 by omega)]
      by_cases h2 : s.f1 > 10000000
      · rw [decide_eq_true h2, decide_eq_false (show ¬ s.f1 ≤ 10000000 by omega)]; rfl
      · rw [decide_eq_false h2, decide_eq_true (show s.f1 ≤ 10000000 by omega)]; rfl
theorem good_f {l : List S35} (hn : (l.length : Int) ≤ 140737488355328) : Ev (fun k => block_Good.f k l) (goodL l) := by
  have bad : goodL l = false → Ev (fun k => block_Good.j0 k l true) (goodL l) := by
    intro h
    refine Ev.shift ?_
    simp only [block_Good.j0, if_true, h]
    exact Ev.now _
  unfold block_Good.f
  have el : wrap64 ((l.length : Int) - 1) = (l.length : Int) - 1 := i64in (by omega) (by omega)
  by_cases h0 : (l.length : Int) = 0
  · simp only [if_pos h0]
    refine bad ?_
    have : l = [] := List.length_eq_zero_iff.1 (by omega)
    subst this
    simp [goodL, gB]
  · simp only [if_neg h0]
    by_cases h1 : (l.length : Int) > 64
    · simp only [if_pos h1]
      refine bad ?_
      unfold goodL
      rw [decide_eq_false (by omega)]; rfl
    · simp only [if_neg h1, el, if_pos (show 0 ≤ (l.length : Int) - 1 by omega), if_pos (show (l.length : Int) - 1 < l.length by omega)]
      have hne : l ≠ [] := by intro h; subst h; simp at h0
      by_cases hz : (rd_T35 l ((l.length : Int) - 1)).f0 = 0
      · rw [hz]
        refine Ev.shift ?_
        simp only [block_Good.j0, show ((0 : Int) != 0) = false by decide, Bool.false_eq_true, if_false]
        have := good_l0 l [] (l := l) (b := 0) (i := 0) rfl rfl hne (by omega) (by omega) (fun _ => rfl) (by omega) hz
        unfold goodL
        rw [decide_eq_true (by omega), Bool.true_and]
        exact this
      · rw [show ((rd_T35 l ((l.length : Int) - 1)).f0 != 0) = true by simpa using hz]
        refine bad ?_
        unfold goodL
        rw [decide_eq_true (by omega), Bool.true_and, Bool.eq_false_iff]
        intro hg
        exact hz (by simpa using gB_last l [] 0 hg)
theorem refgood_l0 : ∀ (t p : List S35) {l : List S35} {b i : Int}, l = p ++ t → i = p.length → t ≠ [] → (l.length : Int) ≤ 64 →
    Ev (fun k => pylonref17_Good.l0 k l b (l.length : Int) i) (gB b t)
  | [], _, _, _, _, _, _, h, _ => absurd rfl h
  | s :: t, p, l, b, i, hl, hi, _, hn => by
    have hlt : i < (l.length : Int) := by subst hl; simp; omega
    have hrd : rd_T35 l i = s := by subst hl; exact rdT_mid hi
    have el : wrap64 ((l.length : Int) - 1) = (l.length : Int) - 1 := i64in (by omega) (by omega)
    have ei : wrap64 (i + 1) = i + 1 := i64in (by omega) (by omega)
    have J : ∀ (x : Bool), x = !rateOk s → Ev (fun k => pylonref17_Good.j2 k l b i (l.length : Int) i x s.f0 s.f1) (gB b (s :: t)) := by
      intro x hx
      refine Ev.shift ?_
      simp only [pylonref17_Good.j2, el, ei]
      cases hr : rateOk s
      · rw [hr] at hx
        subst hx
        have : gB b (s :: t) = false := by cases t <;> simp [gB, hr]
        rw [this]
        simp only [Bool.not_false, if_true]
        exact Ev.now _
      · rw [hr] at hx
        subst hx
        simp only [Bool.not_true, Bool.false_eq_true, if_false]
        cases t with
        | nil =>
          have e : i = (l.length : Int) - 1 := by subst hl; simp; omega
          simp only [if_pos e, gB, hr, Bool.true_and]
          exact Ev.now _
        | cons r t =>
          have e : ¬ i = (l.length : Int) - 1 := by subst hl; simp; omega
          simp only [if_neg e, gB, hr, Bool.true_and]
          by_cases h1 : s.f0 ≤ b
          · simp only [if_pos h1, decide_eq_false (show ¬ b < s.f0 by omega), Bool.false_and]
            exact Ev.now _
          · simp only [if_neg h1, decide_eq_true (show b < s.f0 by omega), Bool.true_and]
            by_cases h2 : s.f0 > 500000000000000
            · simp only [if_pos h2, decide_eq_false (show ¬ s.f0 ≤ 500000000000000 by omega), Bool.false_and]
              exact Ev.now _
            · simp only [if_neg h2, decide_eq_true (show s.f0 ≤ 500000000000000 by omega), Bool.true_and]
              exact refgood_l0 (r :: t) (p ++ [s]) (l := l) (b := s.f0) (i := i + 1) (by subst hl; simp) (by simp; omega) (by simp) hn
    refine Ev.shift ?_
    simp only [pylonref17_Good.l0, if_pos hlt, if_pos (show 0 ≤ i by omega), hrd]
    by_cases h : s.f1 < -10000000
    · simp only [if_pos h]
      exact J true (by unfold rateOk; rw [decide_eq_false (show ¬ -10000000 ≤ s.f1 by omega)]; rfl)
    · simp only [if_neg h]
      refine J _ ?_
      unfold rateOk
      rw [decide_eq_true (show -10000000 ≤ s.f1 by omega)]
      by_cases h2 : s.f1 > 10000000
      · rw [decide_eq_true h2, decide_eq_false (show ¬ s.f1 ≤ 10000000 by omega)]; rfl
      · rw [decide_eq_false h2, decide_eq_true (show s.f1 ≤ 10000000 by omega)]; rfl
theorem refgood_f {l : List S35} (hn : (l.length : Int) ≤ 140737488355328) : Ev (fun k => pylonref17_Good.f k l) (goodL l) := by
  have bad : goodL l = false → Ev (fun k => pylonref17_Good.j0 k l true) (goodL l) := by
    intro h
    refine Ev.shift ?_
    simp only [pylonref17_Good.j0, if_true, h]
    exact Ev.now _
  unfold pylonref17_Good.f
  by_cases h0 : (l.length : Int) < 1
  · simp only [if_pos h0]
    refine bad ?_
    have : l = [] := List.length_eq_zero_iff.1 (by omega)
    subst this
    simp [goodL, gB]
  · simp only [if_neg h0]
    by_cases h1 : (l.length : Int) > 64
    · rw [decide_eq_true h1]
      refine bad ?_
      unfold goodL
      rw [decide_eq_false (by omega)]; rfl
    · rw [decide_eq_false h1]
      have hne : l ≠ [] := by intro h; subst h; simp at h0
      refine Ev.shift ?_
      simp only [pylonref17_Good.j0, Bool.false_eq_true, if_false]
      have := refgood_l0 l [] (l := l) (b := 0) (i := 0) rfl rfl hne (by omega)
      unfold goodL
      rw [decide_eq_true (by omega), Bool.true_and]
      exact this

/-! ### Parts -/
/-- What each step takes, from b on. -/
def pR (wh b : Int) : List S35 → List Int
  | [] => []
  | [s] => [mx 0 (mn wh 500000000000000 - b)]
  | s :: r :: t => mx 0 (mn wh s.f0 - b) :: pR wh s.f0 (r :: t)
def partsA (l : List S35) (wh : Int) : List Int × Int := if goodL l = true then (if 0 ≤ wh ∧ wh ≤ 500000000000000 then (pR wh 0 l, 0) else ([], 5)) else ([], 2)
theorem pR_length : ∀ (wh b : Int) (t : List S35), (pR wh b t).length = t.length
  | _, _, [] => rfl
  | _, _, [_] => rfl
  | wh, b, s :: r :: t => by simp [pR, pR_length wh s.f0 (r :: t)]
theorem pR_sum : ∀ {wh b : Int} {t : List S35}, gB b t = true → b ≤ 500000000000000 → 0 ≤ b → 0 ≤ wh → wh ≤ 500000000000000 → (pR wh b t).sum = mx 0 (wh - b) ∧ ∀ q ∈ pR wh b t, 0 ≤ q
  | _, _, [], h, _, _, _, _ => by simp [gB] at h
  | wh, b, [s], h, h1, h2, h3, h4 => by
    simp only [pR, List.sum_cons, List.sum_nil, List.mem_singleton, forall_eq]
    unfold mx mn
    constructor <;> repeat' split
    all_goals omega
  | wh, b, s :: r :: t, h, h1, h2, h3, h4 => by
    simp only [gB, Bool.and_eq_true, decide_eq_true_eq] at h
    have IH := pR_sum h.2.2.2 h.2.2.1 (by omega) h3 h4
    have hb := h.2.1
    simp only [pR, List.sum_cons, List.mem_cons, forall_eq_or_imp]
    refine ⟨?_, ?_, IH.2⟩
    · rw [IH.1]; unfold mx mn; repeat' split
      all_goals omega
    · unfold mx; split <;> omega
theorem set_mid {acc : List Int} {n : Nat} {u v i : Int} (hi : i = acc.length) : (acc ++ u :: List.replicate n 0).set i.toNat v = acc ++ v :: List.replicate n 0 := by
  subst hi; simp
theorem parts_end {x : List Int} {L : Int} {l : List S35} {a b i n : Int} (h : ¬ i < n) : Ev (fun k => block_Parts.l0 k x a b l n i) (x, 0) := by
  refine Ev.shift ?_
  simp only [block_Parts.l0, if_neg h]
  exact Ev.now _
theorem parts_l0 : ∀ (t p : List S35) (acc : List Int) {l : List S35} {wh b i : Int}, l = p ++ t → i = p.length → acc.length = p.length → (l.length : Int) ≤ 64 → gB b t = true → 0 ≤ b → b ≤ 500000000000000 → 0 ≤ wh → wh ≤ 500000000000000 →
    Ev (fun k => block_Parts.l0 k (acc ++ List.replicate t.length 0) (mx 0 (wh - b)) b l (l.length : Int) i) (acc ++ pR wh b t, 0)
  | [], _, _, _, _, _, _, _, _, _, _, h, _, _, _, _ => by simp [gB] at h
  | s :: t, p, acc, l, wh, b, i, hl, hi, ha, hn, hg, hb, hbm, hw, hwm => by
    have hlt : i < (l.length : Int) := by subst hl; simp; omega
    have hrd : rd_T35 l i = s := by subst hl; exact rdT_mid hi
    have ei : wrap64 (i + 1) = i + 1 := i64in (by omega) (by omega)
    have hia : i = acc.length := by omega
    have hlen : i < ((acc ++ List.replicate (s :: t).length 0).length : Int) := by simp; omega
    refine Ev.shift ?_
    simp only [block_Parts.l0, if_pos hlt, if_pos (show 0 ≤ i by omega), hrd, if_pos hlen, Option.bind_some, ei]
    have e1 : ∀ v : Int, (acc ++ List.replicate (s :: t).length 0).set i.toNat v = acc ++ v :: List.replicate t.length 0 := fun v => by
      rw [List.length_cons, List.replicate_succ]; exact set_mid hia
    simp only [e1]
    cases t with
    | nil =>
      simp only [gB, Bool.and_eq_true, beq_iff_eq] at hg
      have e : i + 1 = (l.length : Int) := by subst hl; simp; omega
      simp only [if_pos hg.2, pR]
      have ev : mx 0 (wh - b) = mx 0 (mn wh 500000000000000 - b) := by unfold mn; rw [if_neg (by omega)]
      rw [← ev]
      exact parts_end (L := 0) (by omega)
    | cons r t =>
      simp only [gB, Bool.and_eq_true, decide_eq_true_eq] at hg
      obtain ⟨_, hg1, hg2, hg3⟩ := hg
      have er : ∀ v : Int, rd (acc ++ v :: List.replicate (r :: t).length 0) i = v := fun v => rd_mid hia
      have es : ∀ u v : Int, (acc ++ u :: List.replicate (r :: t).length 0).set i.toNat v = acc ++ v :: List.replicate (r :: t).length 0 := fun u v => set_mid hia
      have eu : wrap64 (s.f0 - b) = s.f0 - b := i64in (by omega) (by omega)
      have ep : mn (mx 0 (wh - b)) (s.f0 - b) = mx 0 (mn wh s.f0 - b) := by (unfold mx mn; (repeat' split) <;> omega)
      have eL : wrap64 (mx 0 (wh - b) - mx 0 (mn wh s.f0 - b)) = mx 0 (wh - s.f0) := by
        rw [i64in (by unfold mx mn; (repeat' split) <;> omega) (by unfold mx mn; (repeat' split) <;> omega)]
        unfold mx mn
        (repeat' split) <;> omega
      simp only [if_neg (show ¬ s.f0 = 0 by omega), es, er, eu, ep, eL]
      have IH := parts_l0 (r :: t) (p ++ [s]) (acc ++ [mx 0 (mn wh s.f0 - b)]) (l := l) (wh := wh) (b := s.f0) (i := i + 1) (by subst hl; simp) (by simp; omega) (by simp; omega) hn hg3 (by omega) hg2 hw hwm
      simpa [pR] using IH
theorem parts_f {l : List S35} {wh : Int} (hn : (l.length : Int) ≤ 140737488355328) (h0 : -9223372036854775808 ≤ wh) (h1 : wh ≤ 9223372036854775807) : Ev (fun k => block_Parts.f k l wh) (partsA l wh) := by
  unfold block_Parts.f partsA
  refine Ev.bind (good_f hn) ?_
  cases hg : goodL l
  · simp only [Bool.false_eq_true, if_false]
    exact Ev.now _
  · simp only [if_true]
    have hl : (l.length : Int) ≤ 64 := by unfold goodL at hg; simp only [Bool.and_eq_true, decide_eq_true_eq] at hg; exact hg.1
    have hgB : gB 0 l = true := by unfold goodL at hg; simp only [Bool.and_eq_true] at hg; exact hg.2
    have bad : ¬ (0 ≤ wh ∧ wh ≤ 500000000000000) → Ev (fun k => block_Parts.j0 k l wh true) (if 0 ≤ wh ∧ wh ≤ 500000000000000 then (pR wh 0 l, 0) else ([], 5)) := by
      intro h
      rw [if_neg h]
      refine Ev.shift ?_
      simp only [block_Parts.j0, if_true]
      exact Ev.now _
    by_cases a : wh < 0
    · simp only [if_pos a]; exact bad (by omega)
    · simp only [if_neg a]
      by_cases c : wh > 500000000000000
      · rw [decide_eq_true c]; exact bad (by omega)
      · rw [decide_eq_false c, if_pos (by omega)]
        refine Ev.shift ?_
        simp only [block_Parts.j0, Bool.false_eq_true, if_false, if_pos (show (0 : Int) ≤ (l.length : Int) by omega), Int.toNat_natCast, if_pos (show l.length ≤ 35184372088832 by omega)]
        have := parts_l0 l [] [] (l := l) (wh := wh) (b := 0) (i := 0) rfl rfl rfl hl hgB (by omega) (by omega) (by omega) (by omega)
        simp only [List.nil_append, Int.sub_zero] at this
        rw [show mx 0 wh = wh by unfold mx; split <;> omega] at this
        exact this
theorem refparts_end {x : List Int} {l : List S35} {wh b i n : Int} (h : ¬ i < n) : Ev (fun k => pylonref17_Parts.l0 k l wh x b n i) (x, 0) := by
  refine Ev.shift ?_
  simp only [pylonref17_Parts.l0, if_neg h]
  exact Ev.now _
theorem refparts_l0 : ∀ (t p : List S35) (acc : List Int) {l : List S35} {wh b i : Int}, l = p ++ t → i = p.length → acc.length = p.length → (l.length : Int) ≤ 64 → gB b t = true → 0 ≤ b → b ≤ 500000000000000 → 0 ≤ wh → wh ≤ 500000000000000 →
    Ev (fun k => pylonref17_Parts.l0 k l wh acc b (l.length : Int) i) (acc ++ pR wh b t, 0)
  | [], _, _, _, _, _, _, _, _, _, _, h, _, _, _, _ => by simp [gB] at h
  | s :: t, p, acc, l, wh, b, i, hl, hi, ha, hn, hg, hb, hbm, hw, hwm => by
    have hlt : i < (l.length : Int) := by subst hl; simp; omega
    have hrd : rd_T35 l i = s := by subst hl; exact rdT_mid hi
    have ei : wrap64 (i + 1) = i + 1 := i64in (by omega) (by omega)
    have el : wrap64 ((l.length : Int) - 1) = (l.length : Int) - 1 := i64in (by omega) (by omega)
    refine Ev.shift ?_
    simp only [pylonref17_Parts.l0, if_pos hlt, if_pos (show 0 ≤ i by omega), hrd, el, ei, if_pos (show acc.length < 17592186044416 by omega)]
    cases t with
    | nil =>
      have e : i = (l.length : Int) - 1 := by subst hl; simp; omega
      have eu : wrap64 (mn wh 500000000000000 - b) = mn wh 500000000000000 - b := by unfold mn; split <;> exact i64in (by omega) (by omega)
      simp only [if_pos e, eu, pR]
      exact refparts_end (by omega)
    | cons r t =>
      simp only [gB, Bool.and_eq_true, decide_eq_true_eq] at hg
      obtain ⟨_, hg1, hg2, hg3⟩ := hg
      have e : ¬ i = (l.length : Int) - 1 := by subst hl; simp; omega
      have eu : wrap64 (mn wh s.f0 - b) = mn wh s.f0 - b := by unfold mn; split <;> exact i64in (by omega) (by omega)
      simp only [if_neg e, eu]
      have IH := refparts_l0 (r :: t) (p ++ [s]) (acc ++ [mx 0 (mn wh s.f0 - b)]) (l := l) (wh := wh) (b := s.f0) (i := i + 1) (by subst hl; simp) (by simp; omega) (by simp; omega) hn hg3 (by omega) hg2 hw hwm
      simpa [pR] using IH
theorem refparts_f {l : List S35} {wh : Int} (hn : (l.length : Int) ≤ 140737488355328) : Ev (fun k => pylonref17_Parts.f k l wh) (partsA l wh) := by
  unfold pylonref17_Parts.f partsA
  refine Ev.bind (refgood_f hn) ?_
  cases hg : goodL l
  · simp only [Bool.false_eq_true, if_false]
    exact Ev.now _
  · simp only [if_true]
    have hl : (l.length : Int) ≤ 64 := by unfold goodL at hg; simp only [Bool.and_eq_true, decide_eq_true_eq] at hg; exact hg.1
    have hgB : gB 0 l = true := by unfold goodL at hg; simp only [Bool.and_eq_true] at hg; exact hg.2
    have bad : ¬ (0 ≤ wh ∧ wh ≤ 500000000000000) → Ev (fun k => pylonref17_Parts.j0 k l wh true) (if 0 ≤ wh ∧ wh ≤ 500000000000000 then (pR wh 0 l, 0) else ([], 5)) := by
      intro h
      rw [if_neg h]
      refine Ev.shift ?_
      simp only [pylonref17_Parts.j0, if_true]
      exact Ev.now _
    by_cases a : wh < 0
    · simp only [if_pos a]; exact bad (by omega)
    · simp only [if_neg a]
      by_cases c : wh > 500000000000000
      · rw [decide_eq_true c]; exact bad (by omega)
      · rw [decide_eq_false c, if_pos (by omega)]
        refine Ev.shift ?_
        simp only [pylonref17_Parts.j0, Bool.false_eq_true, if_false]
        exact refparts_l0 l [] [] (l := l) (wh := wh) (b := 0) (i := 0) rfl rfl rfl hl hgB (by omega) (by omega) (by omega) (by omega)
theorem energy_f {n : Int} (h0 : -9223372036854775808 ≤ n) (h1 : n ≤ 9223372036854775807) : ∃ e, pylonlaw17_energy.f n = some e ∧ 0 ≤ e ∧ e ≤ 500000000000000 := by
  unfold pylonlaw17_energy.f
  rw [IntKind.wrap_u64, tmodn (by omega)]
  exact ⟨_, rfl, by rw [i64in (by omega) (by omega)]; omega, by rw [i64in (by omega) (by omega)]; omega⟩
end Go.Proofs.Ythejabcfbbmkeaa.PureB
