/- How the arguments of a law are opened: what the reading of a value tells of its cells, by kinds (numbers, bools, strings, floats, structs, slices of these). -/
import Derived.Laws.FloatArith
import Derived.SizedLaws
import Derived.DataReads
import Derived.Test.YtofedlghaopciaaWWords
import Derived.Test.YtofedlghaopciaaXExt
import Derived.Test.YtofedlghaopciaaXFlo
set_option linter.unusedVariables false
set_option linter.unusedSimpArgs false
namespace Go.Proofs.YtofedlghaopciaaW.PrintWords
open Go
/-- Reading cells as a value of type t tells: they are the cells of something of the kind d, and what 'ok' says of it. -/
def Opens (P : Program) (w : World) (t : TypeId) {α : Type} (d : Kd α) (ok : α → Prop) : Prop :=
  ∀ (H : Type) (enc : TypeId × Value → H) (fuel : Nat) (cs : List Value) (x : DataW H × List MemPlace),
    DataW.trod enc P w 0 (fun _ => true) true fuel t cs = some x → (∀ n ∈ x.1.weights P t, n ≤ reachBytes) → ∃ a, d.K w a cs ∧ ok a
section
variable {P : Program} {w : World} {t : TypeId}
theorem opens_int {k : IntKind} (ht : P.underlying t = some (.int k)) : Opens P w t (Kd.int k) (fun n => (Lit.int k n).wf = true) := by
  intro H enc fuel cs x h hw
  cases fuel with
  | zero => simp [DataW.trod] at h
  | succ n =>
    simp only [DataW.trod, ht] at h
    split at h <;> try (first | (cases h; done) | simp_all; done)
    rename_i k1 k2 m he
    injection he with he
    injection he with he
    subst he
    by_cases hc : k2 = k ∧ (Lit.int k m).wf = true
    · obtain ⟨rfl, hc⟩ := hc
      exact ⟨m, rfl, hc⟩
    · simp [hc] at h
theorem opens_bool (ht : P.underlying t = some .bool) : Opens P w t Kd.bool (fun _ => True) := by
  intro H enc fuel cs x h hw
  cases fuel with
  | zero => simp [DataW.trod] at h
  | succ n =>
    simp only [DataW.trod, ht] at h
    split at h <;> try (first | (cases h; done) | simp_all; done)
    rename_i b _
    exact ⟨b, rfl, trivial⟩
theorem opens_string (ht : P.underlying t = some .string) : Opens P w t Kd.string (fun s => s.size ≤ 140737488351232) := by
  intro H enc fuel cs x h hw
  cases fuel with
  | zero => simp [DataW.trod] at h
  | succ n =>
    simp only [DataW.trod, ht] at h
    split at h <;> try (first | (cases h; done) | simp_all; done)
    rename_i s _
    split at h
    · injection h with h
      subst h
      have h1 := hw s.data.toList.length (by simp [DataW.weights])
      refine ⟨s, rfl, ?_⟩
      have h2 : s.size = s.data.toList.length := (Array.length_toList).symm
      show s.size ≤ 140737488351232
      rw [h2]
      exact h1
    · cases h
theorem opens_float {k : FloatKind} (ht : P.underlying t = some (.float k)) : Opens P w t (Kd.scalar (Value.float k) (fun _ => rfl)) (fun b => (Lit.float k b).wf = true) := by
  intro H enc fuel cs x h hw
  cases fuel with
  | zero => simp [DataW.trod] at h
  | succ n =>
    simp only [DataW.trod, ht] at h
    split at h <;> try (first | (cases h; done) | simp_all; done)
    rename_i k1 k2 m he
    injection he with he
    injection he with he
    subst he
    by_cases hc : k2 = k ∧ (Lit.float k m).wf = true
    · obtain ⟨rfl, hc⟩ := hc
      exact ⟨m, rfl, hc⟩
    · simp [hc] at h
theorem opens_imp {α : Type} {d : Kd α} {ok ok' : α → Prop} (h : Opens P w t d ok) (hi : ∀ a, ok a → ok' a) : Opens P w t d ok' := by
  intro H enc fuel cs x hx hw
  obtain ⟨a, hk, ho⟩ := h H enc fuel cs x hx hw
  exact ⟨a, hk, hi a ho⟩
theorem opens_iso {α β : Type} {d : Kd α} {ok : α → Prop} (f : β → α) (g : α → β) (hg : ∀ a, f (g a) = a) (h : Opens P w t d ok) : Opens P w t (Kd.iso d f) (fun b => ok (f b)) := by
  intro H enc fuel cs x hx hw
  obtain ⟨a, hk, ho⟩ := h H enc fuel cs x hx hw
  exact ⟨g a, by show d.K w (f (g a)) cs; rw [hg]; exact hk, by show ok (f (g a)); rw [hg]; exact ho⟩
theorem mapM_split {α β : Type} {f : α → Option β} {a : α} {l : List α} {r : List β} (h : (a :: l).mapM f = some r) : ∃ y ys, r = y :: ys ∧ f a = some y ∧ l.mapM f = some ys := by
  rw [List.mapM_cons] at h
  cases h1 : f a with
  | none => simp [h1] at h
  | some y =>
    cases h2 : l.mapM f with
    | none => simp [h1, h2] at h
    | some ys =>
      simp [h1, h2] at h
      exact ⟨y, ys, h.symm, rfl, rfl⟩
theorem mapM_at {α β : Type} {f : α → Option β} : ∀ {l : List α} {r : List β}, l.mapM f = some r → r.length = l.length ∧ ∀ (i : Nat) (a : α), l[i]? = some a → ∃ y, r[i]? = some y ∧ f a = some y
  | [], r, h => by
    simp at h
    subst h
    exact ⟨rfl, fun i a hi => by simp at hi⟩
  | a :: l, r, h => by
    obtain ⟨y, ys, rfl, h1, h2⟩ := mapM_split h
    obtain ⟨h3, h4⟩ := mapM_at h2
    refine ⟨by simp [h3], fun i b hi => ?_⟩
    cases i with
    | zero =>
      simp at hi
      subst hi
      exact ⟨y, by simp, h1⟩
    | succ i =>
      simp at hi
      obtain ⟨z, hz, hf⟩ := h4 i b hi
      exact ⟨z, by simpa using hz, hf⟩
theorem cells_some {a : Addr} {n : Nat} {cs : List Value} (h : w.cells? 0 a n = some cs) : cs.length = n ∧ ∀ i u, cs[i]? = some u → w.cell? (a.add i) = some u := by
  unfold World.cells? at h
  rw [if_pos (Nat.zero_le _)] at h
  obtain ⟨h1, h2⟩ := mapM_at h
  refine ⟨by simpa using h1, fun i u hu => ?_⟩
  have hi : i < n := by
    have := (List.getElem?_eq_some_iff.1 hu).1
    simpa [h1] using this
  obtain ⟨y, hy, hf⟩ := h2 i i (by simp [List.getElem?_range hi])
  rw [hy] at hu
  injection hu with hu
  subst hu
  exact hf
theorem weights_all {H : Type} {P : Program} {e : TypeId} : ∀ {l : List (DataW H)} {d : DataW H}, d ∈ l → ∀ n ∈ d.weights P e, n ∈ DataW.weightsAll P e l
  | x :: l, d, hd, n, hn => by
    simp only [DataW.weightsAll, List.mem_append]
    rcases List.mem_cons.1 hd with rfl | hd
    · exact Or.inl hn
    · exact Or.inr (weights_all hd n hn)
  | [], d, hd, n, hn => by simp at hd
/-- A list of all that a list of numbers points to. -/
theorem list_of {β : Type} {Q : Nat → β → Prop} : ∀ (n : Nat), (∀ i, i < n → ∃ b, Q i b) → ∃ l : List β, l.length = n ∧ ∀ i b, l[i]? = some b → Q i b
  | 0, _ => ⟨[], rfl, fun i b h => by simp at h⟩
  | n + 1, h => by
    obtain ⟨l, h1, h2⟩ := list_of n (fun i hi => h i (by omega))
    obtain ⟨b, hb⟩ := h n (by omega)
    refine ⟨l ++ [b], by simp [h1], fun i c hc => ?_⟩
    by_cases hi : i < l.length
    · rw [List.getElem?_append_left hi] at hc
      exact h2 i c hc
    · rw [List.getElem?_append_right (by omega)] at hc
      have h3 : i - l.length = 0 := by
        have := (List.getElem?_eq_some_iff.1 hc).1
        simp at this
        omega
      rw [h3] at hc
      simp at hc
      subst hc
      have : i = n := by omega
      subst this
      exact hb
theorem opens_slice {α : Type} {d : Kd α} {ok : α → Prop} {e : TypeId} (ht : P.underlying t = some (.slice e)) {B : Nat} (hB : P.bytesOf e = B) (hsz : P.cellsOf e = d.sz) (he : Opens P w e d ok) :
    Opens P w t (Kd.slice e d) (fun xs => xs.length * B ≤ 140737488351232 ∧ ∀ x ∈ xs, ok x) := by
  intro H enc fuel cs x h hw
  cases fuel with
  | zero => simp [DataW.trod] at h
  | succ n =>
    simp only [DataW.trod, ht] at h
    split at h <;> try (first | (cases h; done) | simp_all; done)
    · refine ⟨[], ⟨none, 0, rfl, Nat.le_refl _, rfl, by simp, fun h0 => absurd h0 (by simp)⟩, by simp, fun x hx => by simp at hx⟩
    · rename_i e' ad len cap he'
      injection he' with he'
      injection he' with he'
      subst he'
      split at h
      · rename_i hcap
        obtain ⟨elems, h1, h⟩ := Option.bind_eq_some_iff.1 h
        obtain ⟨rest, h2, h⟩ := Option.map_eq_some_iff.1 h
        subst h
        obtain ⟨hl, hg⟩ := mapM_at h1
        have hl' : elems.length = len := by simpa using hl
        have hwt : (elems.length + rest.length) * P.bytesOf e ≤ reachBytes := hw _ (by simp [DataW.weights, ht])
        have hwl : len * B ≤ 140737488351232 := by
          rw [← hB, ← hl']
          exact Nat.le_trans (Nat.mul_le_mul_right _ (Nat.le_add_right _ _)) hwt
        have hel : ∀ i, i < len → ∃ a : α, (∃ c : List Value, c.length = d.sz ∧ d.K w a c ∧ ∀ j u, c[j]? = some u → w.cell? (ad.add (i * d.sz + j)) = some u) ∧ ok a := by
          intro i hi
          obtain ⟨y, hy, hf⟩ := hg i i (by simp [List.getElem?_range hi])
          obtain ⟨c, hc, hf⟩ := Option.bind_eq_some_iff.1 hf
          obtain ⟨hcl, hcc⟩ := cells_some hc
          have hym : y ∈ elems := List.mem_of_getElem? hy
          obtain ⟨a, hk, ho⟩ := he H enc n c y hf (fun m hm => hw m (by
            simp only [DataW.weights, ht, List.mem_cons, List.mem_append]
            exact Or.inr (Or.inl (weights_all (List.mem_map.2 ⟨y, hym, rfl⟩) m hm))))
          refine ⟨a, ⟨c, by rw [hcl, hsz], hk, fun j u hu => ?_⟩, ho⟩
          rw [← hsz, ← add_add]
          exact hcc j u hu
        obtain ⟨xs, hxl, hxs⟩ := list_of len hel
        have hmax : len ≤ 9223372036854775807 := by
          have h1 := hcap.2.1
          have h2 := hcap.2.2
          simp only [maxLen] at h2
          omega
        refine ⟨xs, ⟨some ad, cap, by rw [hxl], by rw [hxl]; exact hcap.2.1, rfl, by rw [hxl]; exact hmax, fun _ => ⟨ad, rfl, fun j p hp => ?_⟩⟩, by rw [hxl]; exact hwl, fun x hx => ?_⟩
        · exact (hxs j p hp).1
        · obtain ⟨i, hi⟩ := List.getElem?_of_mem hx
          exact (hxs i x hi).2
      · cases h
/-- The fields of a struct from an offset on. -/
def FieldsOpen (P : Program) (w : World) (fs : List Field) (off : Nat) {α : Type} (d : Kd α) (ok : α → Prop) : Prop :=
  ∀ (H : Type) (enc : TypeId × Value → H) (fuel : Nat) (cs : List Value) (xs : List (DataW H × List MemPlace)),
    fs.mapM (fun f => DataW.trod enc P w 0 (fun _ => true) true fuel f.type ((cs.drop f.offset).take (P.cellsOf f.type))) = some xs → cs.length = off + d.sz →
    (∀ n ∈ DataW.weightsEach P (fs.map (·.type)) (xs.map (·.1)), n ≤ reachBytes) → ∃ a, d.K w a (cs.drop off) ∧ ok a
theorem fields_one {f : Field} {off : Nat} {α : Type} {d : Kd α} {ok : α → Prop} (ho : f.offset = off) (hsz : P.cellsOf f.type = d.sz) (h : Opens P w f.type d ok) : FieldsOpen P w [f] off d ok := by
  intro H enc fuel cs xs hx hl hw
  obtain ⟨y, ys, rfl, h1, h2⟩ := mapM_split hx
  have e : ((cs.drop f.offset).take (P.cellsOf f.type)) = cs.drop off := by
    rw [ho, hsz]
    exact List.take_of_length_le (by rw [List.length_drop]; omega)
  rw [e] at h1
  exact h H enc fuel _ y h1 (fun n hn => hw n (by simp only [List.map_cons, DataW.weightsEach, List.mem_append]; exact Or.inl hn))
theorem fields_cons {f : Field} {fs : List Field} {off : Nat} {α β : Type} {d : Kd α} {d' : Kd β} {ok : α → Prop} {ok' : β → Prop} (ho : f.offset = off) (hsz : P.cellsOf f.type = d.sz) (h : Opens P w f.type d ok) (hr : FieldsOpen P w fs (off + d.sz) d' ok') :
    FieldsOpen P w (f :: fs) off (Kd.pair d d') (fun x => ok x.1 ∧ ok' x.2) := by
  intro H enc fuel cs xs hx hl hw
  obtain ⟨y, ys, rfl, h1, h2⟩ := mapM_split hx
  have hl' : cs.length = off + (d.sz + d'.sz) := hl
  rw [ho, hsz] at h1
  obtain ⟨a, ha, oa⟩ := h H enc fuel _ y h1 (fun n hn => hw n (by simp only [List.map_cons, DataW.weightsEach, List.mem_append]; exact Or.inl hn))
  obtain ⟨b, hb, ob⟩ := hr H enc fuel cs ys h2 (by omega) (fun n hn => hw n (by simp only [List.map_cons, DataW.weightsEach, List.mem_append]; exact Or.inr hn))
  refine ⟨(a, b), ⟨_, _, ?_, ha, hb⟩, oa, ob⟩
  rw [← List.drop_drop, List.take_append_drop]
theorem opens_struct {α : Type} {d : Kd α} {ok : α → Prop} {fs : Array Field} (ht : P.underlying t = some (.struct fs)) (hsz : P.cellsOf t = d.sz) (h : FieldsOpen P w fs.toList 0 d ok) : Opens P w t d ok := by
  intro H enc fuel cs x hx hw
  cases fuel with
  | zero => simp [DataW.trod] at hx
  | succ n =>
    have hx' := hx
    simp only [DataW.trod, ht] at hx
    by_cases hc : cs.length = P.cellsOf t
    · simp only [hc, if_true] at hx
      obtain ⟨ys, h1, h2⟩ := Option.map_eq_some_iff.1 hx
      subst h2
      obtain ⟨a, ha, oa⟩ := h H enc n cs ys h1 (by rw [hc, hsz]; omega) (fun m hm => hw m (by simp only [DataW.weights, ht]; exact hm))
      exact ⟨a, by simpa using ha, oa⟩
    · simp [hc] at hx
/-- An argument, opened. -/
theorem opens_arg {H : Type} {enc : TypeId × Value → H} {α : Type} {d : Kd α} {ok : α → Prop} {v : Value} {x : DataW H} {ps : List MemPlace} {ts : List TypeId} {ds : List (DataW H)} {j : Nat}
    (h : Opens P w t d ok) (hsz : (DataW.weightsEach P ts ds).all (· ≤ reachBytes) = true) (ht : ts[j]? = some t) (hd : ds[j]? = some x)
    (hx : DataW.Trod enc P w 0 (fun _ => true) true t v x ps) : ∃ a, d.K w a v.cells.toList ∧ ok a := by
  obtain ⟨fuel, hf⟩ := hx
  exact h H enc fuel _ _ hf (fun n hn => by
    have := List.all_eq_true.1 hsz n (DataW.weights_mem_each ht hd n hn)
    simpa using this)
/-- The value of an argument that is no struct: one cell. -/
theorem arg_one {v u : Value} (hv : v.cells = #[v]) (h : v.cells.toList = [u]) : v = u := by
  rw [hv] at h
  simpa using h
/-- The value of a struct: its cells. -/
theorem arg_agg {fs : Array Field} {W : World} {r : Reach} {b0 : Nat} {v : Value} (ht : P.underlying t = some (.struct fs)) (hval : Value.okWide P W r b0 t v) : ∃ cs, v = .agg cs ∧ v.cells = cs := by
  simp only [Value.okWide, ht] at hval
  obtain ⟨cs, rfl, _⟩ := hval
  exact ⟨cs, rfl, rfl⟩
theorem agg_eq {cs : Array Value} {l : List Value} (h : cs.toList = l) : Value.agg cs = .agg l.toArray := by
  subst h
  simp
end
end Go.Proofs.YtofedlghaopciaaW.PrintWords
