/- Words of our own: an argument of any kind, opened: what its cells are as plain Lean data, with the bounds that the row's reach gives. -/
import Derived.Test.YtgpldjckohlkfaaWMore
import Derived.Deep.Slices
import Derived.SizedLaws
import Derived.WideShapes
namespace Go.Proofs.YtgpldjckohlkfaaOpn
open Go.RowKit Go.Proofs.YtgpldjckohlkfaaW.PrintWords Go.ChangeShapes Go.WideShapes Go.Deep
set_option linter.unusedVariables false

/-- Whatever reads at type t within the reach is of kind d, and meets wf. -/
def Opn {H : Type} (enc : TypeId × Value → H) (P : Program) (w : World) {α : Type} (d : Kd α) (t : TypeId) (wf : α → Prop) : Prop :=
  d.sz = P.cellsOf t ∧ ∀ (base : Nat) (spare : Nat → Bool) (held : Bool) (fuel : Nat) (cs : List Value) (x : DataW H × List MemPlace), DataW.trod enc P w base spare held fuel t cs = some x → (∀ n ∈ x.1.weights P t, n ≤ reachBytes) → ∃ a : α, d.K w a cs ∧ wf a
section
variable {H : Type} {enc : TypeId × Value → H} {P : Program} {w : World} {t e : TypeId}
theorem opn_int {k : IntKind} (ht : P.underlying t = some (.int k)) (hc : P.cellsOf t = 1) : Opn enc P w (Kd.int k) t (fun a => (Lit.int k a).wf = true) :=
  ⟨hc.symm, fun base spare held fuel cs x h hw => by
    obtain ⟨n, rfl, _, hwf⟩ := DataW.trod_int ht h
    exact ⟨n, rfl, hwf⟩⟩
theorem opn_bool (ht : P.underlying t = some .bool) (hc : P.cellsOf t = 1) : Opn enc P w Kd.bool t (fun _ => True) :=
  ⟨hc.symm, fun base spare held fuel cs x h hw => by
    obtain ⟨b, rfl, _⟩ := DataW.trod_bool ht h
    exact ⟨b, rfl, trivial⟩⟩
theorem opn_string (ht : P.underlying t = some .string) (hc : P.cellsOf t = 1) : Opn enc P w Kd.string t (fun a => a.size ≤ 140737488351232) :=
  ⟨hc.symm, fun base spare held fuel cs x h hw => by
    obtain ⟨s, rfl, rfl, _⟩ := DataW.trod_string ht h
    refine ⟨s, rfl, ?_⟩
    have := hw s.data.toList.length (by simp [DataW.weights])
    simpa [reachBytes] using this⟩
theorem mem_weightsAll {ds : List (DataW H)} {d : DataW H} (hd : d ∈ ds) : ∀ n ∈ d.weights P e, n ∈ DataW.weightsAll P e ds := by
  intro n hn
  induction ds with
  | nil => simp at hd
  | cons a r ih =>
    simp only [DataW.weightsAll, List.mem_append]
    rcases List.mem_cons.1 hd with rfl | hd
    · exact .inl hn
    · exact .inr (ih hd)
theorem choose_list {α : Type} {p : Nat → α → Prop} : ∀ n : Nat, (∀ i, i < n → ∃ a, p i a) → ∃ xs : List α, xs.length = n ∧ ∀ i a, xs[i]? = some a → p i a
  | 0, _ => ⟨[], rfl, fun i a h => by simp at h⟩
  | n + 1, h => by
    obtain ⟨xs, hl, hx⟩ := choose_list n (fun i hi => h i (by omega))
    obtain ⟨a, ha⟩ := h n (by omega)
    refine ⟨xs ++ [a], by simp [hl], fun i b hb => ?_⟩
    rcases Nat.lt_or_ge i n with hi | hi
    · rw [List.getElem?_append_left (by omega)] at hb
      exact hx i b hb
    · rw [List.getElem?_append_right (by omega)] at hb
      obtain ⟨h1, h2⟩ := List.getElem?_eq_some_iff.1 hb
      have : i = n := by simp at h1; omega
      subst this
      simp [hl] at h2
      subst h2
      exact ha
theorem opn_slice {α : Type} {d : Kd α} {wf : α → Prop} {B : Nat} (ht : P.underlying t = some (.slice e)) (hc : P.cellsOf t = 1) (hB : P.bytesOf e = B) (h0 : Opn enc P w d e wf) :
    Opn enc P w (Kd.slice e d) t (fun l => l.length * B ≤ 140737488351232 ∧ l.length ≤ maxLen ∧ ∀ a ∈ l, wf a) :=
  ⟨hc.symm, fun base spare held fuel cs x h hw => by
    rcases open_slice ht h with ⟨rfl, _⟩ | ⟨a, len, cap, m, n, D, Pl, rfl, hb, hl, hm, hmm, rfl, hx⟩
    · exact ⟨[], ⟨none, 0, rfl, Nat.le_refl _, rfl, by simp, fun h => by simp at h⟩, by simp, by simp, by simp⟩
    · have hlm : len ≤ m := by rw [hmm]; split <;> omega
      have hwt : ∀ k, k < m → ∀ q ∈ (D k).weights P e, q ≤ reachBytes := by
        intro k hk q hq
        refine hw q ?_
        simp only [DataW.weights, ht, List.mem_cons, List.mem_append]
        right
        rcases Nat.lt_or_ge k len with h1 | h1
        · exact .inl (mem_weightsAll (d := D k) (List.mem_map.2 ⟨k, by simpa using h1, rfl⟩) q hq)
        · exact .inr (mem_weightsAll (d := D k) (List.mem_map.2 ⟨k - len, by simp; omega, by rw [show len + (k - len) = k by omega]⟩) q hq)
      obtain ⟨xs, hxl, hxs⟩ := choose_list (α := α) (p := fun i a' => ∃ cs', w.cells? base (a.add (i * P.cellsOf e)) (P.cellsOf e) = some cs' ∧ d.K w a' cs' ∧ wf a') len (fun i hi => by
        obtain ⟨cs', h1, h2⟩ := hx i (by omega)
        obtain ⟨a', hk, hf⟩ := h0.2 _ _ _ _ _ _ h2 (hwt i (by omega))
        exact ⟨a', cs', h1, hk, hf⟩)
      have hlw : len * B ≤ 140737488351232 := by
        have := hw ((((List.range len).map D).length + ((List.range (m - len)).map fun j => D (len + j)).length) * P.bytesOf e) (by simp only [DataW.weights, ht]; exact List.mem_cons_self)
        simp only [List.length_map, List.length_range, hB, reachBytes] at this
        exact Nat.le_trans (Nat.mul_le_mul_right _ (Nat.le_add_right _ _)) this
      refine ⟨xs, ⟨some a, cap, by rw [hxl], by omega, rfl, by rw [hxl]; simp only [maxLen] at hm; omega, fun _ => ⟨a, rfl, fun j p hj => ?_⟩⟩, by rw [hxl]; exact hlw, by rw [hxl]; omega, fun p hp => ?_⟩
      · obtain ⟨cs', h1, hk, hf⟩ := hxs j p hj
        obtain ⟨_, h2, h3⟩ := World.cells?_some h1
        refine ⟨cs', d.K_len hk, hk, fun i u hu => ?_⟩
        have hi : i < cs'.length := (List.getElem?_eq_some_iff.1 hu).1
        have := h3 i (by omega)
        rw [h0.1, ← hu, ← this, Go.Deep.add_add]
      · obtain ⟨j, hj⟩ := List.getElem?_of_mem hp
        obtain ⟨cs', h1, hk, hf⟩ := hxs j p hj
        exact hf⟩
/-- A struct's fields, one behind the other. -/
theorem pairK {α β : Type} {a : Kd α} {b : Kd β} {x : α} {y : β} {cs : List Value} {o s : Nat} (h0 : a.K w x ((cs.drop o).take s)) (h1 : b.K w y (cs.drop (o + s))) : (Kd.pair a b).K w (x, y) (cs.drop o) :=
  ⟨(cs.drop o).take s, cs.drop (o + s), by rw [← List.drop_drop, List.take_append_drop], h0, h1⟩
theorem lastK {α : Type} {a : Kd α} {x : α} {cs : List Value} {o s : Nat} (hl : cs.length = o + s) (h0 : a.K w x ((cs.drop o).take s)) : a.K w x (cs.drop o) := by
  rwa [List.take_of_length_le (by rw [List.length_drop]; omega)] at h0
theorem opn_field {α : Type} {d : Kd α} {wf : α → Prop} {fs : Array Field} {f : Field} {base n j : Nat} {spare : Nat → Bool} {held : Bool} {cs : List Value} {xs : List (DataW H × List MemPlace)} {o s : Nat}
    (ht : P.underlying t = some (.struct fs)) (hlen : xs.length = fs.size) (hf : ∀ (i : Nat) (f : Field), fs[i]? = some f → DataW.trod enc P w base spare held n f.type ((cs.drop f.offset).take (P.cellsOf f.type)) = xs[i]?)
    (hw : ∀ q ∈ (DataW.agg (xs.map (·.1))).weights P t, q ≤ reachBytes) (hj : fs[j]? = some f) (ho : f.offset = o) (hs : d.sz = s) (h0 : Opn enc P w d f.type wf) : ∃ a : α, d.K w a ((cs.drop o).take s) ∧ wf a := by
  have hjl : j < fs.size := (Array.getElem?_eq_some_iff.1 hj).1
  have h1 := hf j f hj
  rw [List.getElem?_eq_getElem (show j < xs.length by omega)] at h1
  rw [← ho, ← hs, h0.1]
  refine h0.2 _ _ _ _ _ _ h1 fun q hq => hw q ?_
  simp only [DataW.weights, ht]
  refine DataW.weights_mem_each (j := j) (t := f.type) (d := (xs[j]'(by omega)).1) ?_ ?_ q hq
  · rw [List.getElem?_map]
    simp [hj]
  · simp [List.getElem?_map, List.getElem?_eq_getElem (show j < xs.length by omega)]
end
end Go.Proofs.YtgpldjckohlkfaaOpn
