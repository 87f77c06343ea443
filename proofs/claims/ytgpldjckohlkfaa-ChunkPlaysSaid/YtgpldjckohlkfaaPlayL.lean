/- ChunkPlays' plain law: the map and the document's list are the same pairs in the same order. -/
import Derived.Test.YtgpldjckohlkfaaPx4
import Derived.Test.YtgpldjckohlkfaaBackL
namespace Go.Proofs.Ytgpldjckohlkfaa.Pure
open Go.Proofs.YtgpldjckohlkfaaOv Go.RowKit Go.Proofs.Ytgpldjckohlkfaa.P Go.Proofs.YtgpldjckohlkfaaW.PrintWords Go.Proofs.YtgpldjckohlkfaaW.PrintLast Go.Proofs.YtgpldjckohlkfaaW.PrintMore Go.Proofs.YtgpldjckohlkfaaIMap
set_option linter.unusedVariables false
set_option linter.unusedSimpArgs false

/-- What counts of an item: its index and its data. -/
def pr (x : S38) : Int × ByteArray := (x.f9, x.f1)
def fnd (l : List S38) (i : Int) : ByteArray × Bool := match mget (l.map pr) i with
  | some d => (d, true)
  | none => (⟨#[]⟩, false)
theorem rd38 {l : List S38} {j : Nat} (h : j < l.length) : rd_T38 l (j : Int) = l[j] := by
  unfold rd_T38
  simp only [Int.toNat_natCast, List.getD_eq_getElem?_getD, List.getElem?_eq_getElem h, Option.getD_some]
theorem find_l0 (a0 i : Int) (l : List S38) (hl : l.length ≤ 1000) : ∀ (d k j : Nat), j + d = l.length → d < k → consortref23_find.l0 k i (j : Int) a0 l = some (fnd (l.drop j) i)
  | 0, k, j, hj, hk => by
    obtain ⟨k, rfl⟩ : ∃ m, k = m + 1 := ⟨k - 1, by omega⟩
    rw [consortref23_find.l0, if_neg (by omega), List.drop_eq_nil_of_le (by omega)]
    rfl
  | d + 1, k, j, hj, hk => by
    obtain ⟨k, rfl⟩ : ∃ m, k = m + 1 := ⟨k - 1, by omega⟩
    have hjl : j < l.length := by omega
    have hw : wrap64 ((j : Int) + 1) = ((j + 1 : Nat) : Int) := by rw [w64 (by omega)]; omega
    rw [consortref23_find.l0, if_pos (by omega), if_pos (by omega), rd38 hjl, hw, find_l0 a0 i l hl d k (j + 1) (by omega) (by omega), List.drop_eq_getElem_cons hjl]
    simp only [fnd, List.map_cons, mget, pr]
    by_cases h : l[j].f9 = i
    · rw [if_pos h, if_pos h]
    · rw [if_neg h, if_neg h]
theorem find_is (k : Nat) (a0 i : Int) (l : List S38) (hl : l.length ≤ 1000) (hk : l.length < k) : consortref23_find.f k a0 l i = some (fnd l i) := by
  unfold consortref23_find.f
  exact find_l0 a0 i l hl l.length k 0 (by omega) hk
/-- The map's state and the document's list. -/
structure Rel (s1 : Int) (l : List S38) : Prop where
  tot : l ≠ [] → (rd_T38 l 0).f10 = s1 ∧ 1 ≤ s1 ∧ s1 ≤ 16
  key : ∀ x ∈ l, 0 ≤ x.f9 ∧ x.f9 < s1 ∧ x.f1.size ≤ 140737488351232
  nd : (l.map (·.f9)).Nodup
theorem mget_some {l : List S38} {i : Int} : (mget (l.map pr) i).isSome = true ↔ ∃ x ∈ l, x.f9 = i := by
  induction l with
  | nil => simp [mget]
  | cons x l ih =>
    simp only [List.map_cons, mget, pr]
    by_cases h : x.f9 = i
    · rw [if_pos h]; simp [h]
    · rw [if_neg h, ih]; simp [h]
theorem mget_in {l : List S38} {i : Int} {d : ByteArray} (h : mget (l.map pr) i = some d) : ∃ x ∈ l, x.f9 = i ∧ x.f1 = d := by
  induction l with
  | nil => simp [mget] at h
  | cons x l ih =>
    simp only [List.map_cons, mget, pr] at h
    by_cases hx : x.f9 = i
    · rw [if_pos hx] at h
      exact ⟨x, by simp, hx, Option.some.inj h⟩
    · rw [if_neg hx] at h
      obtain ⟨y, hy, h1, h2⟩ := ih h
      exact ⟨y, by simp [hy], h1, h2⟩
/-- The keys as numbers from 0. -/
def keysOf (l : List S38) : List Nat := l.map (fun x => x.f9.toNat)
theorem Rel.keys {s1 : Int} {l : List S38} (h : Rel s1 l) : (keysOf l).Nodup ∧ (∀ k ∈ keysOf l, k < s1.toNat) ∧ (keysOf l).length = l.length := by
  refine ⟨?_, ?_, by simp [keysOf]⟩
  · have h1 := h.nd
    have h2 := h.key
    clear h
    induction l with
    | nil => simp [keysOf]
    | cons x l ih =>
      simp only [List.map_cons, List.nodup_cons, keysOf] at h1 ⊢
      refine ⟨fun hm => ?_, ih h1.2 (fun y hy => h2 y (by simp [hy]))⟩
      obtain ⟨y, hy, he⟩ := List.mem_map.1 hm
      have a := h2 x (by simp)
      have b := h2 y (by simp [hy])
      exact h1.1 (List.mem_map.2 ⟨y, hy, by omega⟩)
  · intro k hk
    obtain ⟨x, hx, rfl⟩ := List.mem_map.1 hk
    have := h.key x hx
    omega
theorem Rel.len {s1 : Int} {l : List S38} (h : Rel s1 l) : l.length ≤ s1.toNat ∧ l.length ≤ 16 := by
  by_cases h0 : l = []
  · subst h0; simp
  · obtain ⟨h1, h2, h3⟩ := h.keys
    have := keys_le _ _ h1 h2
    have := h.tot h0
    omega
theorem Rel.mem {s1 : Int} {l : List S38} (h : Rel s1 l) (i : Nat) : (mget (l.map pr) (i : Int)).isSome = true ↔ i ∈ keysOf l := by
  rw [mget_some]
  constructor
  · rintro ⟨x, hx, he⟩
    exact List.mem_map.2 ⟨x, hx, by omega⟩
  · intro hi
    obtain ⟨x, hx, he⟩ := List.mem_map.1 hi
    have := h.key x hx
    exact ⟨x, hx, by omega⟩
open Classical in
theorem wloop {s1 : Int} {l : List S38} (h : Rel s1 l) (h0 : l ≠ []) (a0 : Int) : ∀ (d k i : Nat) (acc : ByteArray), i + d = s1.toNat → d + 20 < k → acc.size ≤ 140737488351232 * i →
    (∃ z, cat (l.map pr) d i acc = some z ∧ consortref23_Whole.l0 k acc (i : Int) a0 l = some (if ∀ j, i ≤ j → j < s1.toNat → j ∈ keysOf l then (z, true) else (⟨#[]⟩, false)))
  | 0, k, i, acc, hi, hk, ha => by
    obtain ⟨k, rfl⟩ : ∃ m, k = m + 1 := ⟨k - 1, by omega⟩
    have ht := h.tot h0
    have hlen : 0 < l.length := List.length_pos_iff.2 h0
    refine ⟨acc, rfl, ?_⟩
    rw [consortref23_Whole.l0, if_pos (by omega), ht.1, if_neg (by omega), if_pos (fun j h1 h2 => by omega)]
  | d + 1, k, i, acc, hi, hk, ha => by
    obtain ⟨k, rfl⟩ : ∃ m, k = m + 1 := ⟨k - 1, by omega⟩
    have ht := h.tot h0
    have hlen : 0 < l.length := List.length_pos_iff.2 h0
    have hl := h.len
    have hw : wrap64 ((i : Int) + 1) = ((i + 1 : Nat) : Int) := by rw [w64 (by omega)]; omega
    have hmem := h.mem i
    have hsz : ∀ d', mget (l.map pr) (i : Int) = some d' → d'.size ≤ 140737488351232 := fun d' hd => by
      obtain ⟨x, hx, _, e⟩ := mget_in hd
      rw [← e]
      exact (h.key x hx).2.2
    rw [consortref23_Whole.l0, if_pos (by omega), ht.1, if_pos (by omega), find_is k a0 _ l (by omega) (by omega), Option.bind_some, hw]
    by_cases hs0 : (mget (l.map pr) (i : Int)).isSome = true
    rotate_left
    · have hm : mget (l.map pr) (i : Int) = none := by simpa using hs0
      have hf : fnd l (i : Int) = (⟨#[]⟩, false) := by unfold fnd; rw [hm]
      rw [hf]
      obtain ⟨z, hz, _⟩ := wloop h h0 a0 d (k + 30) (i + 1) (acc ++ ⟨#[]⟩) (by omega) (by omega) (by rw [ByteArray.size_append]; show acc.size + 0 ≤ _; omega)
      refine ⟨z, ?_, ?_⟩
      · rw [cat, hm, Option.getD_none, if_pos (by show acc.size + 0 ≤ _; omega)]
        exact hz
      · rw [if_neg (by simp), if_neg (fun hh => by exact hs0 (hmem.2 (hh i (Nat.le_refl _) (by omega))))]
    · obtain ⟨d', hm⟩ := Option.isSome_iff_exists.1 hs0
      have hf : fnd l (i : Int) = (d', true) := by unfold fnd; rw [hm]
      rw [hf]
      have hs := hsz d' hm
      obtain ⟨z, hz, hz2⟩ := wloop h h0 a0 d k (i + 1) (acc ++ d') (by omega) (by omega) (by rw [ByteArray.size_append]; omega)
      refine ⟨z, ?_, ?_⟩
      · rw [cat, hm, Option.getD_some, if_pos (by omega)]
        exact hz
      · rw [if_pos rfl, if_pos (by show acc.size + d'.size ≤ _; omega), hz2]
        congr 1
        have hi2 : i ∈ keysOf l := hmem.1 hs0
        by_cases hh : ∀ j, i + 1 ≤ j → j < s1.toNat → j ∈ keysOf l
        · rw [if_pos hh, if_pos (fun j h1 h2 => by
            by_cases e : j = i
            · rw [e]; exact hi2
            · exact hh j (by omega) h2)]
        · rw [if_neg hh, if_neg (fun hx => hh (fun j h1 h2 => hx j (by omega) h2))]
open Classical in
/-- Both tell the same state. -/
theorem whole_same {s1 : Int} {l : List S38} (h : Rel s1 l) (a0 : Int) (k : Nat) (hk : 40 < k) : ∃ z b, chunk_Whole.f a0 s1 (l.map pr) = some (z, b, a0, s1, l.map pr) ∧ consortref23_Whole.f k a0 l = some (z, b) ∧ b = decide (l ≠ [] ∧ (l.length : Int) = s1) := by
  have hl := h.len
  by_cases h0 : l = []
  · subst h0
    exact ⟨⟨#[]⟩, false, rfl, rfl, by simp⟩
  · have ht := h.tot h0
    have hlen : 0 < l.length := List.length_pos_iff.2 h0
    obtain ⟨z, hz, hz2⟩ := wloop h h0 a0 s1.toNat k 0 ⟨#[]⟩ (by omega) (by omega) (by decide)
    obtain ⟨k1, k2, k3⟩ := h.keys
    have hr : consortref23_Whole.f k a0 l = some (if ∀ j, 0 ≤ j → j < s1.toNat → j ∈ keysOf l then (z, true) else (⟨#[]⟩, false)) := by
      unfold consortref23_Whole.f
      rw [if_neg (by omega)]
      exact hz2
    by_cases hf : (l.length : Int) = s1
    · have hall : ∀ j, 0 ≤ j → j < s1.toNat → j ∈ keysOf l := fun j _ hj => keys_all k1 k2 (by omega) j hj
      rw [if_pos hall] at hr
      refine ⟨z, true, ?_, hr, by simp [h0, hf]⟩
      unfold chunk_Whole.f
      rw [List.length_map, if_pos (by omega), if_neg (by omega), if_neg (by omega), hz]
      rfl
    · have hall : ¬ ∀ j, 0 ≤ j → j < s1.toNat → j ∈ keysOf l := fun hh => by
        have := keys_ge _ _ (fun j hj => hh j (Nat.zero_le _) hj)
        omega
      rw [if_neg hall] at hr
      refine ⟨⟨#[]⟩, false, ?_, hr, by simp [hf]⟩
      unfold chunk_Whole.f
      rw [List.length_map, if_pos (by omega), if_neg (by omega), if_pos (by omega)]
end Go.Proofs.Ytgpldjckohlkfaa.Pure
