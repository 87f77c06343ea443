/- ChunkBack's plain law: keys that come in whatever order. -/
import Derived.Test.YtgpldjckohlkfaaItemsL
import Derived.WideShapes
import Derived.Lib.Strings
namespace Go.Proofs.Ytgpldjckohlkfaa.Pure
open Go.Proofs.YtgpldjckohlkfaaOv Go.RowKit Go.Proofs.Ytgpldjckohlkfaa.P Go.Proofs.YtgpldjckohlkfaaW.PrintWords Go.Proofs.YtgpldjckohlkfaaW.PrintLast Go.Proofs.YtgpldjckohlkfaaW.PrintMore Go.Proofs.YtgpldjckohlkfaaIMap
set_option linter.unusedVariables false

/-- The pairs of some keys, in their order. -/
def kp {α : Type} (f : Nat → α) (K : List Nat) : List (Int × α) := K.map fun (k : Nat) => ((k : Int), f k)
theorem kp_length {α : Type} (f : Nat → α) (K : List Nat) : (kp f K).length = K.length := by simp [kp]
theorem kp_snoc {α : Type} (f : Nat → α) (K : List Nat) (k : Nat) : kp f K ++ [((k : Int), f k)] = kp f (K ++ [k]) := by simp [kp]
theorem mget_kp {α : Type} (f : Nat → α) : ∀ (K : List Nat) (k : Nat), mget (kp f K) (k : Int) = if k ∈ K then some (f k) else none
  | [], k => by simp [kp, mget]
  | x :: K, k => by
    have ih := mget_kp f K k
    simp only [kp, List.map_cons, mget] at ih ⊢
    by_cases h : x = k
    · subst h; simp
    · rw [if_neg (by omega), ih]
      by_cases h2 : k ∈ K
      · rw [if_pos h2, if_pos (by simp [h2])]
      · rw [if_neg h2, if_neg (by simp [h2]; omega)]
theorem mset_in {α : Type} (f : Nat → α) : ∀ (K : List Nat) (k : Nat), k ∈ K → mset (kp f K) (k : Int) (f k) = kp f K
  | [], k, h => by simp at h
  | x :: K, k, h => by
    simp only [kp, List.map_cons, mset]
    by_cases hx : x = k
    · subst hx; simp
    · rw [if_neg (by omega)]
      have ih := mset_in f K k (by simpa [show k ≠ x from fun e => hx e.symm] using h)
      simp only [kp] at ih
      rw [ih]
theorem mset_out {α : Type} (f : Nat → α) : ∀ (K : List Nat) (k : Nat), k ∉ K → mset (kp f K) (k : Int) (f k) = kp f (K ++ [k])
  | [], k, h => by simp [kp, mset]
  | x :: K, k, h => by
    simp only [kp, List.map_cons, List.cons_append, mset]
    have hx : x ≠ k := fun e => h (by simp [e])
    rw [if_neg (by omega)]
    have ih := mset_out f K k (fun e => h (by simp [e]))
    simp only [kp] at ih
    rw [ih]
/-- Keys below n, none twice, are at most n. -/
theorem keys_le : ∀ (n : Nat) (K : List Nat), K.Nodup → (∀ k ∈ K, k < n) → K.length ≤ n
  | 0, K, _, h => by
    cases K with
    | nil => simp
    | cons x K => exact absurd (h x (by simp)) (by omega)
  | n + 1, K, hn, h => by
    have h1 := keys_le n (K.erase n) (hn.erase n) (fun k hk => by
      have h2 : k ≠ n := ((List.Nodup.mem_erase_iff hn).1 hk).1
      have h3 := h k (List.mem_of_mem_erase hk)
      omega)
    have h2 := List.length_erase (a := n) (l := K)
    split at h2 <;> omega
theorem keys_all {n : Nat} {K : List Nat} (hn : K.Nodup) (h : ∀ k ∈ K, k < n) (hl : K.length = n) (j : Nat) (hj : j < n) : j ∈ K := by
  apply Classical.byContradiction
  intro h2
  have := keys_le n (j :: K) (List.nodup_cons.2 ⟨h2, hn⟩) (fun k hk => by
    rcases List.mem_cons.1 hk with rfl | hk
    · exact hj
    · exact h k hk)
  simp at this
  omega
/-- All keys below n are in K: then K has at least n. -/
theorem keys_ge : ∀ (n : Nat) (K : List Nat), (∀ j, j < n → j ∈ K) → n ≤ K.length
  | 0, K, _ => by omega
  | n + 1, K, h => by
    have h1 := keys_ge n (K.erase n) (fun j hj => (List.mem_erase_of_ne (by omega)).2 (h j (by omega)))
    have h2 := List.length_erase_of_mem (h n (by omega))
    have h3 : 0 < K.length := List.length_pos_of_mem (h n (by omega))
    omega
theorem nodup_snoc {K : List Nat} {k : Nat} (h : K.Nodup) (hk : k ∉ K) : (K ++ [k]).Nodup := by
  rw [List.nodup_append]
  refine ⟨h, by simp, fun a ha b hb => ?_⟩
  simp at hb
  subst hb
  exact fun e => hk (e ▸ ha)
theorem ext_append (s : ByteArray) (i : Nat) : s.extract 0 (min s.size (i * 256)) ++ part s i = s.extract 0 (min s.size ((i + 1) * 256)) := by
  apply WideShapes.bytes_inj
  show (_ ++ _ : ByteArray).data.toList = _
  rw [ByteArray.data_append, Array.toList_append, part, Lib.extract_data, Lib.extract_data, Lib.extract_data]
  simp only [List.drop_zero, Nat.sub_zero]
  have hs : s.data.toList.length = s.size := Array.length_toList
  by_cases h : i * 256 ≤ s.size
  · rw [show min s.size (i * 256) = i * 256 by omega, show min s.size ((i + 1) * 256) = i * 256 + (min s.size ((i + 1) * 256) - i * 256) by omega, List.take_add]
    simp
  · rw [show min s.size (i * 256) = s.size by omega, show min s.size ((i + 1) * 256) = s.size by omega, show s.size - i * 256 = 0 by omega]
    simp
theorem cat_all (s : ByteArray) (hs : s.size ≤ 4096) (K : List Nat) : ∀ (d i : Nat), (∀ j, j < i + d → j ∈ K) → cat (kp (part s) K) d i (s.extract 0 (min s.size (i * 256))) = some (s.extract 0 (min s.size ((i + d) * 256)))
  | 0, i, h => by rw [cat]; rfl
  | d + 1, i, h => by
    have hz : (part s i).size ≤ 4096 := by rw [part, ByteArray.size_extract]; omega
    have hz2 : (s.extract 0 (min s.size (i * 256))).size ≤ 4096 := by rw [ByteArray.size_extract]; omega
    rw [cat, mget_kp, if_pos (h i (by omega)), Option.getD_some, if_pos (by omega), ext_append, cat_all s hs K d (i + 1) (fun j hj => h j (by omega))]
    rw [show i + 1 + d = i + (d + 1) by omega]
theorem cat_whole (s : ByteArray) (hs : s.size ≤ 4096) (K : List Nat) (h : ∀ j, j < cnt s → j ∈ K) : cat (kp (part s) K) (cnt s) 0 ⟨#[]⟩ = some s := by
  have h1 := cat_all s hs K (cnt s) 0 (fun j hj => h j (by omega))
  have e0 : s.extract 0 (min s.size (0 * 256)) = ⟨#[]⟩ := by
    apply WideShapes.bytes_inj
    rw [Lib.extract_data]
    simp
  have e1 : s.extract 0 (min s.size ((0 + cnt s) * 256)) = s := by
    apply WideShapes.bytes_inj
    rw [Lib.extract_data]
    have hc : min s.size ((0 + cnt s) * 256) = s.size := by unfold cnt; omega
    have hl : s.data.toList.length = s.size := Array.length_toList
    rw [hc, List.drop_zero, Nat.sub_zero, ← hl, List.take_length]
  rw [e0, e1] at h1
  exact h1
end Go.Proofs.Ytgpldjckohlkfaa.Pure
