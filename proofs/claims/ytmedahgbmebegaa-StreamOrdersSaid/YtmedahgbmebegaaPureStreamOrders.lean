/- Of a sender's messages those are answered that have no gap ahead of them, each once, in their order. -/
import Derived.Test.YtmedahgbmebegaaStaStreamOrders
import Derived.Test.YtmedahgbmebegaaStreamLaw2
namespace Go.Proofs.Ytmedahgbmebegaa.Pure
open Go.RowKit Go.Proofs.Ytmedahgbmebegaa.P Go.Proofs.YtmedahgbmebegaaW.PrintWords Go.Proofs.YtmedahgbmebegaaW.PrintLast Go.Proofs.YtmedahgbmebegaaIMap
open Go.Proofs.YtmedahgbmebegaaOv
set_option linter.unusedVariables false
set_option linter.unusedSimpArgs false
variable [TheW]
set_option maxHeartbeats 400000
set_option maxRecDepth 10000

structure OInv (x1 : List S37) (s0 c : Int) (l : List (Int × S37)) (x6 x7 : List S37) : Prop where
  inv : Inv s0 c l
  len : (x7.length : Int) = c
  seq : ∀ (i : Nat) x, x7[i]? = some x → x.f1 = i + 1 ∧ x ∈ x6
  sum : x6.length = x7.length + l.length
  hold : ∀ p ∈ l, p.2 ∈ x6
  sub : ∀ x ∈ x6, x ∈ x1

theorem l2_ok {x1 : List S37} {s0 c : Int} {l : List (Int × S37)} {x6 x7 : List S37} (h : OInv x1 s0 c l x6 x7) (h6 : x6.length ≤ 400) (B : Nat) (hB : deps x1 + 10 ≤ B) (i : Nat) (hi : i < x7.length) : ∀ d k (j : Nat) (b : Bool), j + d = x6.length → d + B < k →
    (b = true ∨ ∃ m, j ≤ m ∧ ∃ hm : m < x6.length, x6[m] = x7[i]) → consortlaw10_StreamOrders.l2 k x6 x7 i b j s0 c l = consortlaw10_StreamOrders.l1 (k - d - 1) x6 x7 ((i + 1 : Nat) : Int) s0 c l := by
  intro d
  induction d with
  | zero =>
    intro k j b hj hk hb
    obtain ⟨k, rfl⟩ : ∃ k', k = k' + 1 := ⟨k - 1, by omega⟩
    have h1 := h.sum
    have e := Aside0.mk (show wrap64 ((i : Int) + 1) = ((i + 1 : Nat) : Int) from by rw [w64_ (by omega)]; omega)
    have hs := (h.seq i _ (List.getElem?_eq_getElem hi)).1
    rcases hb with rfl | ⟨m, h1, h2, _⟩
    · rw [consortlaw10_StreamOrders.l2, if_neg (by omega), if_pos (by omega), if_pos (by omega), rd_is hi, e.out, hs, if_pos (by omega), if_pos rfl]
      simp
    · omega
  | succ d ih =>
    intro k j b hj hk hb
    obtain ⟨k, rfl⟩ : ∃ k', k = k' + 1 := ⟨k - 1, by omega⟩
    have hsum := h.sum
    have hjl : j < x6.length := by omega
    have e := Aside0.mk (show wrap64 ((j : Int) + 1) = ((j + 1 : Nat) : Int) from by rw [w64_ (by omega)]; omega)
    have e2 : k + 1 - (d + 1) - 1 = k - d - 1 := by omega
    rw [consortlaw10_StreamOrders.l2, if_pos (by omega), e2, e.out]
    cases b with
    | true =>
      rw [if_pos rfl]
      exact ih k (j + 1) true (by omega) (by omega) (.inl rfl)
    | false =>
      obtain ⟨b', h1, h2⟩ := same_is x6[j] x7[i] k (by have := deps_le (h.sub _ (List.getElem_mem hjl)); omega)
      rw [if_neg (by simp), if_pos (by omega), if_pos (by omega), if_pos (by omega), rd_is hjl, rd_is hi, h1, Option.bind_some]
      refine ih k (j + 1) b' (by omega) (by omega) ?_
      rcases hb with hb | ⟨m, m1, m2, m3⟩
      · cases hb
      · by_cases hmj : m = j
        · subst hmj
          exact .inl (h2 m3)
        · exact .inr ⟨m, by omega, m2, m3⟩

theorem count_is (s0 c : Int) (l : List (Int × S37)) : stream_Count.f s0 c l = some (c, s0, c, l) := rfl
theorem held_is {s0 c : Int} {l : List (Int × S37)} (h : l.length ≤ 63) : stream_Held.f s0 c l = some ((l.length : Int), s0, c, l) := by
  unfold stream_Held.f
  rw [if_pos (by omega)]
theorem l1_ok {x1 : List S37} {s0 c : Int} {l : List (Int × S37)} {x6 x7 : List S37} (h : OInv x1 s0 c l x6 x7) (h6 : x6.length ≤ 400) (B : Nat) (hB : deps x1 + 500 ≤ B) : ∀ d k (i : Nat), i + d = x7.length → d * 500 + B < k →
    consortlaw10_StreamOrders.l1 k x6 x7 i s0 c l = some true := by
  intro d
  induction d with
  | zero =>
    intro k i hi hk
    obtain ⟨k, rfl⟩ : ∃ k', k = k' + 1 := ⟨k - 1, by omega⟩
    have hl := h.inv.len
    have h1 := h.sum
    have h2 := h.len
    rw [consortlaw10_StreamOrders.l1, if_neg (by omega)]
    have e1 := Aside0.mk (show wrap64 c = c from w64_ (by omega))
    have e2 := Aside0.mk (show wrap64 ((x7.length : Int) + (l.length : Int)) = (x7.length : Int) + l.length from w64_ (by omega))
    have h3 : (x6.length : Int) = (x7.length : Int) + l.length := by omega
    have h4 : decide ((l.length : Int) ≤ 63) = true := decide_eq_true (by omega)
    rw [count_is, Option.bind_some]
    dsimp only
    rw [e1.out, if_pos h2.symm, held_is hl, Option.bind_some]
    dsimp only
    rw [e2.out, if_pos h3, held_is hl, Option.bind_some]
    dsimp only
    rw [h4]
  | succ d ih =>
    intro k i hi hk
    obtain ⟨k, rfl⟩ : ∃ k', k = k' + 1 := ⟨k - 1, by omega⟩
    have hil : i < x7.length := by omega
    have hsum := h.sum
    have hm := (h.seq i _ (List.getElem?_eq_getElem hil)).2
    obtain ⟨m, m1⟩ := List.getElem?_of_mem hm
    obtain ⟨m2, m3⟩ := List.getElem?_eq_some_iff.1 m1
    rw [consortlaw10_StreamOrders.l1, if_pos (by omega)]
    have := l2_ok h h6 B (by omega) i hil x6.length k 0 false (by omega) (by omega) (.inr ⟨m, by omega, m2, m3⟩)
    simp only [Int.natCast_zero] at this
    refine Eq.trans this ?_
    exact ih (k - x6.length - 1) (i + 1) (by omega) (by omega)

theorem l0_ok {x1 : List S37} (hlen : x1.length ≤ 301) (hw : ∀ x ∈ x1, wf37 x) (s0 : Int) (B : Nat) (hB : deps x1 + 300000 ≤ B) : ∀ d k (i : Nat) (c : Int) (l : List (Int × S37)) (x6 x7 : List S37), i + d = x1.length → d * 2 + B < k → OInv x1 s0 c l x6 x7 → x6.length ≤ i →
    consortlaw10_StreamOrders.l0 k x1 x6 x7 i s0 c l = some true := by
  intro d
  induction d with
  | zero =>
    intro k i c l x6 x7 hi hk hI h6
    obtain ⟨k, rfl⟩ : ∃ k', k = k' + 2 := ⟨k - 2, by omega⟩
    have := hI.sum
    rw [consortlaw10_StreamOrders.l0, if_neg (by omega)]
    exact l1_ok hI (by omega) (deps x1 + 500) (Nat.le_refl _) x7.length (k + 1) 0 (by omega) (by omega)
  | succ d ih =>
    intro k i c l x6 x7 hi hk hI h6
    obtain ⟨k, rfl⟩ : ∃ k', k = k' + 2 := ⟨k - 2, by omega⟩
    have hlt : i < x1.length := by omega
    have hm := List.getElem_mem hlt
    have hwm := seq_in (hw _ hm)
    have hsum := hI.sum
    have hlen7 := hI.len
    have e := Aside0.mk (show wrap64 ((i : Int) + 1) = ((i + 1 : Nat) : Int) from by rw [w64_ (by omega)]; omega)
    by_cases hyes : c < x1[i].f1 ∧ mget l x1[i].f1 = none ∧ x1[i].f1 ≤ c + s0
    · obtain ⟨outs, l', ht, hI', hs, hout, hmem⟩ := take_ok hI.inv x1[i] hyes.1 hyes.2.1 hyes.2.2 hwm.2
      simp only [tk] at ht
      have hl := hI.inv.len
      have hl' := hI'.len
      rw [consortlaw10_StreamOrders.l0, if_pos (by omega), if_pos (by omega), rd_is hlt, ht, Option.bind_some, if_pos rfl, consortlaw10_StreamOrders.j1, if_neg (by simp), if_pos rfl, if_pos (by omega), if_pos (by omega), if_pos (by omega), if_pos (show x7.length + outs.length < 1954687338268 by omega), rd_is hlt, e.out]
      refine ih k (i + 1) _ _ _ _ (by omega) (by omega) ⟨hI', ?_, ?_, ?_, ?_, ?_⟩ (by simp; omega)
      · simp only [List.length_append]; omega
      · intro j x hj
        rcases Nat.lt_or_ge j x7.length with h1 | h1
        · rw [List.getElem?_append_left h1] at hj
          obtain ⟨a, b⟩ := hI.seq j x hj
          exact ⟨a, List.mem_append_left _ b⟩
        · rw [List.getElem?_append_right h1] at hj
          obtain ⟨a, b⟩ := hout _ _ hj
          refine ⟨by omega, ?_⟩
          rcases b with b | ⟨_, b⟩
          · exact List.mem_append_left _ (hI.hold _ b)
          · exact List.mem_append_right _ (by rw [b]; exact List.mem_singleton.2 rfl)
      · simp only [List.length_append, List.length_singleton]; omega
      · intro p hp
        rcases ((hmem p).1 hp).1 with h1 | h1
        · exact List.mem_append_left _ (hI.hold _ h1)
        · exact List.mem_append_right _ (by rw [h1]; exact List.mem_singleton.2 rfl)
      · intro x hx
        rcases List.mem_append.1 hx with hx | hx
        · exact hI.sub x hx
        · rw [List.mem_singleton.1 hx]; exact hm
    · have ht := take_no hI.inv x1[i] hwm.1 hwm.2 hyes
      simp only [tk] at ht
      have hne : ∀ z : Prop, ∀ _ : Decidable z, ∀ y : Prop, ∀ _ : Decidable y, (if z then (1 : Int) else if y then 12 else 6) ≠ 0 := by
        intro z _ y _
        split
        · decide
        · split <;> decide
      rw [consortlaw10_StreamOrders.l0, if_pos (by omega), if_pos (by omega), rd_is hlt, ht, Option.bind_some, if_neg (hne _ _ _ _), consortlaw10_StreamOrders.j1, if_neg (by simp), if_neg (hne _ _ _ _), if_pos (show x7.length + ([] : List S37).length < 1954687338268 by simp only [List.length_nil]; omega), List.append_nil, e.out]
      exact ih k (i + 1) _ _ _ _ (by omega) (by omega) hI (by omega)

theorem StreamOrders : consortlaw10_StreamOrders.Pure := by
  intro x0 x1 h0 h1
  obtain ⟨K, hK⟩ : ∃ K, K = deps x1 + 400000 := ⟨_, rfl⟩
  refine ⟨K, ?_⟩
  unfold consortlaw10_StreamOrders.f
  obtain ⟨b, hb, hbl⟩ := few_is x1 K (by omega)
  rw [stream_awake_is, Option.bind_some, if_pos rfl, hb, Option.bind_some]
  cases b with
  | false => rw [if_neg (by simp)]
  | true =>
    rw [if_pos rfl]
    have hl := hbl rfl
    simp only [stream_New.f, Option.bind_some]
    refine l0_ok hl h1.2.2 _ (deps x1 + 300000) (Nat.le_refl _) x1.length _ 0 0 [] [] [] (by omega) (by omega) ⟨Inv.new _ ?_, rfl, by simp, rfl, by simp, by simp⟩ (by simp)
    constructor <;> (unfold mx mn; (repeat' split) <;> omega)
end Go.Proofs.Ytmedahgbmebegaa.Pure
