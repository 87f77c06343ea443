/- All of a sender's messages, in whatever order they come: in the end all were answered, and nothing is held. -/
import Derived.Test.YtmedahgbmebegaaPx6
import Derived.Test.YtmedahgbmebegaaStreamLaw
namespace Go.Proofs.Ytmedahgbmebegaa.Pure
open Go.Proofs.YtmedahgbmebegaaOv Go.RowKit Go.Proofs.Ytmedahgbmebegaa.P Go.Proofs.YtmedahgbmebegaaW.PrintWords Go.Proofs.YtmedahgbmebegaaW.PrintLast Go.Proofs.YtmedahgbmebegaaW.PrintMore Go.Proofs.YtmedahgbmebegaaIMap
set_option linter.unusedVariables false
set_option linter.unusedSectionVars false
set_option linter.unusedSimpArgs false
variable [TheW]
set_option maxHeartbeats 400000
set_option maxRecDepth 10000

theorem w64 {x : Int} (h : 0 ≤ x ∧ x ≤ 9223372036854775807) : wrap64 x = x := by unfold wrap64; omega
theorem awake_is : consortlaw10_awake.f = some true := by kernel_rfl

theorem rm {l : List Int} {i : Nat} (h : i < l.length) (hn : l.Nodup) :
    (l.take i ++ l.drop (i + 1)).Nodup ∧ (∀ p, p ∈ l.take i ++ l.drop (i + 1) ↔ p ∈ l ∧ p ≠ l[i]) ∧ (l.take i ++ l.drop (i + 1)).length + 1 = l.length := by
  have e : l = l.take i ++ l[i] :: l.drop (i + 1) := by rw [← List.drop_eq_getElem_cons h, List.take_append_drop]
  generalize l[i] = x at *
  generalize l.take i = a at *
  generalize l.drop (i + 1) = b at *
  subst e
  simp only [List.nodup_append, List.nodup_cons, List.mem_cons] at hn
  refine ⟨?_, ?_, by simp; omega⟩
  · rw [List.nodup_append]
    exact ⟨hn.1, hn.2.1.2, fun p hp q hq => hn.2.2 p hp q (.inr hq)⟩
  · intro p
    simp only [List.mem_append, List.mem_cons]
    constructor
    · rintro (hp | hp)
      · exact ⟨.inl hp, hn.2.2 p hp x (.inl rfl)⟩
      · exact ⟨.inr (.inr hp), fun e => hn.2.1.1 (e ▸ hp)⟩
    · rintro ⟨hp | rfl | hp, hne⟩
      · exact .inl hp
      · exact absurd rfl hne
      · exact .inr hp

theorem l2_ok (n : Int) (x8 : List S37) (s0 : Int) (hn : n ≤ 64) (hl : (x8.length : Int) = n) (hx : ∀ (i : Nat) x, x8[i]? = some x → x.f1 = i + 1) :
    ∀ d k (i : Nat), i + d = x8.length → d < k → consortlaw10_StreamWhole.l2 k n x8 i s0 n [] = some true
  | 0, 0, i, _, h => by omega
  | 0, k + 1, i, hi, _ => by
    rw [consortlaw10_StreamWhole.l2]
    rw [if_neg (by omega), if_pos hl]
    simp only [stream_Held.f, stream_Count.f, List.length_nil, if_pos (Nat.zero_le 1000000), Option.bind_some]
    rw [if_pos (by rfl), w64 (by omega)]
    simp
  | d + 1, 0, i, _, h => by omega
  | d + 1, k + 1, i, hi, hk => by
    rw [consortlaw10_StreamWhole.l2]
    have e : (rd_T37 x8 i).f1 = i + 1 := by
      unfold rd_T37
      have hlt : i < x8.length := by omega
      simp only [Int.toNat_natCast, List.getD_eq_getElem?_getD, List.getElem?_eq_getElem hlt, Option.getD_some]
      exact hx i _ (List.getElem?_eq_getElem hlt)
    rw [if_pos (by omega), if_pos (by omega), e, w64 (by omega), if_pos (by omega)]
    exact l2_ok n x8 s0 hn hl hx d k (i + 1) (by omega) (by omega)

structure WInv (n c : Int) (left : List Int) (l : List (Int × S37)) (x8 : List S37) : Prop where
  inv : Inv 64 c l
  nd : left.Nodup
  lf : ∀ p ∈ left, c < p ∧ p ≤ n ∧ mget l p = none
  len : (x8.length : Int) = c
  seq : ∀ (i : Nat) x, x8[i]? = some x → x.f1 = i + 1
  cov : ∀ i, 1 ≤ i → i ≤ n → i ∈ left ∨ i ≤ c ∨ ∃ x, (i, x) ∈ l
  cnt : (left.length : Int) + l.length + c = n

theorem step {n c : Int} {left : List Int} {l : List (Int × S37)} {x8 : List S37} (hn : n ≤ 64) (h : WInv n c left l x8) (i : Nat) (hi : i < left.length) :
    ∃ outs c' l', stream_Take.f 64 c l 0 left[i] 0 0 OV.nil (⟨#[]⟩ : ByteArray) = some (outs, 0, 64, c', l') ∧ WInv n c' (left.take i ++ left.drop (i + 1)) l' (x8 ++ outs) := by
  obtain ⟨hlc, hln, hlg⟩ := h.lf _ (List.getElem_mem hi)
  obtain ⟨outs, l', ht, hI, hsum, hout, hmem⟩ := take_ok h.inv ⟨0, left[i], 0, 0, OV.nil, ⟨#[]⟩⟩ hlc hlg (by have := h.inv.hc; simp only; omega) (by simp only; omega)
  obtain ⟨r1, r2, r3⟩ := rm hi h.nd
  have hc0 := h.inv.hc.1
  simp only at hout hmem
  refine ⟨outs, _, l', ht, hI, r1, ?_, ?_, ?_, ?_, ?_⟩
  · intro p hp
    obtain ⟨hp, hne⟩ := (r2 p).1 hp
    obtain ⟨a1, a2, a3⟩ := h.lf p hp
    have key : c + outs.length < p := by
      rcases Int.lt_or_le (c + outs.length) p with h1 | h1
      · exact h1
      · exfalso
        have hk : (p - c - 1).toNat < outs.length := by omega
        obtain ⟨e1, e2⟩ := hout _ _ (List.getElem?_eq_getElem hk)
        have e3 : c + 1 + ((p - c - 1).toNat : Int) = p := by omega
        rw [e3] at e2
        rcases e2 with e2 | ⟨e2, _⟩
        · exact mget_none.1 a3 _ e2 rfl
        · exact hne e2
    refine ⟨key, a2, mget_none.2 fun q hq e => ?_⟩
    have := (hmem q).1 hq
    rcases this.1 with h1 | h1
    · exact mget_none.1 a3 q h1 e
    · rw [h1] at e
      exact hne e.symm
  · simp only [List.length_append]
    have := h.len
    omega
  · intro j x hj
    rcases Nat.lt_or_ge j x8.length with h1 | h1
    · rw [List.getElem?_append_left h1] at hj
      exact h.seq j x hj
    · rw [List.getElem?_append_right h1] at hj
      obtain ⟨e1, _⟩ := hout _ _ hj
      have := h.len
      omega
  · intro j h1 h2
    by_cases hjc : j ≤ c + outs.length
    · exact .inr (.inl hjc)
    rcases h.cov j h1 h2 with hj | hj | ⟨x, hj⟩
    · by_cases he : j = left[i]
      · exact .inr (.inr ⟨_, (hmem (j, ⟨0, left[i], 0, 0, OV.nil, ⟨#[]⟩⟩)).2 ⟨.inr (by rw [he]), by simp only; omega⟩⟩)
      · exact .inl ((r2 j).2 ⟨hj, he⟩)
    · omega
    · exact .inr (.inr ⟨x, (hmem (j, x)).2 ⟨.inl hj, by simp only; omega⟩⟩)
  · have := h.cnt
    omega

theorem l1_ok (n : Int) (x1 : List Int) (hn : n ≤ 64) (h0 : 0 ≤ n) (hw : ∀ x ∈ x1, 0 ≤ x ∧ x ≤ 65535) (B : Nat) (hB : 66 ≤ B) :
    ∀ m k (left : List Int) (x8 : List S37) (x9 c : Int) (l : List (Int × S37)), left.length = m → m + B < k → WInv n c left l x8 → 0 ≤ x9 → x9 + left.length ≤ 64 →
      consortlaw10_StreamWhole.l1 k n x1 left x8 x9 64 c l = some true := by
  intro m
  induction m with
  | zero =>
    intro k left x8 x9 c l hm hk hI h9 h9'
    obtain ⟨k, rfl⟩ : ∃ k', k = k' + 1 := ⟨k - 1, by omega⟩
    rw [consortlaw10_StreamWhole.l1]
    obtain rfl : left = [] := List.length_eq_zero_iff.1 hm
    rw [if_neg (by simp)]
    have hc : c = n := by
      have h1 := hI.cnt
      rcases Int.lt_or_le c n with h2 | h2
      · exfalso
        rcases hI.cov (c + 1) (by have := hI.inv.hc; omega) (by omega) with h3 | h3 | ⟨x, h3⟩
        · simp at h3
        · omega
        · have := hI.inv.key _ h3
          simp only at this
          omega
      · simp at h1; omega
    subst hc
    have hl0 : l = [] := List.length_eq_zero_iff.1 (by have := hI.cnt; simp at this; omega)
    subst hl0
    exact l2_ok c x8 64 hn hI.len hI.seq x8.length k 0 (by omega) (by have := hI.len; omega)
  | succ m ih =>
    intro k left x8 x9 c l hm hk hI h9 h9'
    obtain ⟨k, rfl⟩ : ∃ k', k = k' + 1 := ⟨k - 1, by omega⟩
    rw [consortlaw10_StreamWhole.l1]
    have hlen8 := hI.len
    have hc := hI.inv.hc
    have hrec : ∀ i : Nat, (hi : i < left.length) → ∀ outs c' l', stream_Take.f 64 c l 0 left[i] 0 0 OV.nil (⟨#[]⟩ : ByteArray) = some (outs, 0, 64, c', l') → WInv n c' (left.take i ++ left.drop (i + 1)) l' (x8 ++ outs) → x8.length + outs.length < 1954687338268 ∧ consortlaw10_StreamWhole.l1 k n x1 (left.take i ++ left.drop (i + 1)) (x8 ++ outs) (x9 + 1) 64 c' l' = some true := by
      intro i hi outs c' l' ht hI'
      have h1 := (rm hi hI.nd).2.2
      refine ⟨?_, ih k _ _ _ _ _ (by omega) (by omega) hI' (by omega) (by omega)⟩
      have h2 := hI'.len
      have h3 := hI'.cnt
      simp only [List.length_append] at h2
      omega
    rw [if_pos (by omega)]
    by_cases h1 : x9 < (x1.length : Int)
    · rw [if_pos h1, if_pos h9, if_neg (by omega)]
      have hrd : 0 ≤ rd x1 x9 ∧ rd x1 x9 ≤ 65535 := by
        unfold rd
        have hlt : x9.toNat < x1.length := by omega
        simp only [List.getD_eq_getElem?_getD, List.getElem?_eq_getElem hlt, Option.getD_some]
        exact hw _ (List.getElem_mem hlt)
      rw [w64 (by omega)]
      have ht0 : 0 ≤ Int.tmod (rd x1 x9) (left.length : Int) := Int.tmod_nonneg _ hrd.1
      have ht1 : Int.tmod (rd x1 x9) (left.length : Int) < (left.length : Int) := Int.tmod_lt_of_pos _ (by omega)
      obtain ⟨i, hi⟩ : ∃ i : Nat, Int.tmod (rd x1 x9) (left.length : Int) = (i : Int) := ⟨_, (Int.toNat_of_nonneg ht0).symm⟩
      rw [hi] at ht1 ⊢
      have hil : i < left.length := by omega
      have hr : rd left (i : Int) = left[i] := by
        unfold rd
        simp only [Int.toNat_natCast, List.getD_eq_getElem?_getD, List.getElem?_eq_getElem hil, Option.getD_some]
      obtain ⟨outs, c', l', ht, hI'⟩ := step hn hI i hil
      obtain ⟨g1, g2⟩ := hrec i hil outs c' l' ht hI'
      have hrm := (rm hil hI.nd).2.2
      simp only [List.length_append] at hrm
      have e2 := Aside0.mk (show wrap64 ((i : Int) + 1) = ((i + 1 : Nat) : Int) from by rw [w64 (by omega)]; omega)
      have e3 := Aside0.mk (show wrap64 (x9 + 1) = x9 + 1 from w64 (by omega))
      have hA : ([] : List Int).length + (left.take ((i : Int)).toNat).length < 35184372088832 := by
        simp only [List.length_nil, Int.toNat_natCast]
        clear e2 e3 hi ht0 hrd ht hr
        omega
      have hB2 : ([] ++ left.take ((i : Int)).toNat).length + (left.drop (((i + 1 : Nat) : Int)).toNat).length < 35184372088832 := by
        simp only [List.nil_append, Int.toNat_natCast]
        clear e2 e3 hi ht0 hrd ht hr
        omega
      have hC : ((i : Int)) ≤ (left.length : Int) := by omega
      have hD : (0 : Int) ≤ ((i + 1 : Nat) : Int) := by omega
      have hE : ((i + 1 : Nat) : Int) ≤ (left.length : Int) := by omega
      rw [if_pos (by omega), if_pos ht1, hr, ht, Option.bind_some, if_pos rfl, if_pos g1, Option.bind_some, if_pos hC, Option.bind_some, if_pos hA, Option.bind_some, e2.out, e3.out, if_pos hD, if_pos hE, Option.bind_some, if_pos hB2]
      exact g2
    · rw [if_neg h1]
      have hil : 0 < left.length := by omega
      have hr : rd left 0 = left[0] := by
        unfold rd
        simp only [Int.toNat_zero, List.getD_eq_getElem?_getD, List.getElem?_eq_getElem hil, Option.getD_some]
      obtain ⟨outs, c', l', ht, hI'⟩ := step hn hI 0 hil
      obtain ⟨g1, g2⟩ := hrec 0 hil outs c' l' ht hI'
      have e3 := Aside0.mk (show wrap64 (x9 + 1) = x9 + 1 from w64 (by omega))
      have e4 := Aside0.mk (show wrap64 1 = 1 from w64 (by omega))
      have hA : ([] : List Int).length + (left.take 0).length < 35184372088832 := by simp
      have hB2 : ([] ++ left.take 0).length + (left.drop (1 : Int).toNat).length < 35184372088832 := by
        have : (left.drop (1 : Int).toNat).length ≤ left.length := by rw [List.length_drop]; omega
        simp only [List.take_zero, List.append_nil, List.length_nil]
        omega
      have hC : (0 : Int) ≤ (left.length : Int) := by omega
      have hD : (0 : Int) ≤ 1 := by omega
      have hE : (1 : Int) ≤ (left.length : Int) := by omega
      rw [if_pos (by omega), hr, ht, Option.bind_some, if_pos rfl, if_pos g1, Option.bind_some, if_pos hC, Option.bind_some, if_pos hA, Option.bind_some, e4.out, e3.out, if_pos hD, if_pos hE, Option.bind_some, if_pos hB2]
      exact g2

theorem l0_ok (n : Int) (x1 : List Int) (hn : n ≤ 64) (h0 : 0 ≤ n) (hw : ∀ x ∈ x1, 0 ≤ x ∧ x ≤ 65535) (B : Nat) (hB : 200 ≤ B) :
    ∀ (d k : Nat) (i : Nat) (left : List Int), (i : Int) + d = n → d + B < k → left.length = i → left.Nodup → (∀ p, p ∈ left ↔ 1 ≤ p ∧ p ≤ i) → consortlaw10_StreamWhole.l0 k n x1 left i = some true := by
  intro d
  induction d with
  | zero =>
    intro k i left hi hk hl hnd hm
    obtain ⟨k, rfl⟩ : ∃ k', k = k' + 1 := ⟨k - 1, by omega⟩
    rw [consortlaw10_StreamWhole.l0]
    rw [if_neg (by omega)]
    simp only [stream_New.f, Option.bind_some]
    have e : mx 1 (mn 64 64) = 64 := by unfold mx mn; simp
    rw [e]
    refine l1_ok n x1 hn h0 hw 66 (Nat.le_refl _) left.length k left [] 0 0 [] rfl (by omega) ⟨Inv.new 64 (by omega), hnd, fun p hp => ?_, rfl, by simp, fun j h1 h2 => .inl ((hm j).2 ⟨h1, by omega⟩), by simp; omega⟩ (by omega) (by omega)
    have := (hm p).1 hp
    exact ⟨by omega, by omega, rfl⟩
  | succ d ih =>
    intro k i left hi hk hl hnd hm
    obtain ⟨k, rfl⟩ : ∃ k', k = k' + 1 := ⟨k - 1, by omega⟩
    rw [consortlaw10_StreamWhole.l0]
    have e : (wrap64 ((i : Int) + 1)) = ((i + 1 : Nat) : Int) := by rw [w64 (by omega)]; omega
    rw [if_pos (by omega), if_pos (by omega), e]
    have e2 : ((i + 1 : Nat) : Int) % 4294967296 = ((i + 1 : Nat) : Int) := by omega
    rw [e2]
    refine ih k (i + 1) _ (by omega) (by omega) (by simp [hl]) ?_ ?_
    · rw [List.nodup_append]
      refine ⟨hnd, by simp, fun a ha b hb => ?_⟩
      have := (hm a).1 ha
      simp only [List.mem_singleton] at hb
      omega
    · intro p
      simp only [List.mem_append, List.mem_singleton, hm p]
      omega

theorem StreamWhole : consortlaw10_StreamWhole.Pure := by
  intro n x1 hn _ _ hw
  refine ⟨300, ?_⟩
  unfold consortlaw10_StreamWhole.f
  rw [awake_is, Option.bind_some, if_pos rfl]
  by_cases h1 : n < 0
  · rw [if_pos h1]
    rw [consortlaw10_StreamWhole.j0]
    rfl
  by_cases h2 : n > 64
  · rw [if_neg h1, if_pos h2]
    rw [consortlaw10_StreamWhole.j0]
    rfl
  rw [if_neg h1, if_neg h2]
  rw [consortlaw10_StreamWhole.j0]
  split
  · rfl
  · refine l0_ok n x1 (by omega) (by omega) (fun x hx => ?_) 200 (Nat.le_refl _) n.toNat 299 0 [] (by omega) (by omega) rfl (by simp) (by simp; omega)
    have := hw x hx
    simp only [Lit.wf, Bool.and_eq_true, decide_eq_true_eq] at this
    exact this
end Go.Proofs.Ytmedahgbmebegaa.Pure
