import Derived.Test.YtlkemknhmfjdpaaLogR
import Derived.Test.YtlkemknhmfjdpaaPx4
/- The reference's taker: records. -/
namespace Go.Proofs.Ytlkemknhmfjdpaa.Pure
open Go.RowKit Go.Proofs.Ytlkemknhmfjdpaa.P Go.Proofs.YtlkemknhmfjdpaaW.PrintWords Go.Proofs.YtlkemknhmfjdpaaW.PrintLast Go.Proofs.YtlkemknhmfjdpaaW.PrintMore
set_option linter.unusedVariables false
set_option linter.unusedSimpArgs false

theorem tk_loop_bad (k n : Nat) (i : Int) (s : ByteArray) (q e v0 v1 v2 v3 : Int) (acc : List S27) (he : e ≠ 0) : consortref19_taker_record.l0 (k + 1) n i s q e v0 v1 v2 v3 acc = some (v0, v1, v2, v3, acc, s, q, e) := by
  rw [consortref19_taker_record.l0]
  simp only [he, if_false, ite_self]
theorem tk_loop (s : ByteArray) (n : Nat) (hs : s.size ≤ 1000000) (hn : n ≤ 300) (v0 v1 v2 v3 : Int) : ∀ (d k i q : Nat) (acc : List S27), i + d = n → d + 13 ≤ k → q + 25 * d ≤ 1500000 → acc.length + d ≤ 1000 →
    ∃ (l : List S27) (q2 : Int), consortref19_taker_record.l0 k n i s q 0 v0 v1 v2 v3 acc = some (v0, v1, v2, v3, acc ++ l, s, q2, viewsE s d q) ∧ (viewsE s d q = 0 → l = viewsAt s d q ∧ q2 = ((q + 25 * d : Nat) : Int))
  | 0, k, i, q, acc, hi, hk, hq, ha => by
    obtain ⟨k, rfl⟩ : ∃ m, k = m + 1 := ⟨k - 1, by omega⟩
    refine ⟨[], q, ?_, fun _ => ⟨rfl, by omega⟩⟩
    rw [consortref19_taker_record.l0, if_neg (by omega), List.append_nil]
    rfl
  | d + 1, k, i, q, acc, hi, hk, hq, ha => by
    obtain ⟨k, rfl⟩ : ∃ m, k = m + 1 := ⟨k - 1, by omega⟩
    obtain ⟨u0, u1, u2, u3, hv, hx⟩ := tk_view k (by omega) s q 0 hs (by omega)
    rw [if_pos rfl] at hv hx
    have w : wrap64 ((i : Int) + 1) = ((i + 1 : Nat) : Int) := by unfold wrap64; omega
    have e25 : (q : Int) + 25 = ((q + 25 : Nat) : Int) := by omega
    rw [consortref19_taker_record.l0, if_pos (by omega), if_pos rfl, hv, Option.bind_some, if_pos (by omega), w]
    simp only [viewsE, viewsAt]
    by_cases h0 : viewE s q = 0
    · obtain ⟨l, q2, hl, hq2⟩ := tk_loop s n hs hn v0 v1 v2 v3 d k (i + 1) (q + 25) (acc ++ [⟨u0, ⟨u1, u2⟩, u3⟩]) (by omega) (by omega) (by omega) (by rw [List.length_append, List.length_singleton]; omega)
      rw [h0, hl, if_pos rfl, e25]
      refine ⟨⟨u0, ⟨u1, u2⟩, u3⟩ :: l, q2, by rw [List.append_assoc, List.singleton_append], fun hz => ?_⟩
      obtain ⟨g1, g2⟩ := hq2 hz
      exact ⟨by rw [← g1, hx h0], by rw [g2]; omega⟩
    · obtain ⟨k, rfl⟩ : ∃ m, k = m + 1 := ⟨k - 1, by omega⟩
      rw [tk_loop_bad _ _ _ _ _ _ _ _ _ _ _ h0, if_neg h0]
      exact ⟨[⟨u0, ⟨u1, u2⟩, u3⟩], _, rfl, fun hz => absurd hz h0⟩
theorem tk_record (k : Nat) (hk : 300 ≤ k) (s : ByteArray) (p : Nat) (e : Int) (hs : s.size ≤ 1000000) (hp : p ≤ 1000000) :
    ∃ (v0 v1 v2 v3 : Int) (l : List S27) (q : Int), consortref19_taker_record.f k s p e = some (v0, v1, v2, v3, l, s, q, if e = 0 then recE s p else e) ∧ ((if e = 0 then recE s p else e) = 0 → (⟨v0, ⟨v1, v2⟩, v3⟩ : S27) = P.viewAt s p ∧ l = viewsAt s (recN s p).toNat (p + 26) ∧ q = p + 26 + 25 * ((recN s p).toNat : Int)) := by
  obtain ⟨v0, v1, v2, v3, hv, hx⟩ := tk_view k (by omega) s p e hs (by omega)
  have n1 := tk_num k (by omega) s (p + 25) 1 (if e = 0 then viewE s p else e) hs (by omega) (by decide) (by decide)
  rw [show ((1 : Nat) : Int) = 1 from rfl, show p + 25 + 1 = p + 26 by omega] at n1
  have e25 : (p : Int) + 25 = ((p + 25 : Nat) : Int) := by omega
  have e26 : (p : Int) + 26 = ((p + 26 : Nat) : Int) := by omega
  rw [consortref19_taker_record.f, hv, Option.bind_some, n1, Option.bind_some, tk_bad, Option.bind_some]
  obtain ⟨k, rfl⟩ : ∃ m, k = m + 1 := ⟨k - 1, by omega⟩
  by_cases he : e = 0
  rotate_left
  · simp only [he, if_false]
    rw [tkE_ne he, if_neg (fun hh => he hh.2)]
    rw [show wrap64 (tkV s ((p + 25 : Nat) : Int) 1) = ((wrap64 (tkV s ((p + 25 : Nat) : Int) 1)).toNat : Int) by
      rw [tkV]
      split
      · have r := rng1 (s := s) (p + 25) (by omega)
        unfold wrap64; omega
      · kernel_rfl]
    rw [tk_loop_bad _ _ _ _ _ _ _ _ _ _ _ he]
    exact ⟨_, _, _, _, _, _, rfl, fun h0 => by first | exact absurd h0 he | simp_all⟩
  subst he
  simp only [if_true] at hx ⊢
  by_cases h0 : viewE s p = 0
  rotate_left
  · rw [recE, if_neg h0, tkE_ne h0, if_neg (fun hh => h0 hh.2)]
    rw [show wrap64 (tkV s ((p + 25 : Nat) : Int) 1) = ((wrap64 (tkV s ((p + 25 : Nat) : Int) 1)).toNat : Int) by
      rw [tkV]
      split
      · have r := rng1 (s := s) (p + 25) (by omega)
        unfold wrap64; omega
      · kernel_rfl]
    rw [tk_loop_bad _ _ _ _ _ _ _ _ _ _ _ h0]
    exact ⟨_, _, _, _, _, _, rfl, fun h1 => absurd h1 h0⟩
  rw [h0, recE, if_pos h0]
  by_cases h1 : (s.size : Int) < p + 26
  · have hz : tkE s ((p + 25 : Nat) : Int) 1 0 = 2 := tkE_2 (.inl rfl) (by omega)
    have hv0 : tkV s ((p + 25 : Nat) : Int) 1 = 0 := by rw [tkV, if_neg (by omega)]
    rw [hz, hv0, if_pos h1, if_neg (fun hh => absurd hh.2 (by decide))]
    rw [show wrap64 0 = ((0 : Nat) : Int) by kernel_rfl, tk_loop_bad _ _ _ _ _ _ _ _ _ _ _ (by decide)]
    exact ⟨_, _, _, _, _, _, rfl, fun h2 => absurd h2 (by decide)⟩
  obtain ⟨w, w0⟩ := recN_in (s := s) p (by omega)
  have r := rng1 (s := s) (p + 25) (by omega)
  have hz : tkE s ((p + 25 : Nat) : Int) 1 0 = 0 := tkE_ok (by omega)
  have hv0 : tkV s ((p + 25 : Nat) : Int) 1 = recN s p := by rw [tkV, if_pos (by omega), w]
  have hw : wrap64 (recN s p) = (((recN s p).toNat : Nat) : Int) := by
    have : recN s p < 256 := by rw [w]; exact r.2
    unfold wrap64; omega
  rw [hz, hv0, if_neg h1, hw]
  by_cases h2 : 32 < recN s p
  · rw [if_pos h2, if_pos ⟨decide_eq_true (by omega), rfl⟩]
    rw [tk_loop_bad _ _ _ _ _ _ _ _ _ _ _ (by decide)]
    exact ⟨_, _, _, _, _, _, rfl, fun h3 => absurd h3 (by decide)⟩
  rw [if_neg h2, if_neg (fun hh => h2 (by have := of_decide_eq_true hh.1; omega)), e26]
  obtain ⟨l, q2, hl, hq⟩ := tk_loop s (recN s p).toNat hs (by omega) v0 v1 v2 v3 (recN s p).toNat (k + 1) 0 (p + 26) [] (by omega) (by omega) (by omega) (by rw [List.length_nil]; omega)
  rw [show ((0 : Nat) : Int) = 0 from rfl] at hl
  rw [hl, List.nil_append]
  exact ⟨_, _, _, _, _, _, rfl, fun h3 => ⟨hx h0, (hq h3).1, by rw [(hq h3).2]; omega⟩⟩
end Go.Proofs.Ytlkemknhmfjdpaa.Pure
/- The reference's Parse: what its taker's calls give. -/
namespace Go.Proofs.Ytlkemknhmfjdpaa.Pure
open Go.RowKit Go.Proofs.Ytlkemknhmfjdpaa.P Go.Proofs.YtlkemknhmfjdpaaW.PrintWords Go.Proofs.YtlkemknhmfjdpaaW.PrintLast Go.Proofs.YtlkemknhmfjdpaaW.PrintMore
set_option linter.unusedVariables false
set_option linter.unusedSimpArgs false

/-- The reference's Parse, call by call. -/
theorem ref_parse (s : ByteArray) (hs : s.size ≤ 1000000) : ∃ (v1 e1 e2 v2 e3 v3 e4 r0 r1 r2 r3 : Int) (l : List S27) (q e5 e6 : Int),
    consortref19_taker_num.f 400 s 0 0 1 = some (v1, s, 1, e1) ∧ consortref19_taker_bad.f s 1 e1 10 (v1 != 1) = some (s, 1, e2) ∧ consortref19_taker_num.f 400 s 1 e2 8 = some (v2, s, 9, e3) ∧ consortref19_taker_num.f 400 s 9 e3 4 = some (v3, s, 13, e4) ∧
    consortref19_taker_record.f 400 s 13 e4 = some (r0, r1, r2, r3, l, s, q, e5) ∧ consortref19_taker_bad.f s q e5 4 (decide (q < s.size)) = some (s, q, e6) ∧ e6 = parseE s ∧
    (e6 = 0 → v2 = numAt s 1 8 ∧ v3 = numAt s 9 4 ∧ (⟨r0, ⟨r1, r2⟩, r3⟩ : S27) = P.viewAt s 13 ∧ l = viewsAt s (recN s 13).toNat (13 + 26)) := by
  have n1 : consortref19_taker_num.f 400 s 0 0 1 = some (tkV s 0 1, s, 1, tkE s 0 1 0) := tk_num 400 (by decide) s 0 1 0 hs (by decide) (by decide) (by decide)
  obtain ⟨e2, he2⟩ : ∃ x, x = if (tkV s 0 1 != 1) = true ∧ tkE s 0 1 0 = 0 then (10 : Int) else tkE s 0 1 0 := ⟨_, rfl⟩
  have n2 : consortref19_taker_num.f 400 s 1 e2 8 = some (tkV s 1 8, s, 9, tkE s 1 8 e2) := tk_num 400 (by decide) s 1 8 e2 hs (by decide) (by decide) (by decide)
  have n3 : consortref19_taker_num.f 400 s 9 (tkE s 1 8 e2) 4 = some (tkV s 9 4, s, 13, tkE s 9 4 (tkE s 1 8 e2)) := tk_num 400 (by decide) s 9 4 _ hs (by decide) (by decide) (by decide)
  obtain ⟨e4, he4⟩ : ∃ x, x = tkE s 9 4 (tkE s 1 8 e2) := ⟨_, rfl⟩
  obtain ⟨r0, r1, r2, r3, l, q, hr, hg⟩ := tk_record 400 (by decide) s 13 e4 hs (by decide)
  have hr' : consortref19_taker_record.f 400 s 13 e4 = some (r0, r1, r2, r3, l, s, q, if e4 = 0 then recE s 13 else e4) := hr
  have hg' : (if e4 = 0 then recE s 13 else e4) = 0 → (⟨r0, ⟨r1, r2⟩, r3⟩ : S27) = P.viewAt s 13 ∧ l = viewsAt s (recN s 13).toNat (13 + 26) ∧ q = 13 + 26 + 25 * ((recN s 13).toNat : Int) := hg
  refine ⟨_, _, e2, _, _, _, e4, r0, r1, r2, r3, l, q, _, _, n1, by rw [tk_bad, he2], n2, by rw [n3, he4], hr', tk_bad _ _ _ _ _, ?_, ?_⟩
  · unfold parseE
    by_cases d1 : s.size < 1
    · have z1 : tkE s 0 1 0 = 2 := tkE_2 (.inl rfl) (by omega)
      have z2 : e2 = 2 := by rw [he2, z1, if_neg (fun hh => absurd hh.2 (by decide))]
      have z4 : e4 = 2 := by rw [he4, z2, tkE_ne (s := s) (p := 1) (n := 8) (by decide), tkE_ne (by decide)]
      rw [z4, if_pos d1, if_neg (show ¬ (2 : Int) = 0 by decide), if_neg (fun hh => absurd hh.2 (by decide))]
    have z1 : tkE s 0 1 0 = 0 := tkE_ok (by omega)
    have y1 : tkV s 0 1 = numAt s 0 1 := by rw [tkV, if_pos (by omega)]
    rw [if_neg d1]
    by_cases d2 : numAt s 0 1 ≠ 1
    · have z2 : e2 = 10 := by rw [he2, z1, y1, if_pos ⟨bne_iff_ne.mpr d2, rfl⟩]
      have z4 : e4 = 10 := by rw [he4, z2, tkE_ne (s := s) (p := 1) (n := 8) (by decide), tkE_ne (by decide)]
      rw [z4, if_pos d2, if_neg (show ¬ (10 : Int) = 0 by decide), if_neg (fun hh => absurd hh.2 (by decide))]
    have z2 : e2 = 0 := by rw [he2, z1, y1, if_neg (fun hh => d2 (bne_iff_ne.mp hh.1))]
    rw [if_neg d2]
    by_cases d3 : s.size < 13
    · have z4 : e4 = 2 := by rw [he4, z2]; exact tkE_2 (tkE_02 (.inl rfl)) (by omega)
      rw [z4, if_pos d3, if_neg (show ¬ (2 : Int) = 0 by decide), if_neg (fun hh => absurd hh.2 (by decide))]
    have z4 : e4 = 0 := by rw [he4, z2, tkE_ok (by omega), tkE_ok (by omega)]
    rw [z4, if_neg d3, if_pos rfl]
    by_cases d4 : recE s 13 ≠ 0
    · rw [if_pos d4, if_neg (fun hh => d4 hh.2)]
    have d4' : recE s 13 = 0 := Classical.byContradiction d4
    rw [z4, if_pos rfl] at hg'
    rw [if_neg d4, d4', (hg' d4').2.2]
    by_cases d5 : 13 + 26 + 25 * ((recN s 13).toNat : Int) < s.size
    · rw [if_pos d5, if_pos ⟨decide_eq_true d5, rfl⟩]
    · rw [if_neg d5, if_neg (fun hh => d5 (of_decide_eq_true hh.1))]
  · intro h0
    have h5 : (if e4 = 0 then recE s 13 else e4) = 0 := by
      by_cases hx : (if e4 = 0 then recE s 13 else e4) = 0
      · exact hx
      · rw [if_neg (fun hh => hx hh.2)] at h0
        exact h0
    have h4 : e4 = 0 := by
      by_cases hx : e4 = 0
      · exact hx
      · rw [if_neg hx] at h5
        exact h5
    have hz := recE_zero (by rw [if_pos h4] at h5; exact h5)
    obtain ⟨g1, g2, _⟩ := hg' h5
    exact ⟨by rw [tkV, if_pos (by omega)], by rw [tkV, if_pos (by omega)], g1, g2⟩
end Go.Proofs.Ytlkemknhmfjdpaa.Pure
