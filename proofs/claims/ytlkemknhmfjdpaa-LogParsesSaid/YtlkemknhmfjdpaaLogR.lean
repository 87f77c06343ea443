import Derived.Test.YtlkemknhmfjdpaaPx3
import Derived.Test.YtlkemknhmfjdpaaLogL0
/- The reference's taker: its plain law. -/
namespace Go.Proofs.Ytlkemknhmfjdpaa.Pure
open Go.RowKit Go.Proofs.Ytlkemknhmfjdpaa.P Go.Proofs.YtlkemknhmfjdpaaW.PrintWords Go.Proofs.YtlkemknhmfjdpaaW.PrintLast Go.Proofs.YtlkemknhmfjdpaaW.PrintMore
set_option linter.unusedVariables false
set_option linter.unusedSimpArgs false

/-- The number at a place. -/
def getR (s : ByteArray) (at_ n : Int) : Int × Bool := if 1 ≤ n ∧ n ≤ 8 ∧ 0 ≤ at_ ∧ at_ + n ≤ s.size then ((valN (((D s).drop at_.toNat).take n.toNat) : Int), true) else (0, false)
theorem bt_is (s : ByteArray) (i : Nat) (h : i < s.size) : bt s (i : Int) = (((D s)[i]'(by rw [D_size]; exact h)).toNat : Int) := by
  unfold bt
  rw [dif_pos (by simpa using h)]
  rfl
theorem refget_loop (s : ByteArray) (at_ n : Nat) (hs : s.size ≤ 140737488351232) (hn : n ≤ 8) (ha : at_ + n ≤ s.size) : ∀ (d k i : Nat), i + d = n → d < k →
    consortref01_Get.l0 k s at_ n (valN (((D s).drop at_).take i) : Int) ((at_ + i : Nat) : Int) = some ((valN (((D s).drop at_).take n) : Int), true) := by
  intro d
  have ew : wrap64 ((at_ : Int) + n) = ((at_ + n : Nat) : Int) := by rw [wrap_in (by omega) (by omega)]; omega
  induction d with
  | zero =>
    intro k i hd hk
    obtain ⟨k, rfl⟩ : ∃ m, k = m + 1 := ⟨k - 1, by omega⟩
    simp only [consortref01_Get.l0]
    rw [ew, if_neg (by omega), show i = n by omega]
  | succ d ih =>
    intro k i hd hk
    obtain ⟨k, rfl⟩ : ∃ m, k = m + 1 := ⟨k - 1, by omega⟩
    simp only [consortref01_Get.l0]
    rw [ew, if_pos (by omega), if_pos (by omega), if_pos (by omega), bt_is s (at_ + i) (by omega)]
    have e4 : wrap64 (((at_ + i : Nat) : Int) + 1) = ((at_ + (i + 1) : Nat) : Int) := by rw [wrap_in (by omega) (by omega)]; omega
    have hl : i < ((D s).drop at_).length := by rw [List.length_drop, D_size]; omega
    have e5 : ((D s).drop at_)[i] = (D s)[at_ + i]'(by rw [D_size]; omega) := List.getElem_drop ..
    have e6 : IntKind.u64.wrap (IntKind.u64.wrap ((valN (((D s).drop at_).take i) : Int) * 256) + IntKind.u64.wrap (((D s)[at_ + i]'(by rw [D_size]; omega)).toNat : Int)) = (valN (((D s).drop at_).take (i + 1)) : Int) := by
      rw [List.take_succ_eq_append_getElem hl, valN_snoc, e5]
      have h1 := valN_take ((D s).drop at_) i (by omega)
      have h2 := pow_le (show i ≤ 7 by omega)
      have h3 := ((D s)[at_ + i]'(by rw [D_size]; omega)).toNat_lt
      rw [u64_wrap, u64_wrap, u64_wrap]
      omega
    rw [e4, e6]
    exact ih k (i + 1) (by omega) (by omega)
theorem refget_is (k : Nat) (hk : 12 ≤ k) (s : ByteArray) (at_ n : Int) (hs : s.size ≤ 140737488351232) :
    consortref01_Get.f k s at_ n = some (getR s at_ n) := by
  obtain ⟨k, rfl⟩ : ∃ m, k = m + 1 := ⟨k - 1, by omega⟩
  have hj : consortref01_Get.j0 (k + 1) s at_ n true = some (0, false) := by
    simp only [consortref01_Get.j0]
    rw [if_pos trivial]
  unfold consortref01_Get.f getR
  by_cases h1 : n < 1
  · rw [if_pos h1, if_neg (by omega), hj]
  by_cases h2 : n > 8
  · rw [if_neg h1, if_pos h2, if_neg (by omega), hj]
  by_cases h3 : at_ < 0
  · rw [if_neg h1, if_neg h2, if_pos h3, if_neg (by omega), hj]
  by_cases h4 : at_ > (s.size : Int)
  · rw [if_neg h1, if_neg h2, if_neg h3, if_pos h4, if_neg (by omega), hj]
  rw [if_neg h1, if_neg h2, if_neg h3, if_neg h4]
  have ew : wrap64 ((s.size : Int) - at_) = (s.size : Int) - at_ := wrap_in (by omega) (by omega)
  rw [ew]
  by_cases h5 : (s.size : Int) - at_ < n
  · rw [decide_eq_true h5, hj, if_neg (by omega)]
  · rw [decide_eq_false h5, if_pos (by omega)]
    simp only [consortref01_Get.j0]
    rw [if_neg (by simp)]
    have := refget_loop s at_.toNat n.toNat hs (by omega) (by omega) n.toNat k 0 (by omega) (by omega)
    rw [show ((at_.toNat : Nat) : Int) = at_ by omega, show ((n.toNat : Nat) : Int) = n by omega, show ((at_.toNat + 0 : Nat) : Int) = at_ by omega] at this
    exact this
/-! ### The taker -/
/-- The number that the taker takes. -/
def tkV (s : ByteArray) (p n : Int) : Int := if p + n ≤ s.size then numAt s p n else 0
def tkE (s : ByteArray) (p n e : Int) : Int := if p + n ≤ s.size then e else if e = 0 then 2 else e
theorem tk_num (k : Nat) (hk : 12 ≤ k) (s : ByteArray) (p n : Nat) (e : Int) (hs : s.size ≤ 1000000) (hp : p ≤ 2000000) (h1 : 1 ≤ n) (h8 : n ≤ 8) :
    consortref19_taker_num.f k s p e n = some (tkV s p n, s, ((p + n : Nat) : Int), tkE s p n e) := by
  rw [consortref19_taker_num.f, refget_is k hk s p n (by omega), Option.bind_some, getR]
  have w : wrap64 ((p : Int) + (n : Int)) = ((p + n : Nat) : Int) := by unfold wrap64; omega
  by_cases h : (p : Int) + n ≤ s.size
  · have hn := numAt_sl (s := s) p n h8 (by omega)
    have e1 : ((p : Int)).toNat = p := by omega
    have e2 : ((n : Int)).toNat = n := by omega
    rw [if_pos (by omega), e1, e2, tkV, tkE, if_pos h, if_pos h, hn]
    simp only [Bool.not_true, consortref19_taker_bad.f, Option.bind_some, sl]
    rw [if_neg (by decide), Option.bind_some, w]
  · rw [if_neg (by omega), tkV, tkE, if_neg h, if_neg h]
    simp only [Bool.not_false, consortref19_taker_bad.f, if_true]
    by_cases he : e = 0
    · rw [if_pos he, if_pos he, Option.bind_some, w]
    · rw [if_neg he, if_neg he, Option.bind_some, w]
theorem tk_bad (s : ByteArray) (p e c : Int) (b : Bool) : consortref19_taker_bad.f s p e c b = some (s, p, if b = true ∧ e = 0 then c else e) := by
  rw [consortref19_taker_bad.f]
  cases b
  · simp
  · by_cases he : e = 0
    · simp [he]
    · simp [he]
end Go.Proofs.Ytlkemknhmfjdpaa.Pure
/- The reference's taker: views. -/
namespace Go.Proofs.Ytlkemknhmfjdpaa.Pure
open Go.RowKit Go.Proofs.Ytlkemknhmfjdpaa.P Go.Proofs.YtlkemknhmfjdpaaW.PrintWords Go.Proofs.YtlkemknhmfjdpaaW.PrintLast Go.Proofs.YtlkemknhmfjdpaaW.PrintMore
set_option linter.unusedVariables false
set_option linter.unusedSimpArgs false

theorem w64_i64 (x : Int) : wrap64 x = IntKind.i64.wrap x := (i64_w x).symm
theorem tkE_ok {s : ByteArray} {p n e : Int} (h : p + n ≤ s.size) : tkE s p n e = e := by rw [tkE, if_pos h]
theorem tkE_ne {s : ByteArray} {p n e : Int} (h : e ≠ 0) : tkE s p n e = e := by
  rw [tkE, if_neg h]
  split <;> rfl
theorem tkE_02 {s : ByteArray} {p n e : Int} (h : e = 0 ∨ e = 2) : tkE s p n e = 0 ∨ tkE s p n e = 2 := by
  rw [tkE]
  split
  · exact h
  · split
    · exact .inr rfl
    · rcases h with h | h
      · exact absurd h (by assumption)
      · exact .inr h
theorem tkE_2 {s : ByteArray} {p n e : Int} (h : e = 0 ∨ e = 2) (hf : ¬ p + n ≤ s.size) : tkE s p n e = 2 := by
  rw [tkE, if_neg hf]
  rcases h with h | h
  · rw [if_pos h]
  · rw [h, if_neg (by decide)]
theorem tk_view (k : Nat) (hk : 12 ≤ k) (s : ByteArray) (p : Nat) (e : Int) (hs : s.size ≤ 1000000) (hp : p ≤ 1500000) :
    ∃ v0 v1 v2 v3 : Int, consortref19_taker_view.f k s p e = some (v0, v1, v2, v3, s, ((p + 25 : Nat) : Int), if e = 0 then viewE s p else e) ∧ ((if e = 0 then viewE s p else e) = 0 → (⟨v0, ⟨v1, v2⟩, v3⟩ : S27) = P.viewAt s p) := by
  have n1 := tk_num k hk s p 8 e hs (by omega) (by decide) (by decide)
  have n2 := tk_num k hk s (p + 8) 8 (tkE s p (8 : Nat) e) hs (by omega) (by decide) (by decide)
  have n3 := tk_num k hk s (p + 16) 1 (tkE s ((p + 8 : Nat) : Int) (8 : Nat) (tkE s p (8 : Nat) e)) hs (by omega) (by decide) (by decide)
  have n4 := fun e' => tk_num k hk s (p + 17) 8 e' hs (by omega) (by decide) (by decide)
  have c8 : ((8 : Nat) : Int) = 8 := rfl
  have c1 : ((1 : Nat) : Int) = 1 := rfl
  rw [c8] at n1 n2 n3
  rw [c1] at n3
  simp only [c8] at n4
  have a1 : p + 8 + 8 = p + 16 := by omega
  have a2 : p + 16 + 1 = p + 17 := by omega
  have a3 : p + 17 + 8 = p + 25 := by omega
  rw [a1] at n2
  rw [a2] at n3
  simp only [a3] at n4
  have hf : consortref19_taker_view.f k s p e = some (tkV s p 8, tkV s ((p + 8 : Nat) : Int) 8, wrap64 (tkV s ((p + 16 : Nat) : Int) 1), tkV s ((p + 17 : Nat) : Int) 8, s, ((p + 25 : Nat) : Int),
      tkE s ((p + 17 : Nat) : Int) 8 (if decide (wrap64 (tkV s ((p + 16 : Nat) : Int) 1) > 63) = true ∧ tkE s ((p + 16 : Nat) : Int) 1 (tkE s ((p + 8 : Nat) : Int) 8 (tkE s p 8 e)) = 0 then 1 else tkE s ((p + 16 : Nat) : Int) 1 (tkE s ((p + 8 : Nat) : Int) 8 (tkE s p 8 e)))) := by
    rw [consortref19_taker_view.f, n1, Option.bind_some, n2, Option.bind_some, n3, Option.bind_some, tk_bad, Option.bind_some, n4, Option.bind_some]
  have e8 : (p : Int) + 8 = ((p + 8 : Nat) : Int) := by omega
  have e16 : (p : Int) + 16 = ((p + 16 : Nat) : Int) := by omega
  have e17 : (p : Int) + 17 = ((p + 17 : Nat) : Int) := by omega
  have hE : tkE s ((p + 17 : Nat) : Int) 8 (if decide (wrap64 (tkV s ((p + 16 : Nat) : Int) 1) > 63) = true ∧ tkE s ((p + 16 : Nat) : Int) 1 (tkE s ((p + 8 : Nat) : Int) 8 (tkE s p 8 e)) = 0 then 1 else tkE s ((p + 16 : Nat) : Int) 1 (tkE s ((p + 8 : Nat) : Int) 8 (tkE s p 8 e))) = (if e = 0 then viewE s p else e) := by
    have hv : viewE s p = if s.size < p + 17 then 2 else if 64 ≤ wrap64 (numAt s ((p + 16 : Nat) : Int) 1) then 1 else if s.size < p + 25 then 2 else 0 := by
      rw [viewE, e16, w64_i64]
      by_cases h : s.size < p + 17
      · rw [if_pos h, if_pos (by omega)]
      · rw [if_neg h, if_neg (by omega)]
        split
        · rfl
        · by_cases h2 : s.size < p + 25
          · rw [if_pos h2, if_pos (by omega)]
          · rw [if_neg h2, if_neg (by omega)]
    rw [hv]
    by_cases he : e = 0
    · subst he
      rw [if_pos rfl]
      by_cases h17 : s.size < p + 17
      · have z3 : tkE s ((p + 16 : Nat) : Int) 1 (tkE s ((p + 8 : Nat) : Int) 8 (tkE s p 8 0)) = 2 := tkE_2 (tkE_02 (tkE_02 (.inl rfl))) (by omega)
        rw [z3, if_neg (fun hh => absurd hh.2 (by decide)), tkE_ne (by decide), if_pos h17]
      · have z3 : tkE s ((p + 16 : Nat) : Int) 1 (tkE s ((p + 8 : Nat) : Int) 8 (tkE s p 8 0)) = 0 := by rw [tkE_ok (by omega), tkE_ok (by omega), tkE_ok (by omega)]
        have y3 : tkV s ((p + 16 : Nat) : Int) 1 = numAt s ((p + 16 : Nat) : Int) 1 := by rw [tkV, if_pos (by omega)]
        rw [z3, y3, if_neg h17]
        by_cases h64 : 64 ≤ wrap64 (numAt s ((p + 16 : Nat) : Int) 1)
        · rw [if_pos h64, if_pos ⟨decide_eq_true (by omega), rfl⟩, tkE_ne (by decide)]
        · rw [if_neg h64, if_neg (fun hh => h64 (by have := of_decide_eq_true hh.1; omega))]
          by_cases h25 : s.size < p + 25
          · rw [if_pos h25, tkE_2 (.inl rfl) (by omega)]
          · rw [if_neg h25, tkE_ok (by omega)]
    · rw [if_neg he, tkE_ne he, tkE_ne he, tkE_ne he, if_neg (fun hh => he hh.2), tkE_ne he]
  rw [hE] at hf
  refine ⟨_, _, _, _, hf, fun h0 => ?_⟩
  by_cases he : e = 0
  · rw [if_pos he] at h0
    obtain ⟨z1, z2⟩ := viewE_zero h0
    rw [P.viewAt, e8, e16, e17, ← w64_i64]
    simp only [tkV]
    rw [if_pos (by omega), if_pos (by omega), if_pos (by omega), if_pos (by omega)]
  · rw [if_neg he] at h0
    exact absurd h0 he
end Go.Proofs.Ytlkemknhmfjdpaa.Pure
