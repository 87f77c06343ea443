import Derived.Test.YtlkemknhmfjdpaaHandO2
/- The reference's ParseItem: its contract; it answers as log.ParseItem. -/
namespace Go.Proofs.Ytlkemknhmfjdpaa.P
open Go.RowKit Go.Proofs.YtlkemknhmfjdpaaW.PrintWords Go.Proofs.YtlkemknhmfjdpaaW.PrintLast Go.Proofs.YtlkemknhmfjdpaaW.PrintMore
set_option linter.unusedVariables false
set_option linter.unusedSimpArgs false

theorem rbad_keep {s : ByteArray} {p e c : Int} {b : Bool} (he : e ≠ 0) : consortref19_taker_bad.f s p e c b = some (s, p, e) := by rw [Pure.tk_bad, if_neg (fun hh => he hh.2)]
theorem rbad_no {s : ByteArray} {p e c : Int} {b : Bool} (hb : b = false) : consortref19_taker_bad.f s p e c b = some (s, p, e) := by rw [Pure.tk_bad, if_neg (fun hh => by rw [hb] at hh; exact absurd hh.1 (by decide))]
theorem rbad_set {s : ByteArray} {p c : Int} {b : Bool} (hb : b = true) : consortref19_taker_bad.f s p 0 c b = some (s, p, c) := by rw [Pure.tk_bad, if_pos ⟨hb, rfl⟩]
theorem rnum_ok {s : ByteArray} (hs : s.size ≤ 1000000) (p n : Nat) (e : Int) (h1 : 1 ≤ n) (h8 : n ≤ 8) (h : p + n ≤ s.size) : consortref19_taker_num.f 400 s p e n = some (numAt s p n, s, ((p + n : Nat) : Int), e) := by
  rw [Pure.tk_num 400 (by decide) s p n e hs (by omega) h1 h8, Pure.tkV, if_pos (by omega), Pure.tkE_ok (by omega)]
theorem rnum_ne {s : ByteArray} (hs : s.size ≤ 1000000) (p n : Nat) (e : Int) (h1 : 1 ≤ n) (h8 : n ≤ 8) (hp : p ≤ 2000000) (he : e ≠ 0) : consortref19_taker_num.f 400 s p e n = some (Pure.tkV s p n, s, ((p + n : Nat) : Int), e) := by
  rw [Pure.tk_num 400 (by decide) s p n e hs hp h1 h8, Pure.tkE_ne he]
theorem rnum_2 {s : ByteArray} (hs : s.size ≤ 1000000) (p n : Nat) (h1 : 1 ≤ n) (h8 : n ≤ 8) (hp : p ≤ 2000000) (h : s.size < p + n) : consortref19_taker_num.f 400 s p 0 n = some (0, s, ((p + n : Nat) : Int), 2) := by
  rw [Pure.tk_num 400 (by decide) s p n 0 hs hp h1 h8, Pure.tkV, if_neg (by omega), Pure.tkE_2 (.inl rfl) (by omega)]
/-- The flags. -/
theorem flag_lo {f : Int} (h0 : 0 ≤ f) (h3 : f ≤ 3) : (f.tmod 2 == 1) = (bits BinOp.and IntKind.u64 f 1 != 0) := by
  have : f = 0 ∨ f = 1 ∨ f = 2 ∨ f = 3 := by omega
  rcases this with rfl | rfl | rfl | rfl <;> decide
theorem flag_hi {f : Int} (h0 : 0 ≤ f) (h3 : f ≤ 3) : (IntKind.u64.wrap (f.tdiv 2) == 1) = (bits BinOp.and IntKind.u64 f 2 != 0) := by
  have : f = 0 ∨ f = 1 ∨ f = 2 ∨ f = 3 := by omega
  rcases this with rfl | rfl | rfl | rfl <;> decide
def consortref19_ParseItem.f (a0 : ByteArray) : Option ItemT := log_ParseItem.f a0
set_option maxHeartbeats 1000000 in
theorem consortref19_ParseItem.calls (a0 : ByteArray) (r1 : Int) (r2 : ByteArray) (r3 r4 : Int) (r5 r6 : Bool) (r7 r8 r9 r10 : Int) (r11 : List S27) (r12 r13 r14 r15 r16 r17 r18 r19 : Int) (w : World) (h : consortref19_ParseItem.f a0 = some (r1, r2, r3, r4, r5, r6, r7, r8, r9, r10, r11, r12, r13, r14, r15, r16, r17, r18, r19)) :
    Calls Try.prog 16 #[.string a0] w fun e w' => ∃ v10_ : Value, e = .returned (.tuple #[.agg #[.int .i64 r1, .string r2, .int .u32 r3, .int .u64 r4, .bool r5, .bool r6, .int .u64 r7, .int .u64 r8, .int .i64 r9, .int .u64 r10, v10_, .int .u64 r12, .int .u64 r13, .int .i64 r14, .int .u64 r15, .int .u64 r16, .int .i64 r17, .int .i64 r18], .int .i64 r19]) ∧ Kd.R k27 27 w' w.heap.size (fun _ => True) v10_ r11 ∧ Below w.heap.size w w' := by
  unfold consortref19_ParseItem.f log_ParseItem.f at h
  by_cases hs : a0.size ≤ 1000000
  rotate_left
  · rw [if_neg hs] at h
    cases h
  rw [if_pos hs] at h
  have bad : ∀ c : Int, itemE a0 = c → c ≠ 0 → (Calls Try.prog 16 #[.string a0] w fun e w' => e = .returned (.tuple #[.agg #[.int .i64 0, .string ⟨#[]⟩, .int .u32 0, .int .u64 0, .bool false, .bool false, .int .u64 0, .int .u64 0, .int .i64 0, .int .u64 0, .slice none 0 0, .int .u64 0, .int .u64 0, .int .i64 0, .int .u64 0, .int .u64 0, .int .i64 0, .int .i64 0], .int .i64 c]) ∧ Below w.heap.size w w') →
      Calls Try.prog 16 #[.string a0] w fun e w' => ∃ v10_ : Value, e = .returned (.tuple #[.agg #[.int .i64 r1, .string r2, .int .u32 r3, .int .u64 r4, .bool r5, .bool r6, .int .u64 r7, .int .u64 r8, .int .i64 r9, .int .u64 r10, v10_, .int .u64 r12, .int .u64 r13, .int .i64 r14, .int .u64 r15, .int .u64 r16, .int .i64 r17, .int .i64 r18], .int .i64 r19]) ∧ Kd.R k27 27 w' w.heap.size (fun _ => True) v10_ r11 ∧ Below w.heap.size w w' := by
    intro c hc h0 hcall
    rw [hc, if_neg h0] at h
    simp only [Option.some.injEq, Prod.mk.injEq] at h
    obtain ⟨rfl, rfl, rfl, rfl, rfl, rfl, rfl, rfl, rfl, rfl, rfl, rfl, rfl, rfl, rfl, rfl, rfl, rfl, rfl⟩ := h
    exact hcall.mono fun e w' hh => ⟨_, hh.1, Kd.R_nil _ _ _ _ _, hh.2⟩
  have good : itemE a0 = 0 → itemAt a0 = (r1, r2, r3, r4, r5, r6, r7, r8, r9, r10, r11, r12, r13, r14, r15, r16, r17, r18, r19) := by
    intro h0
    rw [if_pos h0] at h
    exact Option.some.inj h
  by_cases d1 : a0.size < 1
  · have n1 : consortref19_taker_num.f 400 a0 0 0 1 = some (0, a0, 1, 2) := rnum_2 hs 0 1 (by decide) (by decide) (by decide) (by omega)
    exact bad 2 (by rw [itemE, if_pos d1]) (by decide) (ro_lo a0 0 2 2 2 2 0 w (by kernel_rfl) n1 (rbad_keep (by decide)) (rbad_keep (by decide)) (rbad_keep (by decide)) (by decide) (by decide) (by decide))
  have n1 : consortref19_taker_num.f 400 a0 0 0 1 = some (numAt a0 0 1, a0, 1, 0) := rnum_ok hs 0 1 0 (by decide) (by decide) (by omega)
  by_cases d2 : kindN a0 < 1 ∨ 4 < kindN a0
  · refine bad 10 (by rw [itemE, if_neg d1, if_pos d2]) (by decide) ?_
    rcases d2 with d2 | d2
    · exact ro_lo a0 _ 0 10 10 10 (kindN a0) w rfl n1 (rbad_set rfl) (rbad_keep (by decide)) (rbad_keep (by decide)) d2 (by decide) (by decide)
    · exact ro_hi a0 _ 0 10 10 10 (kindN a0) w rfl n1 (rbad_set (decide_eq_true d2)) (rbad_keep (by decide)) (rbad_keep (by decide)) d2 (by decide) (by decide)
  have k2bad : ∀ e3 v4 e4 v5 e5 v6 e6 e7 : Int, kindN a0 = 2 → consortref19_taker_bad.f a0 1 0 3 (decide (1024 < (a0.size : Int))) = some (a0, 1, e3) → consortref19_taker_num.f 400 a0 1 e3 4 = some (v4, a0, 5, e4) → consortref19_taker_num.f 400 a0 5 e4 8 = some (v5, a0, 13, e5) → consortref19_taker_num.f 400 a0 13 e5 1 = some (v6, a0, 14, e6) → consortref19_taker_bad.f a0 14 e6 1 (decide (3 < v6)) = some (a0, 14, e7) → e7 ≠ 0 →
      Calls Try.prog 16 #[.string a0] w fun e w' => e = .returned (.tuple #[.agg #[.int .i64 0, .string ⟨#[]⟩, .int .u32 0, .int .u64 0, .bool false, .bool false, .int .u64 0, .int .u64 0, .int .i64 0, .int .u64 0, .slice none 0 0, .int .u64 0, .int .u64 0, .int .i64 0, .int .u64 0, .int .u64 0, .int .i64 0, .int .i64 0], .int .i64 e7]) ∧ Below w.heap.size w w' := by
    intro e3 v4 e4 v5 e5 v6 e6 e7 hk b3 n4 n5 n6 b7 h7
    obtain ⟨u0, u1, u2, u3, l, q, hr, _⟩ := Pure.tk_record 400 (by decide) a0 14 e7 hs (by decide)
    rw [if_neg h7] at hr
    exact ro2_bad a0 _ 0 0 e3 v4 e4 v5 e5 v6 e6 e7 u0 u1 u2 u3 q e7 e7 l w hk n1 (rbad_no rfl) b3 n4 n5 n6 b7 hr (rbad_keep h7) _ _ rfl rfl h7 h7
  by_cases d3 : 1024 < a0.size
  · have b3 : consortref19_taker_bad.f a0 1 0 3 (decide (1024 < (a0.size : Int))) = some (a0, 1, 3) := rbad_set (decide_eq_true (by omega))
    refine bad 3 (by rw [itemE, if_neg d1, if_neg d2, if_pos d3]) (by decide) ?_
    by_cases k1 : kindN a0 = 1
    · exact ro1_bad a0 _ 0 0 3 3 w k1 n1 (rbad_no rfl) b3 (rbad_keep (by decide)) (by decide) (by decide)
    by_cases k2 : kindN a0 = 2
    · exact k2bad 3 _ 3 _ 3 _ 3 3 k2 b3 (rnum_ne hs 1 4 3 (by decide) (by decide) (by decide) (by decide)) (rnum_ne hs 5 8 3 (by decide) (by decide) (by decide) (by decide)) (rnum_ne hs 13 1 3 (by decide) (by decide) (by decide) (by decide)) (rbad_keep (by decide)) (by decide)
    by_cases k3 : kindN a0 = 3
    · obtain ⟨u0, u1, u2, u3, hv, _⟩ := Pure.tk_view 400 (by decide) a0 1 3 hs (by decide)
      rw [if_neg (by decide)] at hv
      exact ro3_bad a0 _ 0 0 3 u0 u1 u2 u3 3 3 w k3 n1 (rbad_no rfl) b3 hv (rbad_keep (by decide)) (by decide) (by decide)
    · exact ro4_bad a0 _ 0 0 3 _ 3 _ 3 _ 3 3 w (show kindN a0 = 4 by omega) n1 (rbad_no rfl) b3 (rnum_ne hs 1 8 3 (by decide) (by decide) (by decide) (by decide)) (rnum_ne hs 9 2 3 (by decide) (by decide) (by decide) (by decide)) (rnum_ne hs 11 2 3 (by decide) (by decide) (by decide) (by decide)) (rbad_keep (by decide)) (by decide) (by decide)
  have b3 : consortref19_taker_bad.f a0 1 0 3 (decide (1024 < (a0.size : Int))) = some (a0, 1, 0) := rbad_no (decide_eq_false (by omega))
  have e0 : itemE a0 = if kindN a0 = 1 then 0
      else if kindN a0 = 2 then (if a0.size < 14 then 2 else if 3 < numAt a0 13 1 then 1 else if recE a0 14 ≠ 0 then recE a0 14 else if 14 + 26 + 25 * ((recN a0 14).toNat : Int) < a0.size then 4 else 0)
      else if kindN a0 = 3 then (if viewE a0 1 ≠ 0 then viewE a0 1 else if 26 < a0.size then 4 else 0)
      else if a0.size < 13 then 2 else 0 := by rw [itemE, if_neg d1, if_neg d2, if_neg d3]
  by_cases k1 : kindN a0 = 1
  · have hg := good (by rw [e0, if_pos k1])
    rw [itemAt, if_pos k1] at hg
    simp only [Prod.mk.injEq] at hg
    obtain ⟨rfl, rfl, rfl, rfl, rfl, rfl, rfl, rfl, rfl, rfl, rfl, rfl, rfl, rfl, rfl, rfl, rfl, rfl, rfl⟩ := hg
    exact (ro1_good a0 _ 0 0 w k1 n1 (rbad_no rfl) b3 (rbad_no rfl) (by omega)).mono fun e w' hh => ⟨_, hh.1, Kd.R_nil _ _ _ _ _, hh.2⟩
  rw [if_neg k1] at e0
  by_cases k2 : kindN a0 = 2
  · rw [if_pos k2] at e0
    by_cases c1 : a0.size < 14
    · rw [if_pos c1] at e0
      refine bad 2 e0 (by decide) ?_
      by_cases c2 : a0.size < 5
      · exact k2bad 0 _ 2 _ 2 _ 2 2 k2 b3 (rnum_2 hs 1 4 (by decide) (by decide) (by decide) (by omega)) (rnum_ne hs 5 8 2 (by decide) (by decide) (by decide) (by decide)) (rnum_ne hs 13 1 2 (by decide) (by decide) (by decide) (by decide)) (rbad_keep (by decide)) (by decide)
      by_cases c3 : a0.size < 13
      · exact k2bad 0 _ 0 _ 2 _ 2 2 k2 b3 (rnum_ok hs 1 4 0 (by decide) (by decide) (by omega)) (rnum_2 hs 5 8 (by decide) (by decide) (by decide) (by omega)) (rnum_ne hs 13 1 2 (by decide) (by decide) (by decide) (by decide)) (rbad_keep (by decide)) (by decide)
      · exact k2bad 0 _ 0 _ 0 _ 2 2 k2 b3 (rnum_ok hs 1 4 0 (by decide) (by decide) (by omega)) (rnum_ok hs 5 8 0 (by decide) (by decide) (by omega)) (rnum_2 hs 13 1 (by decide) (by decide) (by decide) (by omega)) (rbad_keep (by decide)) (by decide)
    rw [if_neg c1] at e0
    have n4 : consortref19_taker_num.f 400 a0 1 0 4 = some (numAt a0 1 4, a0, 5, 0) := rnum_ok hs 1 4 0 (by decide) (by decide) (by omega)
    have n5 : consortref19_taker_num.f 400 a0 5 0 8 = some (numAt a0 5 8, a0, 13, 0) := rnum_ok hs 5 8 0 (by decide) (by decide) (by omega)
    have n6 : consortref19_taker_num.f 400 a0 13 0 1 = some (numAt a0 13 1, a0, 14, 0) := rnum_ok hs 13 1 0 (by decide) (by decide) (by omega)
    by_cases c2 : 3 < numAt a0 13 1
    · rw [if_pos c2] at e0
      exact bad 1 e0 (by decide) (k2bad 0 _ 0 _ 0 _ 0 1 k2 b3 n4 n5 n6 (rbad_set (decide_eq_true c2)) (by decide))
    rw [if_neg c2] at e0
    have b7 : consortref19_taker_bad.f a0 14 0 1 (decide (3 < numAt a0 13 1)) = some (a0, 14, 0) := rbad_no (decide_eq_false c2)
    obtain ⟨u0, u1, u2, u3, l, q, hr, hx⟩ := Pure.tk_record 400 (by decide) a0 14 0 hs (by decide)
    rw [if_pos rfl] at hr hx
    by_cases c3 : recE a0 14 ≠ 0
    · rw [if_pos c3] at e0
      exact bad _ e0 c3 (ro2_bad a0 _ 0 0 0 _ 0 _ 0 _ 0 0 u0 u1 u2 u3 q (recE a0 14) (recE a0 14) l w k2 n1 (rbad_no rfl) b3 n4 n5 n6 b7 hr (rbad_keep c3) _ _ rfl rfl c3 c3)
    rw [if_neg c3] at e0
    have c3' : recE a0 14 = 0 := Classical.byContradiction c3
    obtain ⟨g1, g2, g3⟩ := hx c3'
    have hr0 : consortref19_taker_record.f 400 a0 14 0 = some (u0, u1, u2, u3, l, a0, q, recE a0 14) := hr
    rw [c3'] at hr0
    have g3' : q = 14 + 26 + 25 * ((recN a0 14).toNat : Int) := g3
    by_cases c4 : 14 + 26 + 25 * ((recN a0 14).toNat : Int) < a0.size
    · rw [if_pos c4] at e0
      exact bad 4 e0 (by decide) (ro2_bad0 a0 _ 0 0 0 _ 0 _ 0 _ 0 0 u0 u1 u2 u3 q 4 l w k2 n1 (rbad_no rfl) b3 n4 n5 n6 b7 hr0 (rbad_set (decide_eq_true (by omega))) _ _ rfl rfl (by decide))
    rw [if_neg c4] at e0
    have hg := good e0
    rw [itemAt, if_neg k1, if_pos k2] at hg
    have g1' : (⟨u0, ⟨u1, u2⟩, u3⟩ : S27) = viewAt a0 14 := g1
    have g2' : l = viewsAt a0 (recN a0 14).toNat (14 + 26) := g2
    rw [← g1', ← g2'] at hg
    simp only [Prod.mk.injEq] at hg
    obtain ⟨rfl, rfl, rfl, rfl, rfl, rfl, rfl, rfl, rfl, rfl, rfl, rfl, rfl, rfl, rfl, rfl, rfl, rfl, rfl⟩ := hg
    have r13 := Pure.rng1 (s := a0) 13 (by omega)
    have r13' : 0 ≤ numAt a0 13 1 ∧ numAt a0 13 1 < 256 := r13
    exact ro2_good a0 _ 0 0 0 _ 0 _ 0 _ 0 0 u0 u1 u2 u3 q l w k2 n1 (rbad_no rfl) b3 n4 n5 n6 b7 hr0 (rbad_no (decide_eq_false (by omega))) _ _ (flag_lo r13'.1 (by omega)) (flag_hi r13'.1 (by omega))
  rw [if_neg k2] at e0
  by_cases k3 : kindN a0 = 3
  · rw [if_pos k3] at e0
    obtain ⟨u0, u1, u2, u3, hv, hx⟩ := Pure.tk_view 400 (by decide) a0 1 0 hs (by decide)
    rw [if_pos rfl] at hv hx
    have hv0 : consortref19_taker_view.f 400 a0 1 0 = some (u0, u1, u2, u3, a0, 26, viewE a0 1) := hv
    by_cases c1 : viewE a0 1 ≠ 0
    · rw [if_pos c1] at e0
      exact bad _ e0 c1 (ro3_bad a0 _ 0 0 0 u0 u1 u2 u3 (viewE a0 1) (viewE a0 1) w k3 n1 (rbad_no rfl) b3 hv0 (rbad_keep c1) c1 c1)
    rw [if_neg c1] at e0
    have c1' : viewE a0 1 = 0 := Classical.byContradiction c1
    rw [c1'] at hv0
    by_cases c2 : 26 < a0.size
    · rw [if_pos c2] at e0
      exact bad 4 e0 (by decide) (ro3_bad0 a0 _ 0 0 0 u0 u1 u2 u3 4 w k3 n1 (rbad_no rfl) b3 hv0 (rbad_set (decide_eq_true (by omega))) (by decide))
    rw [if_neg c2] at e0
    have hg := good e0
    have g1' : (⟨u0, ⟨u1, u2⟩, u3⟩ : S27) = viewAt a0 1 := hx c1'
    rw [itemAt, if_neg k1, if_neg k2, if_pos k3, ← g1'] at hg
    simp only [Prod.mk.injEq] at hg
    obtain ⟨rfl, rfl, rfl, rfl, rfl, rfl, rfl, rfl, rfl, rfl, rfl, rfl, rfl, rfl, rfl, rfl, rfl, rfl, rfl⟩ := hg
    exact (ro3_good a0 _ 0 0 0 u0 u1 u2 u3 w k3 n1 (rbad_no rfl) b3 hv0 (rbad_no (decide_eq_false (by omega)))).mono fun e w' hh => ⟨_, hh.1, Kd.R_nil _ _ _ _ _, hh.2⟩
  rw [if_neg k3] at e0
  have k4 : kindN a0 = 4 := by omega
  by_cases c1 : a0.size < 13
  · rw [if_pos c1] at e0
    refine bad 2 e0 (by decide) ?_
    by_cases c2 : a0.size < 9
    · exact ro4_bad a0 _ 0 0 0 _ 2 _ 2 _ 2 2 w k4 n1 (rbad_no rfl) b3 (rnum_2 hs 1 8 (by decide) (by decide) (by decide) (by omega)) (rnum_ne hs 9 2 2 (by decide) (by decide) (by decide) (by decide)) (rnum_ne hs 11 2 2 (by decide) (by decide) (by decide) (by decide)) (rbad_keep (by decide)) (by decide) (by decide)
    by_cases c3 : a0.size < 11
    · exact ro4_bad a0 _ 0 0 0 _ 0 _ 2 _ 2 2 w k4 n1 (rbad_no rfl) b3 (rnum_ok hs 1 8 0 (by decide) (by decide) (by omega)) (rnum_2 hs 9 2 (by decide) (by decide) (by decide) (by omega)) (rnum_ne hs 11 2 2 (by decide) (by decide) (by decide) (by decide)) (rbad_keep (by decide)) (by decide) (by decide)
    · exact ro4_bad a0 _ 0 0 0 _ 0 _ 0 _ 2 2 w k4 n1 (rbad_no rfl) b3 (rnum_ok hs 1 8 0 (by decide) (by decide) (by omega)) (rnum_ok hs 9 2 0 (by decide) (by decide) (by omega)) (rnum_2 hs 11 2 (by decide) (by decide) (by decide) (by omega)) (rbad_keep (by decide)) (by decide) (by decide)
  rw [if_neg c1] at e0
  have hg := good e0
  rw [itemAt, if_neg k1, if_neg k2, if_neg k3] at hg
  simp only [Prod.mk.injEq] at hg
  obtain ⟨rfl, rfl, rfl, rfl, rfl, rfl, rfl, rfl, rfl, rfl, rfl, rfl, rfl, rfl, rfl, rfl, rfl, rfl, rfl⟩ := hg
  exact (ro4_good a0 _ 0 0 0 _ 0 _ 0 _ w k4 n1 (rbad_no rfl) b3 (rnum_ok hs 1 8 0 (by decide) (by decide) (by omega)) (rnum_ok hs 9 2 0 (by decide) (by decide) (by omega)) (rnum_ok hs 11 2 0 (by decide) (by decide) (by omega)) (rbad_no rfl) (by omega)).mono fun e w' hh => ⟨_, hh.1, Kd.R_nil _ _ _ _ _, hh.2⟩
end Go.Proofs.Ytlkemknhmfjdpaa.P
