import Derived.Test.YtlkemknhmfjdpaaHandO
/- The reference's ParseItem, by hand: more walks. -/
namespace Go.Proofs.Ytlkemknhmfjdpaa.P
open Go.RowKit Go.Proofs.YtlkemknhmfjdpaaW.PrintWords Go.Proofs.YtlkemknhmfjdpaaW.PrintLast Go.Proofs.YtlkemknhmfjdpaaW.PrintMore
attribute [local go_sem] max2_int min2_int max_two min_two max_three min_three max_four min_four
set_option linter.unusedVariables false
set_option linter.unusedSimpArgs false

set_option maxHeartbeats 8000000 in
set_option maxRecDepth 100000 in
theorem ro2_bad (s : ByteArray) (v1 e1 e2 e3 v4 e4 v5 e5 v6 e6 e7 r0 r1 r2 r3 q e8 e9 : Int) (l : List S27) (w : World) (hyr : IntKind.i64.wrap v1 = 2) (n1 : consortref19_taker_num.f 400 s 0 0 1 = some (v1, s, 1, e1)) (b2 : consortref19_taker_bad.f s 1 e1 10 false = some (s, 1, e2)) (b3 : consortref19_taker_bad.f s 1 e2 3 (decide (1024 < (s.size : Int))) = some (s, 1, e3)) (n4 : consortref19_taker_num.f 400 s 1 e3 4 = some (v4, s, 5, e4)) (n5 : consortref19_taker_num.f 400 s 5 e4 8 = some (v5, s, 13, e5)) (n6 : consortref19_taker_num.f 400 s 13 e5 1 = some (v6, s, 14, e6)) (b7 : consortref19_taker_bad.f s 14 e6 1 (decide (3 < v6)) = some (s, 14, e7)) (n8 : consortref19_taker_record.f 400 s 14 e7 = some (r0, r1, r2, r3, l, s, q, e8)) (b9 : consortref19_taker_bad.f s q e8 4 (decide (q < (s.size : Int))) = some (s, q, e9)) (fa fb : Bool) (hfa : (v6.tmod 2 == 1) = fa) (hfb : (IntKind.u64.wrap (v6.tdiv 2) == 1) = fb) (h9 : e9 ≠ 0) (h20 : e8 ≠ 0) :
    Calls Try.prog 16 #[.string s] w fun e w' => e = .returned (.tuple #[.agg #[.int .i64 0, .string ⟨#[]⟩, .int .u32 0, .int .u64 0, .bool false, .bool false, .int .u64 0, .int .u64 0, .int .i64 0, .int .u64 0, .slice none 0 0, .int .u64 0, .int .u64 0, .int .i64 0, .int .u64 0, .int .u64 0, .int .i64 0, .int .i64 0], .int .i64 e9]) ∧ Below w.heap.size w w' := by
  obtain ⟨y4, hy4⟩ : ∃ y, y = IntKind.u32.wrap v4 := ⟨_, rfl⟩
  have hyr4 : IntKind.u32.wrap v4 = y4 := hy4.symm
  clear hy4
  have q9 : (e9 != 0) = true := bne_iff_ne.mpr h9
  clear h9
  have q20 : (e8 == 0) = false := beq_eq_false_iff_ne.mpr h20
  clear h20
  have N1 := Aside0.mk n1
  have B2 := Aside0.mk b2
  have B3 := Aside0.mk b3
  have N4 := Aside0.mk n4
  have N5 := Aside0.mk n5
  have N6 := Aside0.mk n6
  have B7 := Aside0.mk b7
  have N8 := Aside0.mk n8
  have B9 := Aside0.mk b9
  have H0 := Aside0.mk (QS.start w s)
  clear n1 b2 b3 n4 n5 n6 b7 n8 b9
  go_enter Try.func16, Try.ntmps16
  go_upto_region 3 with (first | (go_at_call 38; (with_reducible refine (consortref19_taker_num.calls 400 (w.heap.size + 1) s 0 0 1 v1 s 1 e1 w _ H0.out.st H0.out.bel N1.out).mono ?_); rintro _ w1 ⟨rfl, hi, hb, hk⟩; have K1 := Aside0.mk (H0.out.call hi hb hk); clear hi hb hk))
  have K2 := Aside0.mk (QT.start K1.out #[.int .i64 2, .string ⟨#[]⟩, .int .u32 0, .int .u64 0, .bool false, .bool false, .int .u64 0, .int .u64 0, .int .i64 0, .int .u64 0, .slice none 0 0, .int .u64 0, .int .u64 0, .int .i64 0, .int .u64 0, .int .u64 0, .int .i64 0, .int .i64 0])
  generalize w1.alloc (.cells #[.int .i64 2, .string ⟨#[]⟩, .int .u32 0, .int .u64 0, .bool false, .bool false, .int .u64 0, .int .u64 0, .int .i64 0, .int .u64 0, .slice none 0 0, .int .u64 0, .int .u64 0, .int .i64 0, .int .u64 0, .int .u64 0, .int .i64 0, .int .i64 0] 56) = W0 at K2 ⊢
  have k0 := cellAt (i := 0) K2.out.t6 rfl
  go_upto_region 7 with (first | (go_at_call 39; (with_reducible refine (consortref19_taker_bad.calls (w.heap.size + 1) s 1 e1 10 false s 1 e2 w _ K2.out.ns.st K2.out.ns.bel B2.out).mono ?_); rintro _ w2 ⟨rfl, hi, hb, hk⟩; have K3 := Aside0.mk (K2.out.call hi hb hk); clear k0; have k0 := cellAt (i := 0) K3.out.t6 rfl; clear hi hb hk) | (go_at_call 39; (with_reducible refine (consortref19_taker_bad.calls (w.heap.size + 1) s 1 e2 3 (decide (1024 < (s.size : Int))) s 1 e3 w _ K3.out.ns.st K3.out.ns.bel B3.out).mono ?_); rintro _ w3 ⟨rfl, hi, hb, hk⟩; have K4 := Aside0.mk (K3.out.call hi hb hk); clear k0; have k0 := cellAt (i := 0) K4.out.t6 rfl; clear hi hb hk))
  clear k0
  go_upto_region 8 with (first | (go_at_call 38; (with_reducible refine (consortref19_taker_num.calls 400 (w.heap.size + 1) s 1 e3 4 v4 s 5 e4 w _ K4.out.ns.st K4.out.ns.bel N4.out).mono ?_); rintro _ w4 ⟨rfl, hi, hb, hk⟩; have K5 := Aside0.mk (K4.out.call hi hb hk); have s2 := cellAt (i := 2) K5.out.t6 rfl; have f2 := blk_frozen K5.out.t6 2; clear hi hb hk))
  have K6 := Aside0.mk (show QT w (w4.setCell ⟨w1.heap.size, 2, none⟩ (.int .u32 y4)) _ w1.heap.size s 5 e4 #[.int .i64 2, .string ⟨#[]⟩, .int .u32 y4, .int .u64 0, .bool false, .bool false, .int .u64 0, .int .u64 0, .int .i64 0, .int .u64 0, .slice none 0 0, .int .u64 0, .int .u64 0, .int .i64 0, .int .u64 0, .int .u64 0, .int .i64 0, .int .i64 0] from (K5.out.set 2 (.int .u32 y4)))
  clear s2 f2
  generalize (w4.setCell ⟨w1.heap.size, 2, none⟩ (.int .u32 y4)) = W6 at K6 ⊢
  go_upto_region 9 with (first | (go_at_call 38; (with_reducible refine (consortref19_taker_num.calls 400 (w.heap.size + 1) s 5 e4 8 v5 s 13 e5 w _ K6.out.ns.st K6.out.ns.bel N5.out).mono ?_); rintro _ w5 ⟨rfl, hi, hb, hk⟩; have K7 := Aside0.mk (K6.out.call hi hb hk); have s3 := cellAt (i := 3) K7.out.t6 rfl; have f3 := blk_frozen K7.out.t6 3; clear hi hb hk))
  have K8 := Aside0.mk (show QT w (w5.setCell ⟨w1.heap.size, 3, none⟩ (.int .u64 v5)) _ w1.heap.size s 13 e5 #[.int .i64 2, .string ⟨#[]⟩, .int .u32 y4, .int .u64 v5, .bool false, .bool false, .int .u64 0, .int .u64 0, .int .i64 0, .int .u64 0, .slice none 0 0, .int .u64 0, .int .u64 0, .int .i64 0, .int .u64 0, .int .u64 0, .int .i64 0, .int .i64 0] from (K7.out.set 3 (.int .u64 v5)))
  clear s3 f3
  generalize (w5.setCell ⟨w1.heap.size, 3, none⟩ (.int .u64 v5)) = W8 at K8 ⊢
  go_upto_region 10 with (first | (go_at_call 38; (with_reducible refine (consortref19_taker_num.calls 400 (w.heap.size + 1) s 13 e5 1 v6 s 14 e6 w _ K8.out.ns.st K8.out.ns.bel N6.out).mono ?_); rintro _ w6 ⟨rfl, hi, hb, hk⟩; have K9 := Aside0.mk (K8.out.call hi hb hk); clear hi hb hk))
  go_upto_region 12 with (first | (go_at_call 39; (with_reducible refine (consortref19_taker_bad.calls (w.heap.size + 1) s 14 e6 1 (decide (3 < v6)) s 14 e7 w _ K9.out.ns.st K9.out.ns.bel B7.out).mono ?_); rintro _ w7 ⟨rfl, hi, hb, hk⟩; have K10 := Aside0.mk (K9.out.call hi hb hk); have s4 := cellAt (i := 4) K10.out.t6 rfl; have f4 := blk_frozen K10.out.t6 4; clear hi hb hk))
  have K11 := Aside0.mk (show QT w (w7.setCell ⟨w1.heap.size, 4, none⟩ (.bool fa)) _ w1.heap.size s 14 e7 #[.int .i64 2, .string ⟨#[]⟩, .int .u32 y4, .int .u64 v5, .bool fa, .bool false, .int .u64 0, .int .u64 0, .int .i64 0, .int .u64 0, .slice none 0 0, .int .u64 0, .int .u64 0, .int .i64 0, .int .u64 0, .int .u64 0, .int .i64 0, .int .i64 0] from (K10.out.set 4 (.bool fa)))
  clear s4 f4
  generalize (w7.setCell ⟨w1.heap.size, 4, none⟩ (.bool fa)) = W11 at K11 ⊢
  have s5 := cellAt (i := 5) K11.out.t6 rfl; have f5 := blk_frozen K11.out.t6 5
  go_upto_region 13 with fail
  have K12 := Aside0.mk (show QT w (W11.setCell ⟨w1.heap.size, 5, none⟩ (.bool fb)) _ w1.heap.size s 14 e7 #[.int .i64 2, .string ⟨#[]⟩, .int .u32 y4, .int .u64 v5, .bool fa, .bool fb, .int .u64 0, .int .u64 0, .int .i64 0, .int .u64 0, .slice none 0 0, .int .u64 0, .int .u64 0, .int .i64 0, .int .u64 0, .int .u64 0, .int .i64 0, .int .i64 0] from (K11.out.set 5 (.bool fb)))
  clear s5 f5
  generalize (W11.setCell ⟨w1.heap.size, 5, none⟩ (.bool fb)) = W12 at K12 ⊢
  go_upto_region 20 with (first | (go_at_call 40; (with_reducible refine (consortref19_taker_record.calls 400 (w.heap.size + 1) s 14 e7 r0 r1 r2 r3 l s q e8 w _ K12.out.ns.st K12.out.ns.bel N8.out).mono ?_); rintro _ w8 ⟨v10, rfl, ho, hi, hb, hk⟩; obtain ⟨A10, c10, rfl⟩ := Kd.R_slice ho; have HO := Aside0.mk (Kd.R_lower ho K12.out.ns.bel.size); clear ho; have K13 := Aside0.mk (K12.out.call hi hb hk); have s6 := cellAt (i := 6) K13.out.t6 rfl; have f6 := blk_frozen K13.out.t6 6; have s7 := cellAt (i := 7) K13.out.t6 rfl; have f7 := blk_frozen K13.out.t6 7; have s8 := cellAt (i := 8) K13.out.t6 rfl; have f8 := blk_frozen K13.out.t6 8; have s9 := cellAt (i := 9) K13.out.t6 rfl; have f9 := blk_frozen K13.out.t6 9; have s10 := cellAt (i := 10) K13.out.t6 rfl; have f10 := blk_frozen K13.out.t6 10; clear hi hb hk))
  have K14 := Aside0.mk (show QT w (((((w8.setCell ⟨w1.heap.size, 6, none⟩ (.int .u64 r0)).setCell ⟨w1.heap.size, 7, none⟩ (.int .u64 r1)).setCell ⟨w1.heap.size, 8, none⟩ (.int .i64 r2)).setCell ⟨w1.heap.size, 9, none⟩ (.int .u64 r3)).setCell ⟨w1.heap.size, 10, none⟩ (.slice A10 l.length c10)) _ w1.heap.size s q e8 #[.int .i64 2, .string ⟨#[]⟩, .int .u32 y4, .int .u64 v5, .bool fa, .bool fb, .int .u64 r0, .int .u64 r1, .int .i64 r2, .int .u64 r3, .slice A10 l.length c10, .int .u64 0, .int .u64 0, .int .i64 0, .int .u64 0, .int .u64 0, .int .i64 0, .int .i64 0] from (((((K13.out.set 6 (.int .u64 r0)).set 7 (.int .u64 r1)).set 8 (.int .i64 r2)).set 9 (.int .u64 r3)).set 10 (.slice A10 l.length c10)))
  clear s6 f6 s7 f7 s8 f8 s9 f9 s10 f10
  have HO2 := Aside0.mk (show Kd.R k27 27 (((((w8.setCell ⟨w1.heap.size, 6, none⟩ (.int .u64 r0)).setCell ⟨w1.heap.size, 7, none⟩ (.int .u64 r1)).setCell ⟨w1.heap.size, 8, none⟩ (.int .i64 r2)).setCell ⟨w1.heap.size, 9, none⟩ (.int .u64 r3)).setCell ⟨w1.heap.size, 10, none⟩ (.slice A10 l.length c10)) w.heap.size (fun _ => True) (.slice A10 l.length c10) l from Kd.R_mono (Kd.R_far (p := ⟨w1.heap.size, 10, none⟩) (Kd.R_far (p := ⟨w1.heap.size, 9, none⟩) (Kd.R_far (p := ⟨w1.heap.size, 8, none⟩) (Kd.R_far (p := ⟨w1.heap.size, 7, none⟩) (Kd.R_far (p := ⟨w1.heap.size, 6, none⟩) (Kd.R_types HO.out K13.out.t6 (by decide)) (fun _ hk => hk.2) (.int .u64 r0)) (fun _ hk => hk.2) (.int .u64 r1)) (fun _ hk => hk.2) (.int .i64 r2)) (fun _ hk => hk.2) (.int .u64 r3)) (fun _ hk => hk.2) (.slice A10 l.length c10)) (ok' := fun _ => True) (fun _ _ => trivial))
  generalize (((((w8.setCell ⟨w1.heap.size, 6, none⟩ (.int .u64 r0)).setCell ⟨w1.heap.size, 7, none⟩ (.int .u64 r1)).setCell ⟨w1.heap.size, 8, none⟩ (.int .i64 r2)).setCell ⟨w1.heap.size, 9, none⟩ (.int .u64 r3)).setCell ⟨w1.heap.size, 10, none⟩ (.slice A10 l.length c10)) = W14 at K14 HO2 ⊢
  have z2 := cellAt (i := 2) K14.out.ns.st.1 rfl; have k0 := cellAt (i := 0) K14.out.t6 rfl
  go_upto_region 23 with fail
  clear z2 k0
  have z1 := cellAt (i := 1) K14.out.ns.st.1 rfl
  go_upto_if 115 with (first | (go_at_call 39; (with_reducible refine (consortref19_taker_bad.calls (w.heap.size + 1) s q e8 4 (decide (q < (s.size : Int))) s q e9 w _ K14.out.ns.st K14.out.ns.bel B9.out).mono ?_); rintro _ w9 ⟨rfl, hi, hb, hk⟩; have K15 := Aside0.mk (K14.out.call hi hb hk); have z2 := cellAt (i := 2) K15.out.ns.st.1 rfl; clear hi hb hk))
  go_wp2
  refine start_ (n := 7) (S := fun w' : World => w'.cell? ⟨w.heap.size + 1, 2, none⟩ = some (.int .i64 e9)) (ds := []) #[false, false, false, false, false, false, false] (by kernel_rfl) rfl rfl z2 (fun hHeld => ?_)
  clear z2
  have KD := Aside0.mk (K15.out.below (W1 := w9.drew) (below_drew (Below.refl _ _)))
  generalize w9.drew = wd at KD hHeld ⊢
  refine pure_ (i := 0) (N := some 116) (v := ?_) (a' := ?_) #[true, false, false, false, false, false, false] rfl rfl (by kernel_rfl) (fun _ _ _ h => h) (Or.inl ⟨by rfl, ?_⟩) ?_ ?_
  rotate_left
  · intro w'
    go_simp
    with_reducible rfl
  rotate_left
  · simp only [Act.put, List.setIfInBounds_toArray, List.set_cons_zero, List.set_cons_succ, i64_w, i32_w]
    rfl
  refine pure_ (i := 1) (N := some 117) (v := ?_) (a' := ?_) #[true, true, false, false, false, false, false] rfl rfl (by kernel_rfl) (fun _ _ _ h => h) (Or.inl ⟨by rfl, ?_⟩) ?_ ?_
  rotate_left
  · intro w'
    go_simp
    with_reducible rfl
  rotate_left
  · simp only [Act.put, List.setIfInBounds_toArray, List.set_cons_zero, List.set_cons_succ, i64_w, i32_w]
    rfl
  refine pure_ (i := 2) (N := some 118) (v := ?_) (a' := ?_) #[true, true, true, false, false, false, false] rfl rfl (by kernel_rfl) (fun _ _ _ h => h) (Or.inl ⟨by rfl, ?_⟩) ?_ ?_
  rotate_left
  · intro w'
    go_simp
    with_reducible rfl
  rotate_left
  · simp only [Act.put, List.setIfInBounds_toArray, List.set_cons_zero, List.set_cons_succ, i64_w, i32_w]
    rfl
  refine pure_ (i := 3) (N := some 119) (v := ?_) (a' := ?_) #[true, true, true, true, false, false, false] rfl rfl (by kernel_rfl) (fun _ _ _ h => h) (Or.inl ⟨by rfl, ?_⟩) ?_ ?_
  rotate_left
  · intro w'
    go_simp
    with_reducible rfl
  rotate_left
  · simp only [Act.put, List.setIfInBounds_toArray, List.set_cons_zero, List.set_cons_succ, i64_w, i32_w]
    rfl
  refine take_ (i := 4) (N := some 120) (v := ?_) (a' := ?_) #[true, true, true, true, true, false, false] rfl rfl (by kernel_rfl) (fun _ _ _ h => h) (Or.inl ⟨by rfl, ?_⟩) hHeld ?_ ?_
  rotate_left
  · rintro w' z2
    go_simp
    with_reducible rfl
  rotate_left
  · simp only [Act.put, List.setIfInBounds_toArray, List.set_cons_zero, List.set_cons_succ, i64_w, i32_w]
    rfl
  refine one_ (i := 5) (N := none) #[true, true, true, true, true, true, false] rfl rfl (by kernel_rfl) (by decide) (fun K hK => ?_)
  refine storeRow_ rfl (ty := 56) (p := 2) rfl rfl w.heap.size #[.int .i64 0, .string ⟨#[]⟩, .int .u32 0, .int .u64 0, .bool false, .bool false, .int .u64 0, .int .u64 0, .int .i64 0, .int .u64 0, .slice none 0 0, .int .u64 0, .int .u64 0, .int .i64 0, .int .u64 0, .int .u64 0, .int .i64 0, .int .i64 0] rfl rfl 56 #[.int .i64 0, .string ⟨#[]⟩, .int .u32 0, .int .u64 0, .bool false, .bool false, .int .u64 0, .int .u64 0, .int .i64 0, .int .u64 0, .slice none 0 0, .int .u64 0, .int .u64 0, .int .i64 0, .int .u64 0, .int .u64 0, .int .i64 0, .int .i64 0] KD.out.ns.t2 (by kernel_rfl) rfl (by simp [Value.oneCell']) ?_
  intro w7 h7
  have P7 := Aside0.mk (KD.out.res h7)
  refine hK.out _ _ (cellAt (i := 2) P7.out.1.1 rfl) (fun hHeld => ?_)
  clear hK K h7
  refine pure_ (i := 6) (N := some 3) (v := ?_) (a' := ?_) #[true, true, true, true, true, true, true] rfl rfl (by kernel_rfl) (fun _ _ _ h => h) (Or.inl ⟨by rfl, ?_⟩) ?_ ?_
  rotate_left
  · intro w'
    go_simp
    with_reducible rfl
  rotate_left
  · simp only [Act.put, List.setIfInBounds_toArray, List.set_cons_zero, List.set_cons_succ, i64_w, i32_w]
    rfl
  refine done_ (by kernel_rfl) ?_
  go_wp2
  refine bodyPost_ret (results_ct rfl rfl rfl (run_loadVar_row (P := Try.prog) _ w.heap.size 56 56 _ (0, 0) _ P7.out.2.1 Try.underlying56 rfl (by kernel_rfl))) rfl ?_
  exact ⟨rfl, P7.out.2.2⟩
set_option maxHeartbeats 8000000 in
set_option maxRecDepth 100000 in
theorem ro2_bad0 (s : ByteArray) (v1 e1 e2 e3 v4 e4 v5 e5 v6 e6 e7 r0 r1 r2 r3 q e9 : Int) (l : List S27) (w : World) (hyr : IntKind.i64.wrap v1 = 2) (n1 : consortref19_taker_num.f 400 s 0 0 1 = some (v1, s, 1, e1)) (b2 : consortref19_taker_bad.f s 1 e1 10 false = some (s, 1, e2)) (b3 : consortref19_taker_bad.f s 1 e2 3 (decide (1024 < (s.size : Int))) = some (s, 1, e3)) (n4 : consortref19_taker_num.f 400 s 1 e3 4 = some (v4, s, 5, e4)) (n5 : consortref19_taker_num.f 400 s 5 e4 8 = some (v5, s, 13, e5)) (n6 : consortref19_taker_num.f 400 s 13 e5 1 = some (v6, s, 14, e6)) (b7 : consortref19_taker_bad.f s 14 e6 1 (decide (3 < v6)) = some (s, 14, e7)) (n8 : consortref19_taker_record.f 400 s 14 e7 = some (r0, r1, r2, r3, l, s, q, 0)) (b9 : consortref19_taker_bad.f s q 0 4 (decide (q < (s.size : Int))) = some (s, q, e9)) (fa fb : Bool) (hfa : (v6.tmod 2 == 1) = fa) (hfb : (IntKind.u64.wrap (v6.tdiv 2) == 1) = fb) (h9 : e9 ≠ 0) :
    Calls Try.prog 16 #[.string s] w fun e w' => e = .returned (.tuple #[.agg #[.int .i64 0, .string ⟨#[]⟩, .int .u32 0, .int .u64 0, .bool false, .bool false, .int .u64 0, .int .u64 0, .int .i64 0, .int .u64 0, .slice none 0 0, .int .u64 0, .int .u64 0, .int .i64 0, .int .u64 0, .int .u64 0, .int .i64 0, .int .i64 0], .int .i64 e9]) ∧ Below w.heap.size w w' := by
  obtain ⟨y4, hy4⟩ : ∃ y, y = IntKind.u32.wrap v4 := ⟨_, rfl⟩
  have hyr4 : IntKind.u32.wrap v4 = y4 := hy4.symm
  clear hy4
  have q9 : (e9 != 0) = true := bne_iff_ne.mpr h9
  clear h9
  have N1 := Aside0.mk n1
  have B2 := Aside0.mk b2
  have B3 := Aside0.mk b3
  have N4 := Aside0.mk n4
  have N5 := Aside0.mk n5
  have N6 := Aside0.mk n6
  have B7 := Aside0.mk b7
  have N8 := Aside0.mk n8
  have B9 := Aside0.mk b9
  have H0 := Aside0.mk (QS.start w s)
  clear n1 b2 b3 n4 n5 n6 b7 n8 b9
  go_enter Try.func16, Try.ntmps16
  go_upto_region 3 with (first | (go_at_call 38; (with_reducible refine (consortref19_taker_num.calls 400 (w.heap.size + 1) s 0 0 1 v1 s 1 e1 w _ H0.out.st H0.out.bel N1.out).mono ?_); rintro _ w1 ⟨rfl, hi, hb, hk⟩; have K1 := Aside0.mk (H0.out.call hi hb hk); clear hi hb hk))
  have K2 := Aside0.mk (QT.start K1.out #[.int .i64 2, .string ⟨#[]⟩, .int .u32 0, .int .u64 0, .bool false, .bool false, .int .u64 0, .int .u64 0, .int .i64 0, .int .u64 0, .slice none 0 0, .int .u64 0, .int .u64 0, .int .i64 0, .int .u64 0, .int .u64 0, .int .i64 0, .int .i64 0])
  generalize w1.alloc (.cells #[.int .i64 2, .string ⟨#[]⟩, .int .u32 0, .int .u64 0, .bool false, .bool false, .int .u64 0, .int .u64 0, .int .i64 0, .int .u64 0, .slice none 0 0, .int .u64 0, .int .u64 0, .int .i64 0, .int .u64 0, .int .u64 0, .int .i64 0, .int .i64 0] 56) = W0 at K2 ⊢
  have k0 := cellAt (i := 0) K2.out.t6 rfl
  go_upto_region 7 with (first | (go_at_call 39; (with_reducible refine (consortref19_taker_bad.calls (w.heap.size + 1) s 1 e1 10 false s 1 e2 w _ K2.out.ns.st K2.out.ns.bel B2.out).mono ?_); rintro _ w2 ⟨rfl, hi, hb, hk⟩; have K3 := Aside0.mk (K2.out.call hi hb hk); clear k0; have k0 := cellAt (i := 0) K3.out.t6 rfl; clear hi hb hk) | (go_at_call 39; (with_reducible refine (consortref19_taker_bad.calls (w.heap.size + 1) s 1 e2 3 (decide (1024 < (s.size : Int))) s 1 e3 w _ K3.out.ns.st K3.out.ns.bel B3.out).mono ?_); rintro _ w3 ⟨rfl, hi, hb, hk⟩; have K4 := Aside0.mk (K3.out.call hi hb hk); clear k0; have k0 := cellAt (i := 0) K4.out.t6 rfl; clear hi hb hk))
  clear k0
  go_upto_region 8 with (first | (go_at_call 38; (with_reducible refine (consortref19_taker_num.calls 400 (w.heap.size + 1) s 1 e3 4 v4 s 5 e4 w _ K4.out.ns.st K4.out.ns.bel N4.out).mono ?_); rintro _ w4 ⟨rfl, hi, hb, hk⟩; have K5 := Aside0.mk (K4.out.call hi hb hk); have s2 := cellAt (i := 2) K5.out.t6 rfl; have f2 := blk_frozen K5.out.t6 2; clear hi hb hk))
  have K6 := Aside0.mk (show QT w (w4.setCell ⟨w1.heap.size, 2, none⟩ (.int .u32 y4)) _ w1.heap.size s 5 e4 #[.int .i64 2, .string ⟨#[]⟩, .int .u32 y4, .int .u64 0, .bool false, .bool false, .int .u64 0, .int .u64 0, .int .i64 0, .int .u64 0, .slice none 0 0, .int .u64 0, .int .u64 0, .int .i64 0, .int .u64 0, .int .u64 0, .int .i64 0, .int .i64 0] from (K5.out.set 2 (.int .u32 y4)))
  clear s2 f2
  generalize (w4.setCell ⟨w1.heap.size, 2, none⟩ (.int .u32 y4)) = W6 at K6 ⊢
  go_upto_region 9 with (first | (go_at_call 38; (with_reducible refine (consortref19_taker_num.calls 400 (w.heap.size + 1) s 5 e4 8 v5 s 13 e5 w _ K6.out.ns.st K6.out.ns.bel N5.out).mono ?_); rintro _ w5 ⟨rfl, hi, hb, hk⟩; have K7 := Aside0.mk (K6.out.call hi hb hk); have s3 := cellAt (i := 3) K7.out.t6 rfl; have f3 := blk_frozen K7.out.t6 3; clear hi hb hk))
  have K8 := Aside0.mk (show QT w (w5.setCell ⟨w1.heap.size, 3, none⟩ (.int .u64 v5)) _ w1.heap.size s 13 e5 #[.int .i64 2, .string ⟨#[]⟩, .int .u32 y4, .int .u64 v5, .bool false, .bool false, .int .u64 0, .int .u64 0, .int .i64 0, .int .u64 0, .slice none 0 0, .int .u64 0, .int .u64 0, .int .i64 0, .int .u64 0, .int .u64 0, .int .i64 0, .int .i64 0] from (K7.out.set 3 (.int .u64 v5)))
  clear s3 f3
  generalize (w5.setCell ⟨w1.heap.size, 3, none⟩ (.int .u64 v5)) = W8 at K8 ⊢
  go_upto_region 10 with (first | (go_at_call 38; (with_reducible refine (consortref19_taker_num.calls 400 (w.heap.size + 1) s 13 e5 1 v6 s 14 e6 w _ K8.out.ns.st K8.out.ns.bel N6.out).mono ?_); rintro _ w6 ⟨rfl, hi, hb, hk⟩; have K9 := Aside0.mk (K8.out.call hi hb hk); clear hi hb hk))
  go_upto_region 12 with (first | (go_at_call 39; (with_reducible refine (consortref19_taker_bad.calls (w.heap.size + 1) s 14 e6 1 (decide (3 < v6)) s 14 e7 w _ K9.out.ns.st K9.out.ns.bel B7.out).mono ?_); rintro _ w7 ⟨rfl, hi, hb, hk⟩; have K10 := Aside0.mk (K9.out.call hi hb hk); have s4 := cellAt (i := 4) K10.out.t6 rfl; have f4 := blk_frozen K10.out.t6 4; clear hi hb hk))
  have K11 := Aside0.mk (show QT w (w7.setCell ⟨w1.heap.size, 4, none⟩ (.bool fa)) _ w1.heap.size s 14 e7 #[.int .i64 2, .string ⟨#[]⟩, .int .u32 y4, .int .u64 v5, .bool fa, .bool false, .int .u64 0, .int .u64 0, .int .i64 0, .int .u64 0, .slice none 0 0, .int .u64 0, .int .u64 0, .int .i64 0, .int .u64 0, .int .u64 0, .int .i64 0, .int .i64 0] from (K10.out.set 4 (.bool fa)))
  clear s4 f4
  generalize (w7.setCell ⟨w1.heap.size, 4, none⟩ (.bool fa)) = W11 at K11 ⊢
  have s5 := cellAt (i := 5) K11.out.t6 rfl; have f5 := blk_frozen K11.out.t6 5
  go_upto_region 13 with fail
  have K12 := Aside0.mk (show QT w (W11.setCell ⟨w1.heap.size, 5, none⟩ (.bool fb)) _ w1.heap.size s 14 e7 #[.int .i64 2, .string ⟨#[]⟩, .int .u32 y4, .int .u64 v5, .bool fa, .bool fb, .int .u64 0, .int .u64 0, .int .i64 0, .int .u64 0, .slice none 0 0, .int .u64 0, .int .u64 0, .int .i64 0, .int .u64 0, .int .u64 0, .int .i64 0, .int .i64 0] from (K11.out.set 5 (.bool fb)))
  clear s5 f5
  generalize (W11.setCell ⟨w1.heap.size, 5, none⟩ (.bool fb)) = W12 at K12 ⊢
  go_upto_region 20 with (first | (go_at_call 40; (with_reducible refine (consortref19_taker_record.calls 400 (w.heap.size + 1) s 14 e7 r0 r1 r2 r3 l s q 0 w _ K12.out.ns.st K12.out.ns.bel N8.out).mono ?_); rintro _ w8 ⟨v10, rfl, ho, hi, hb, hk⟩; obtain ⟨A10, c10, rfl⟩ := Kd.R_slice ho; have HO := Aside0.mk (Kd.R_lower ho K12.out.ns.bel.size); clear ho; have K13 := Aside0.mk (K12.out.call hi hb hk); have s6 := cellAt (i := 6) K13.out.t6 rfl; have f6 := blk_frozen K13.out.t6 6; have s7 := cellAt (i := 7) K13.out.t6 rfl; have f7 := blk_frozen K13.out.t6 7; have s8 := cellAt (i := 8) K13.out.t6 rfl; have f8 := blk_frozen K13.out.t6 8; have s9 := cellAt (i := 9) K13.out.t6 rfl; have f9 := blk_frozen K13.out.t6 9; have s10 := cellAt (i := 10) K13.out.t6 rfl; have f10 := blk_frozen K13.out.t6 10; clear hi hb hk))
  have K14 := Aside0.mk (show QT w (((((w8.setCell ⟨w1.heap.size, 6, none⟩ (.int .u64 r0)).setCell ⟨w1.heap.size, 7, none⟩ (.int .u64 r1)).setCell ⟨w1.heap.size, 8, none⟩ (.int .i64 r2)).setCell ⟨w1.heap.size, 9, none⟩ (.int .u64 r3)).setCell ⟨w1.heap.size, 10, none⟩ (.slice A10 l.length c10)) _ w1.heap.size s q 0 #[.int .i64 2, .string ⟨#[]⟩, .int .u32 y4, .int .u64 v5, .bool fa, .bool fb, .int .u64 r0, .int .u64 r1, .int .i64 r2, .int .u64 r3, .slice A10 l.length c10, .int .u64 0, .int .u64 0, .int .i64 0, .int .u64 0, .int .u64 0, .int .i64 0, .int .i64 0] from (((((K13.out.set 6 (.int .u64 r0)).set 7 (.int .u64 r1)).set 8 (.int .i64 r2)).set 9 (.int .u64 r3)).set 10 (.slice A10 l.length c10)))
  clear s6 f6 s7 f7 s8 f8 s9 f9 s10 f10
  have HO2 := Aside0.mk (show Kd.R k27 27 (((((w8.setCell ⟨w1.heap.size, 6, none⟩ (.int .u64 r0)).setCell ⟨w1.heap.size, 7, none⟩ (.int .u64 r1)).setCell ⟨w1.heap.size, 8, none⟩ (.int .i64 r2)).setCell ⟨w1.heap.size, 9, none⟩ (.int .u64 r3)).setCell ⟨w1.heap.size, 10, none⟩ (.slice A10 l.length c10)) w.heap.size (fun _ => True) (.slice A10 l.length c10) l from Kd.R_mono (Kd.R_far (p := ⟨w1.heap.size, 10, none⟩) (Kd.R_far (p := ⟨w1.heap.size, 9, none⟩) (Kd.R_far (p := ⟨w1.heap.size, 8, none⟩) (Kd.R_far (p := ⟨w1.heap.size, 7, none⟩) (Kd.R_far (p := ⟨w1.heap.size, 6, none⟩) (Kd.R_types HO.out K13.out.t6 (by decide)) (fun _ hk => hk.2) (.int .u64 r0)) (fun _ hk => hk.2) (.int .u64 r1)) (fun _ hk => hk.2) (.int .i64 r2)) (fun _ hk => hk.2) (.int .u64 r3)) (fun _ hk => hk.2) (.slice A10 l.length c10)) (ok' := fun _ => True) (fun _ _ => trivial))
  generalize (((((w8.setCell ⟨w1.heap.size, 6, none⟩ (.int .u64 r0)).setCell ⟨w1.heap.size, 7, none⟩ (.int .u64 r1)).setCell ⟨w1.heap.size, 8, none⟩ (.int .i64 r2)).setCell ⟨w1.heap.size, 9, none⟩ (.int .u64 r3)).setCell ⟨w1.heap.size, 10, none⟩ (.slice A10 l.length c10)) = W14 at K14 HO2 ⊢
  have z2 := cellAt (i := 2) K14.out.ns.st.1 rfl; have k0 := cellAt (i := 0) K14.out.t6 rfl
  go_upto_region 23 with fail
  clear z2 k0
  have z1 := cellAt (i := 1) K14.out.ns.st.1 rfl
  go_upto_if 115 with (first | (go_at_call 39; (with_reducible refine (consortref19_taker_bad.calls (w.heap.size + 1) s q 0 4 (decide (q < (s.size : Int))) s q e9 w _ K14.out.ns.st K14.out.ns.bel B9.out).mono ?_); rintro _ w9 ⟨rfl, hi, hb, hk⟩; have K15 := Aside0.mk (K14.out.call hi hb hk); have z2 := cellAt (i := 2) K15.out.ns.st.1 rfl; clear hi hb hk))
  go_wp2
  refine start_ (n := 7) (S := fun w' : World => w'.cell? ⟨w.heap.size + 1, 2, none⟩ = some (.int .i64 e9)) (ds := []) #[false, false, false, false, false, false, false] (by kernel_rfl) rfl rfl z2 (fun hHeld => ?_)
  clear z2
  have KD := Aside0.mk (K15.out.below (W1 := w9.drew) (below_drew (Below.refl _ _)))
  generalize w9.drew = wd at KD hHeld ⊢
  refine pure_ (i := 0) (N := some 116) (v := ?_) (a' := ?_) #[true, false, false, false, false, false, false] rfl rfl (by kernel_rfl) (fun _ _ _ h => h) (Or.inl ⟨by rfl, ?_⟩) ?_ ?_
  rotate_left
  · intro w'
    go_simp
    with_reducible rfl
  rotate_left
  · simp only [Act.put, List.setIfInBounds_toArray, List.set_cons_zero, List.set_cons_succ, i64_w, i32_w]
    rfl
  refine pure_ (i := 1) (N := some 117) (v := ?_) (a' := ?_) #[true, true, false, false, false, false, false] rfl rfl (by kernel_rfl) (fun _ _ _ h => h) (Or.inl ⟨by rfl, ?_⟩) ?_ ?_
  rotate_left
  · intro w'
    go_simp
    with_reducible rfl
  rotate_left
  · simp only [Act.put, List.setIfInBounds_toArray, List.set_cons_zero, List.set_cons_succ, i64_w, i32_w]
    rfl
  refine pure_ (i := 2) (N := some 118) (v := ?_) (a' := ?_) #[true, true, true, false, false, false, false] rfl rfl (by kernel_rfl) (fun _ _ _ h => h) (Or.inl ⟨by rfl, ?_⟩) ?_ ?_
  rotate_left
  · intro w'
    go_simp
    with_reducible rfl
  rotate_left
  · simp only [Act.put, List.setIfInBounds_toArray, List.set_cons_zero, List.set_cons_succ, i64_w, i32_w]
    rfl
  refine pure_ (i := 3) (N := some 119) (v := ?_) (a' := ?_) #[true, true, true, true, false, false, false] rfl rfl (by kernel_rfl) (fun _ _ _ h => h) (Or.inl ⟨by rfl, ?_⟩) ?_ ?_
  rotate_left
  · intro w'
    go_simp
    with_reducible rfl
  rotate_left
  · simp only [Act.put, List.setIfInBounds_toArray, List.set_cons_zero, List.set_cons_succ, i64_w, i32_w]
    rfl
  refine take_ (i := 4) (N := some 120) (v := ?_) (a' := ?_) #[true, true, true, true, true, false, false] rfl rfl (by kernel_rfl) (fun _ _ _ h => h) (Or.inl ⟨by rfl, ?_⟩) hHeld ?_ ?_
  rotate_left
  · rintro w' z2
    go_simp
    with_reducible rfl
  rotate_left
  · simp only [Act.put, List.setIfInBounds_toArray, List.set_cons_zero, List.set_cons_succ, i64_w, i32_w]
    rfl
  refine one_ (i := 5) (N := none) #[true, true, true, true, true, true, false] rfl rfl (by kernel_rfl) (by decide) (fun K hK => ?_)
  refine storeRow_ rfl (ty := 56) (p := 2) rfl rfl w.heap.size #[.int .i64 0, .string ⟨#[]⟩, .int .u32 0, .int .u64 0, .bool false, .bool false, .int .u64 0, .int .u64 0, .int .i64 0, .int .u64 0, .slice none 0 0, .int .u64 0, .int .u64 0, .int .i64 0, .int .u64 0, .int .u64 0, .int .i64 0, .int .i64 0] rfl rfl 56 #[.int .i64 0, .string ⟨#[]⟩, .int .u32 0, .int .u64 0, .bool false, .bool false, .int .u64 0, .int .u64 0, .int .i64 0, .int .u64 0, .slice none 0 0, .int .u64 0, .int .u64 0, .int .i64 0, .int .u64 0, .int .u64 0, .int .i64 0, .int .i64 0] KD.out.ns.t2 (by kernel_rfl) rfl (by simp [Value.oneCell']) ?_
  intro w7 h7
  have P7 := Aside0.mk (KD.out.res h7)
  refine hK.out _ _ (cellAt (i := 2) P7.out.1.1 rfl) (fun hHeld => ?_)
  clear hK K h7
  refine pure_ (i := 6) (N := some 3) (v := ?_) (a' := ?_) #[true, true, true, true, true, true, true] rfl rfl (by kernel_rfl) (fun _ _ _ h => h) (Or.inl ⟨by rfl, ?_⟩) ?_ ?_
  rotate_left
  · intro w'
    go_simp
    with_reducible rfl
  rotate_left
  · simp only [Act.put, List.setIfInBounds_toArray, List.set_cons_zero, List.set_cons_succ, i64_w, i32_w]
    rfl
  refine done_ (by kernel_rfl) ?_
  go_wp2
  refine bodyPost_ret (results_ct rfl rfl rfl (run_loadVar_row (P := Try.prog) _ w.heap.size 56 56 _ (0, 0) _ P7.out.2.1 Try.underlying56 rfl (by kernel_rfl))) rfl ?_
  exact ⟨rfl, P7.out.2.2⟩
set_option maxHeartbeats 8000000 in
set_option maxRecDepth 100000 in
theorem ro2_good (s : ByteArray) (v1 e1 e2 e3 v4 e4 v5 e5 v6 e6 e7 r0 r1 r2 r3 q : Int) (l : List S27) (w : World) (hyr : IntKind.i64.wrap v1 = 2) (n1 : consortref19_taker_num.f 400 s 0 0 1 = some (v1, s, 1, e1)) (b2 : consortref19_taker_bad.f s 1 e1 10 false = some (s, 1, e2)) (b3 : consortref19_taker_bad.f s 1 e2 3 (decide (1024 < (s.size : Int))) = some (s, 1, e3)) (n4 : consortref19_taker_num.f 400 s 1 e3 4 = some (v4, s, 5, e4)) (n5 : consortref19_taker_num.f 400 s 5 e4 8 = some (v5, s, 13, e5)) (n6 : consortref19_taker_num.f 400 s 13 e5 1 = some (v6, s, 14, e6)) (b7 : consortref19_taker_bad.f s 14 e6 1 (decide (3 < v6)) = some (s, 14, e7)) (n8 : consortref19_taker_record.f 400 s 14 e7 = some (r0, r1, r2, r3, l, s, q, 0)) (b9 : consortref19_taker_bad.f s q 0 4 (decide (q < (s.size : Int))) = some (s, q, 0)) (fa fb : Bool) (hfa : (v6.tmod 2 == 1) = fa) (hfb : (IntKind.u64.wrap (v6.tdiv 2) == 1) = fb) :
    Calls Try.prog 16 #[.string s] w fun e w' => ∃ v : Value, e = .returned (.tuple #[.agg #[.int .i64 2, .string ⟨#[]⟩, .int .u32 (IntKind.u32.wrap v4), .int .u64 v5, .bool fa, .bool fb, .int .u64 r0, .int .u64 r1, .int .i64 r2, .int .u64 r3, v, .int .u64 0, .int .u64 0, .int .i64 0, .int .u64 0, .int .u64 0, .int .i64 0, .int .i64 0], .int .i64 0]) ∧ Kd.R k27 27 w' w.heap.size (fun _ => True) v l ∧ Below w.heap.size w w' := by
  obtain ⟨y4, hy4⟩ : ∃ y, y = IntKind.u32.wrap v4 := ⟨_, rfl⟩
  have hyr4 : IntKind.u32.wrap v4 = y4 := hy4.symm
  rw [← hy4]
  clear hy4
  have N1 := Aside0.mk n1
  have B2 := Aside0.mk b2
  have B3 := Aside0.mk b3
  have N4 := Aside0.mk n4
  have N5 := Aside0.mk n5
  have N6 := Aside0.mk n6
  have B7 := Aside0.mk b7
  have N8 := Aside0.mk n8
  have B9 := Aside0.mk b9
  have H0 := Aside0.mk (QS.start w s)
  clear n1 b2 b3 n4 n5 n6 b7 n8 b9
  go_enter Try.func16, Try.ntmps16
  go_upto_region 3 with (first | (go_at_call 38; (with_reducible refine (consortref19_taker_num.calls 400 (w.heap.size + 1) s 0 0 1 v1 s 1 e1 w _ H0.out.st H0.out.bel N1.out).mono ?_); rintro _ w1 ⟨rfl, hi, hb, hk⟩; have K1 := Aside0.mk (H0.out.call hi hb hk); clear hi hb hk))
  have K2 := Aside0.mk (QT.start K1.out #[.int .i64 2, .string ⟨#[]⟩, .int .u32 0, .int .u64 0, .bool false, .bool false, .int .u64 0, .int .u64 0, .int .i64 0, .int .u64 0, .slice none 0 0, .int .u64 0, .int .u64 0, .int .i64 0, .int .u64 0, .int .u64 0, .int .i64 0, .int .i64 0])
  generalize w1.alloc (.cells #[.int .i64 2, .string ⟨#[]⟩, .int .u32 0, .int .u64 0, .bool false, .bool false, .int .u64 0, .int .u64 0, .int .i64 0, .int .u64 0, .slice none 0 0, .int .u64 0, .int .u64 0, .int .i64 0, .int .u64 0, .int .u64 0, .int .i64 0, .int .i64 0] 56) = W0 at K2 ⊢
  have k0 := cellAt (i := 0) K2.out.t6 rfl
  go_upto_region 7 with (first | (go_at_call 39; (with_reducible refine (consortref19_taker_bad.calls (w.heap.size + 1) s 1 e1 10 false s 1 e2 w _ K2.out.ns.st K2.out.ns.bel B2.out).mono ?_); rintro _ w2 ⟨rfl, hi, hb, hk⟩; have K3 := Aside0.mk (K2.out.call hi hb hk); clear k0; have k0 := cellAt (i := 0) K3.out.t6 rfl; clear hi hb hk) | (go_at_call 39; (with_reducible refine (consortref19_taker_bad.calls (w.heap.size + 1) s 1 e2 3 (decide (1024 < (s.size : Int))) s 1 e3 w _ K3.out.ns.st K3.out.ns.bel B3.out).mono ?_); rintro _ w3 ⟨rfl, hi, hb, hk⟩; have K4 := Aside0.mk (K3.out.call hi hb hk); clear k0; have k0 := cellAt (i := 0) K4.out.t6 rfl; clear hi hb hk))
  clear k0
  go_upto_region 8 with (first | (go_at_call 38; (with_reducible refine (consortref19_taker_num.calls 400 (w.heap.size + 1) s 1 e3 4 v4 s 5 e4 w _ K4.out.ns.st K4.out.ns.bel N4.out).mono ?_); rintro _ w4 ⟨rfl, hi, hb, hk⟩; have K5 := Aside0.mk (K4.out.call hi hb hk); have s2 := cellAt (i := 2) K5.out.t6 rfl; have f2 := blk_frozen K5.out.t6 2; clear hi hb hk))
  have K6 := Aside0.mk (show QT w (w4.setCell ⟨w1.heap.size, 2, none⟩ (.int .u32 y4)) _ w1.heap.size s 5 e4 #[.int .i64 2, .string ⟨#[]⟩, .int .u32 y4, .int .u64 0, .bool false, .bool false, .int .u64 0, .int .u64 0, .int .i64 0, .int .u64 0, .slice none 0 0, .int .u64 0, .int .u64 0, .int .i64 0, .int .u64 0, .int .u64 0, .int .i64 0, .int .i64 0] from (K5.out.set 2 (.int .u32 y4)))
  clear s2 f2
  generalize (w4.setCell ⟨w1.heap.size, 2, none⟩ (.int .u32 y4)) = W6 at K6 ⊢
  go_upto_region 9 with (first | (go_at_call 38; (with_reducible refine (consortref19_taker_num.calls 400 (w.heap.size + 1) s 5 e4 8 v5 s 13 e5 w _ K6.out.ns.st K6.out.ns.bel N5.out).mono ?_); rintro _ w5 ⟨rfl, hi, hb, hk⟩; have K7 := Aside0.mk (K6.out.call hi hb hk); have s3 := cellAt (i := 3) K7.out.t6 rfl; have f3 := blk_frozen K7.out.t6 3; clear hi hb hk))
  have K8 := Aside0.mk (show QT w (w5.setCell ⟨w1.heap.size, 3, none⟩ (.int .u64 v5)) _ w1.heap.size s 13 e5 #[.int .i64 2, .string ⟨#[]⟩, .int .u32 y4, .int .u64 v5, .bool false, .bool false, .int .u64 0, .int .u64 0, .int .i64 0, .int .u64 0, .slice none 0 0, .int .u64 0, .int .u64 0, .int .i64 0, .int .u64 0, .int .u64 0, .int .i64 0, .int .i64 0] from (K7.out.set 3 (.int .u64 v5)))
  clear s3 f3
  generalize (w5.setCell ⟨w1.heap.size, 3, none⟩ (.int .u64 v5)) = W8 at K8 ⊢
  go_upto_region 10 with (first | (go_at_call 38; (with_reducible refine (consortref19_taker_num.calls 400 (w.heap.size + 1) s 13 e5 1 v6 s 14 e6 w _ K8.out.ns.st K8.out.ns.bel N6.out).mono ?_); rintro _ w6 ⟨rfl, hi, hb, hk⟩; have K9 := Aside0.mk (K8.out.call hi hb hk); clear hi hb hk))
  go_upto_region 12 with (first | (go_at_call 39; (with_reducible refine (consortref19_taker_bad.calls (w.heap.size + 1) s 14 e6 1 (decide (3 < v6)) s 14 e7 w _ K9.out.ns.st K9.out.ns.bel B7.out).mono ?_); rintro _ w7 ⟨rfl, hi, hb, hk⟩; have K10 := Aside0.mk (K9.out.call hi hb hk); have s4 := cellAt (i := 4) K10.out.t6 rfl; have f4 := blk_frozen K10.out.t6 4; clear hi hb hk))
  have K11 := Aside0.mk (show QT w (w7.setCell ⟨w1.heap.size, 4, none⟩ (.bool fa)) _ w1.heap.size s 14 e7 #[.int .i64 2, .string ⟨#[]⟩, .int .u32 y4, .int .u64 v5, .bool fa, .bool false, .int .u64 0, .int .u64 0, .int .i64 0, .int .u64 0, .slice none 0 0, .int .u64 0, .int .u64 0, .int .i64 0, .int .u64 0, .int .u64 0, .int .i64 0, .int .i64 0] from (K10.out.set 4 (.bool fa)))
  clear s4 f4
  generalize (w7.setCell ⟨w1.heap.size, 4, none⟩ (.bool fa)) = W11 at K11 ⊢
  have s5 := cellAt (i := 5) K11.out.t6 rfl; have f5 := blk_frozen K11.out.t6 5
  go_upto_region 13 with fail
  have K12 := Aside0.mk (show QT w (W11.setCell ⟨w1.heap.size, 5, none⟩ (.bool fb)) _ w1.heap.size s 14 e7 #[.int .i64 2, .string ⟨#[]⟩, .int .u32 y4, .int .u64 v5, .bool fa, .bool fb, .int .u64 0, .int .u64 0, .int .i64 0, .int .u64 0, .slice none 0 0, .int .u64 0, .int .u64 0, .int .i64 0, .int .u64 0, .int .u64 0, .int .i64 0, .int .i64 0] from (K11.out.set 5 (.bool fb)))
  clear s5 f5
  generalize (W11.setCell ⟨w1.heap.size, 5, none⟩ (.bool fb)) = W12 at K12 ⊢
  go_upto_region 20 with (first | (go_at_call 40; (with_reducible refine (consortref19_taker_record.calls 400 (w.heap.size + 1) s 14 e7 r0 r1 r2 r3 l s q 0 w _ K12.out.ns.st K12.out.ns.bel N8.out).mono ?_); rintro _ w8 ⟨v10, rfl, ho, hi, hb, hk⟩; obtain ⟨A10, c10, rfl⟩ := Kd.R_slice ho; have HO := Aside0.mk (Kd.R_lower ho K12.out.ns.bel.size); clear ho; have K13 := Aside0.mk (K12.out.call hi hb hk); have s6 := cellAt (i := 6) K13.out.t6 rfl; have f6 := blk_frozen K13.out.t6 6; have s7 := cellAt (i := 7) K13.out.t6 rfl; have f7 := blk_frozen K13.out.t6 7; have s8 := cellAt (i := 8) K13.out.t6 rfl; have f8 := blk_frozen K13.out.t6 8; have s9 := cellAt (i := 9) K13.out.t6 rfl; have f9 := blk_frozen K13.out.t6 9; have s10 := cellAt (i := 10) K13.out.t6 rfl; have f10 := blk_frozen K13.out.t6 10; clear hi hb hk))
  have K14 := Aside0.mk (show QT w (((((w8.setCell ⟨w1.heap.size, 6, none⟩ (.int .u64 r0)).setCell ⟨w1.heap.size, 7, none⟩ (.int .u64 r1)).setCell ⟨w1.heap.size, 8, none⟩ (.int .i64 r2)).setCell ⟨w1.heap.size, 9, none⟩ (.int .u64 r3)).setCell ⟨w1.heap.size, 10, none⟩ (.slice A10 l.length c10)) _ w1.heap.size s q 0 #[.int .i64 2, .string ⟨#[]⟩, .int .u32 y4, .int .u64 v5, .bool fa, .bool fb, .int .u64 r0, .int .u64 r1, .int .i64 r2, .int .u64 r3, .slice A10 l.length c10, .int .u64 0, .int .u64 0, .int .i64 0, .int .u64 0, .int .u64 0, .int .i64 0, .int .i64 0] from (((((K13.out.set 6 (.int .u64 r0)).set 7 (.int .u64 r1)).set 8 (.int .i64 r2)).set 9 (.int .u64 r3)).set 10 (.slice A10 l.length c10)))
  clear s6 f6 s7 f7 s8 f8 s9 f9 s10 f10
  have HO2 := Aside0.mk (show Kd.R k27 27 (((((w8.setCell ⟨w1.heap.size, 6, none⟩ (.int .u64 r0)).setCell ⟨w1.heap.size, 7, none⟩ (.int .u64 r1)).setCell ⟨w1.heap.size, 8, none⟩ (.int .i64 r2)).setCell ⟨w1.heap.size, 9, none⟩ (.int .u64 r3)).setCell ⟨w1.heap.size, 10, none⟩ (.slice A10 l.length c10)) w.heap.size (fun _ => True) (.slice A10 l.length c10) l from Kd.R_mono (Kd.R_far (p := ⟨w1.heap.size, 10, none⟩) (Kd.R_far (p := ⟨w1.heap.size, 9, none⟩) (Kd.R_far (p := ⟨w1.heap.size, 8, none⟩) (Kd.R_far (p := ⟨w1.heap.size, 7, none⟩) (Kd.R_far (p := ⟨w1.heap.size, 6, none⟩) (Kd.R_types HO.out K13.out.t6 (by decide)) (fun _ hk => hk.2) (.int .u64 r0)) (fun _ hk => hk.2) (.int .u64 r1)) (fun _ hk => hk.2) (.int .i64 r2)) (fun _ hk => hk.2) (.int .u64 r3)) (fun _ hk => hk.2) (.slice A10 l.length c10)) (ok' := fun _ => True) (fun _ _ => trivial))
  generalize (((((w8.setCell ⟨w1.heap.size, 6, none⟩ (.int .u64 r0)).setCell ⟨w1.heap.size, 7, none⟩ (.int .u64 r1)).setCell ⟨w1.heap.size, 8, none⟩ (.int .i64 r2)).setCell ⟨w1.heap.size, 9, none⟩ (.int .u64 r3)).setCell ⟨w1.heap.size, 10, none⟩ (.slice A10 l.length c10)) = W14 at K14 HO2 ⊢
  have z2 := cellAt (i := 2) K14.out.ns.st.1 rfl; have k0 := cellAt (i := 0) K14.out.t6 rfl
  go_upto_region 23 with fail
  clear z2 k0
  have z1 := cellAt (i := 1) K14.out.ns.st.1 rfl
  go_upto_if 115 with (first | (go_at_call 39; (with_reducible refine (consortref19_taker_bad.calls (w.heap.size + 1) s q 0 4 (decide (q < (s.size : Int))) s q 0 w _ K14.out.ns.st K14.out.ns.bel B9.out).mono ?_); rintro _ w9 ⟨rfl, hi, hb, hk⟩; have K15 := Aside0.mk (K14.out.call hi hb hk); have HO3 := Aside0.mk (Kd.R_mono (Kd.R_keep (Kd.R_types HO2.out K14.out.ns.st.1 (by decide)) hk (fun _ h => h.2)) (ok' := fun _ => True) (fun _ _ => trivial)); have z2 := cellAt (i := 2) K15.out.ns.st.1 rfl; clear hi hb hk))
  go_wp2_with (first | ((with_reducible refine gate_dst (N := 121) rfl ?_); refine load_event rfl (.tmp 5) 56 rfl rfl (load56 K15.out.t6) ?_) | ((with_reducible refine gate_store (t := 56) (p := 2) rfl ?_); refine store_row_event rfl (ty := 56) (p := 2) rfl rfl w.heap.size #[.int .i64 2, .string ⟨#[]⟩, .int .u32 y4, .int .u64 v5, .bool fa, .bool fb, .int .u64 r0, .int .u64 r1, .int .i64 r2, .int .u64 r3, .slice A10 l.length c10, .int .u64 0, .int .u64 0, .int .i64 0, .int .u64 0, .int .u64 0, .int .i64 0, .int .i64 0] rfl rfl 56 #[.int .i64 0, .string ⟨#[]⟩, .int .u32 0, .int .u64 0, .bool false, .bool false, .int .u64 0, .int .u64 0, .int .i64 0, .int .u64 0, .slice none 0 0, .int .u64 0, .int .u64 0, .int .i64 0, .int .u64 0, .int .u64 0, .int .i64 0, .int .i64 0] K15.out.ns.t2 (by kernel_rfl) rfl (by simp [Value.oneCell']) ?_; intro w99 h7; have P7 := Aside0.mk (K15.out.res h7); have HO4 := Aside0.mk (Kd.R_mono (Kd.R_step (Kd.R_types HO3.out K15.out.ns.t2 (by decide)) (fun k ho _ => h7.far k ho.2)) (ok' := fun _ => True) (fun _ _ => trivial)); clear h7))
  refine bodyPost_ret (results_ct rfl rfl rfl (run_loadVar_row (P := Try.prog) _ w.heap.size 56 56 _ (0, 0) _ P7.out.2.1 Try.underlying56 rfl (by kernel_rfl))) rfl ?_
  exact ⟨_, rfl, HO4.out, P7.out.2.2⟩
set_option maxHeartbeats 8000000 in
set_option maxRecDepth 100000 in
theorem ro4_bad (s : ByteArray) (v1 e1 e2 e3 v4 e4 v5 e5 v6 e6 e9 : Int) (w : World) (hyr : IntKind.i64.wrap v1 = 4) (n1 : consortref19_taker_num.f 400 s 0 0 1 = some (v1, s, 1, e1)) (b2 : consortref19_taker_bad.f s 1 e1 10 false = some (s, 1, e2)) (b3 : consortref19_taker_bad.f s 1 e2 3 (decide (1024 < (s.size : Int))) = some (s, 1, e3)) (n4 : consortref19_taker_num.f 400 s 1 e3 8 = some (v4, s, 9, e4)) (n5 : consortref19_taker_num.f 400 s 9 e4 2 = some (v5, s, 11, e5)) (n6 : consortref19_taker_num.f 400 s 11 e5 2 = some (v6, s, 13, e6)) (b7 : consortref19_taker_bad.f s 13 e6 4 (decide (13 < (s.size : Int))) = some (s, 13, e9)) (h9 : e9 ≠ 0) (h20 : e6 ≠ 0) :
    Calls Try.prog 16 #[.string s] w fun e w' => e = .returned (.tuple #[.agg #[.int .i64 0, .string ⟨#[]⟩, .int .u32 0, .int .u64 0, .bool false, .bool false, .int .u64 0, .int .u64 0, .int .i64 0, .int .u64 0, .slice none 0 0, .int .u64 0, .int .u64 0, .int .i64 0, .int .u64 0, .int .u64 0, .int .i64 0, .int .i64 0], .int .i64 e9]) ∧ Below w.heap.size w w' := by
  obtain ⟨y5, hy5⟩ : ∃ y, y = IntKind.i64.wrap v5 := ⟨_, rfl⟩
  have hyr5 : IntKind.i64.wrap v5 = y5 := hy5.symm
  obtain ⟨y6, hy6⟩ : ∃ y, y = IntKind.i64.wrap v6 := ⟨_, rfl⟩
  have hyr6 : IntKind.i64.wrap v6 = y6 := hy6.symm
  clear hy5 hy6
  have q9 : (e9 != 0) = true := bne_iff_ne.mpr h9
  clear h9
  have q20 : (e6 == 0) = false := beq_eq_false_iff_ne.mpr h20
  clear h20
  have N1 := Aside0.mk n1
  have B2 := Aside0.mk b2
  have B3 := Aside0.mk b3
  have N4 := Aside0.mk n4
  have N5 := Aside0.mk n5
  have N6 := Aside0.mk n6
  have B7 := Aside0.mk b7
  have H0 := Aside0.mk (QS.start w s)
  clear n1 b2 b3 n4 n5 n6 b7
  go_enter Try.func16, Try.ntmps16
  go_upto_region 3 with (first | (go_at_call 38; (with_reducible refine (consortref19_taker_num.calls 400 (w.heap.size + 1) s 0 0 1 v1 s 1 e1 w _ H0.out.st H0.out.bel N1.out).mono ?_); rintro _ w1 ⟨rfl, hi, hb, hk⟩; have K1 := Aside0.mk (H0.out.call hi hb hk); clear hi hb hk))
  have K2 := Aside0.mk (QT.start K1.out #[.int .i64 4, .string ⟨#[]⟩, .int .u32 0, .int .u64 0, .bool false, .bool false, .int .u64 0, .int .u64 0, .int .i64 0, .int .u64 0, .slice none 0 0, .int .u64 0, .int .u64 0, .int .i64 0, .int .u64 0, .int .u64 0, .int .i64 0, .int .i64 0])
  generalize w1.alloc (.cells #[.int .i64 4, .string ⟨#[]⟩, .int .u32 0, .int .u64 0, .bool false, .bool false, .int .u64 0, .int .u64 0, .int .i64 0, .int .u64 0, .slice none 0 0, .int .u64 0, .int .u64 0, .int .i64 0, .int .u64 0, .int .u64 0, .int .i64 0, .int .i64 0] 56) = W0 at K2 ⊢
  have k0 := cellAt (i := 0) K2.out.t6 rfl
  go_upto_region 17 with (first | (go_at_call 39; (with_reducible refine (consortref19_taker_bad.calls (w.heap.size + 1) s 1 e1 10 false s 1 e2 w _ K2.out.ns.st K2.out.ns.bel B2.out).mono ?_); rintro _ w2 ⟨rfl, hi, hb, hk⟩; have K3 := Aside0.mk (K2.out.call hi hb hk); clear k0; have k0 := cellAt (i := 0) K3.out.t6 rfl; clear hi hb hk) | (go_at_call 39; (with_reducible refine (consortref19_taker_bad.calls (w.heap.size + 1) s 1 e2 3 (decide (1024 < (s.size : Int))) s 1 e3 w _ K3.out.ns.st K3.out.ns.bel B3.out).mono ?_); rintro _ w3 ⟨rfl, hi, hb, hk⟩; have K4 := Aside0.mk (K3.out.call hi hb hk); clear k0; have k0 := cellAt (i := 0) K4.out.t6 rfl; clear hi hb hk))
  clear k0
  go_upto_region 18 with (first | (go_at_call 38; (with_reducible refine (consortref19_taker_num.calls 400 (w.heap.size + 1) s 1 e3 8 v4 s 9 e4 w _ K4.out.ns.st K4.out.ns.bel N4.out).mono ?_); rintro _ w4 ⟨rfl, hi, hb, hk⟩; have K5 := Aside0.mk (K4.out.call hi hb hk); have s15 := cellAt (i := 15) K5.out.t6 rfl; have f15 := blk_frozen K5.out.t6 15; clear hi hb hk))
  have K6 := Aside0.mk (show QT w (w4.setCell ⟨w1.heap.size, 15, none⟩ (.int .u64 v4)) _ w1.heap.size s 9 e4 #[.int .i64 4, .string ⟨#[]⟩, .int .u32 0, .int .u64 0, .bool false, .bool false, .int .u64 0, .int .u64 0, .int .i64 0, .int .u64 0, .slice none 0 0, .int .u64 0, .int .u64 0, .int .i64 0, .int .u64 0, .int .u64 v4, .int .i64 0, .int .i64 0] from (K5.out.set 15 (.int .u64 v4)))
  clear s15 f15
  generalize (w4.setCell ⟨w1.heap.size, 15, none⟩ (.int .u64 v4)) = W6 at K6 ⊢
  go_upto_region 19 with (first | (go_at_call 38; (with_reducible refine (consortref19_taker_num.calls 400 (w.heap.size + 1) s 9 e4 2 v5 s 11 e5 w _ K6.out.ns.st K6.out.ns.bel N5.out).mono ?_); rintro _ w5 ⟨rfl, hi, hb, hk⟩; have K7 := Aside0.mk (K6.out.call hi hb hk); have s16 := cellAt (i := 16) K7.out.t6 rfl; have f16 := blk_frozen K7.out.t6 16; clear hi hb hk))
  have K8 := Aside0.mk (show QT w (w5.setCell ⟨w1.heap.size, 16, none⟩ (.int .i64 y5)) _ w1.heap.size s 11 e5 #[.int .i64 4, .string ⟨#[]⟩, .int .u32 0, .int .u64 0, .bool false, .bool false, .int .u64 0, .int .u64 0, .int .i64 0, .int .u64 0, .slice none 0 0, .int .u64 0, .int .u64 0, .int .i64 0, .int .u64 0, .int .u64 v4, .int .i64 y5, .int .i64 0] from (K7.out.set 16 (.int .i64 y5)))
  clear s16 f16
  generalize (w5.setCell ⟨w1.heap.size, 16, none⟩ (.int .i64 y5)) = W8 at K8 ⊢
  go_upto_region 20 with (first | (go_at_call 38; (with_reducible refine (consortref19_taker_num.calls 400 (w.heap.size + 1) s 11 e5 2 v6 s 13 e6 w _ K8.out.ns.st K8.out.ns.bel N6.out).mono ?_); rintro _ w6 ⟨rfl, hi, hb, hk⟩; have K9 := Aside0.mk (K8.out.call hi hb hk); have s17 := cellAt (i := 17) K9.out.t6 rfl; have f17 := blk_frozen K9.out.t6 17; clear hi hb hk))
  have K10 := Aside0.mk (show QT w (w6.setCell ⟨w1.heap.size, 17, none⟩ (.int .i64 y6)) _ w1.heap.size s 13 e6 #[.int .i64 4, .string ⟨#[]⟩, .int .u32 0, .int .u64 0, .bool false, .bool false, .int .u64 0, .int .u64 0, .int .i64 0, .int .u64 0, .slice none 0 0, .int .u64 0, .int .u64 0, .int .i64 0, .int .u64 0, .int .u64 v4, .int .i64 y5, .int .i64 y6] from (K9.out.set 17 (.int .i64 y6)))
  clear s17 f17
  generalize (w6.setCell ⟨w1.heap.size, 17, none⟩ (.int .i64 y6)) = W10 at K10 ⊢
  have z2 := cellAt (i := 2) K10.out.ns.st.1 rfl; have k0 := cellAt (i := 0) K10.out.t6 rfl
  go_upto_region 23 with fail
  clear z2 k0
  have z1 := cellAt (i := 1) K10.out.ns.st.1 rfl
  go_upto_if 115 with (first | (go_at_call 39; (with_reducible refine (consortref19_taker_bad.calls (w.heap.size + 1) s 13 e6 4 (decide (13 < (s.size : Int))) s 13 e9 w _ K10.out.ns.st K10.out.ns.bel B7.out).mono ?_); rintro _ w7 ⟨rfl, hi, hb, hk⟩; have K11 := Aside0.mk (K10.out.call hi hb hk); have z2 := cellAt (i := 2) K11.out.ns.st.1 rfl; clear hi hb hk))
  go_wp2
  refine start_ (n := 7) (S := fun w' : World => w'.cell? ⟨w.heap.size + 1, 2, none⟩ = some (.int .i64 e9)) (ds := []) #[false, false, false, false, false, false, false] (by kernel_rfl) rfl rfl z2 (fun hHeld => ?_)
  clear z2
  have KD := Aside0.mk (K11.out.below (W1 := w7.drew) (below_drew (Below.refl _ _)))
  generalize w7.drew = wd at KD hHeld ⊢
  refine pure_ (i := 0) (N := some 116) (v := ?_) (a' := ?_) #[true, false, false, false, false, false, false] rfl rfl (by kernel_rfl) (fun _ _ _ h => h) (Or.inl ⟨by rfl, ?_⟩) ?_ ?_
  rotate_left
  · intro w'
    go_simp
    with_reducible rfl
  rotate_left
  · simp only [Act.put, List.setIfInBounds_toArray, List.set_cons_zero, List.set_cons_succ, i64_w, i32_w]
    rfl
  refine pure_ (i := 1) (N := some 117) (v := ?_) (a' := ?_) #[true, true, false, false, false, false, false] rfl rfl (by kernel_rfl) (fun _ _ _ h => h) (Or.inl ⟨by rfl, ?_⟩) ?_ ?_
  rotate_left
  · intro w'
    go_simp
    with_reducible rfl
  rotate_left
  · simp only [Act.put, List.setIfInBounds_toArray, List.set_cons_zero, List.set_cons_succ, i64_w, i32_w]
    rfl
  refine pure_ (i := 2) (N := some 118) (v := ?_) (a' := ?_) #[true, true, true, false, false, false, false] rfl rfl (by kernel_rfl) (fun _ _ _ h => h) (Or.inl ⟨by rfl, ?_⟩) ?_ ?_
  rotate_left
  · intro w'
    go_simp
    with_reducible rfl
  rotate_left
  · simp only [Act.put, List.setIfInBounds_toArray, List.set_cons_zero, List.set_cons_succ, i64_w, i32_w]
    rfl
  refine pure_ (i := 3) (N := some 119) (v := ?_) (a' := ?_) #[true, true, true, true, false, false, false] rfl rfl (by kernel_rfl) (fun _ _ _ h => h) (Or.inl ⟨by rfl, ?_⟩) ?_ ?_
  rotate_left
  · intro w'
    go_simp
    with_reducible rfl
  rotate_left
  · simp only [Act.put, List.setIfInBounds_toArray, List.set_cons_zero, List.set_cons_succ, i64_w, i32_w]
    rfl
  refine take_ (i := 4) (N := some 120) (v := ?_) (a' := ?_) #[true, true, true, true, true, false, false] rfl rfl (by kernel_rfl) (fun _ _ _ h => h) (Or.inl ⟨by rfl, ?_⟩) hHeld ?_ ?_
  rotate_left
  · rintro w' z2
    go_simp
    with_reducible rfl
  rotate_left
  · simp only [Act.put, List.setIfInBounds_toArray, List.set_cons_zero, List.set_cons_succ, i64_w, i32_w]
    rfl
  refine one_ (i := 5) (N := none) #[true, true, true, true, true, true, false] rfl rfl (by kernel_rfl) (by decide) (fun K hK => ?_)
  refine storeRow_ rfl (ty := 56) (p := 2) rfl rfl w.heap.size #[.int .i64 0, .string ⟨#[]⟩, .int .u32 0, .int .u64 0, .bool false, .bool false, .int .u64 0, .int .u64 0, .int .i64 0, .int .u64 0, .slice none 0 0, .int .u64 0, .int .u64 0, .int .i64 0, .int .u64 0, .int .u64 0, .int .i64 0, .int .i64 0] rfl rfl 56 #[.int .i64 0, .string ⟨#[]⟩, .int .u32 0, .int .u64 0, .bool false, .bool false, .int .u64 0, .int .u64 0, .int .i64 0, .int .u64 0, .slice none 0 0, .int .u64 0, .int .u64 0, .int .i64 0, .int .u64 0, .int .u64 0, .int .i64 0, .int .i64 0] KD.out.ns.t2 (by kernel_rfl) rfl (by simp [Value.oneCell']) ?_
  intro w7 h7
  have P7 := Aside0.mk (KD.out.res h7)
  refine hK.out _ _ (cellAt (i := 2) P7.out.1.1 rfl) (fun hHeld => ?_)
  clear hK K h7
  refine pure_ (i := 6) (N := some 3) (v := ?_) (a' := ?_) #[true, true, true, true, true, true, true] rfl rfl (by kernel_rfl) (fun _ _ _ h => h) (Or.inl ⟨by rfl, ?_⟩) ?_ ?_
  rotate_left
  · intro w'
    go_simp
    with_reducible rfl
  rotate_left
  · simp only [Act.put, List.setIfInBounds_toArray, List.set_cons_zero, List.set_cons_succ, i64_w, i32_w]
    rfl
  refine done_ (by kernel_rfl) ?_
  go_wp2
  refine bodyPost_ret (results_ct rfl rfl rfl (run_loadVar_row (P := Try.prog) _ w.heap.size 56 56 _ (0, 0) _ P7.out.2.1 Try.underlying56 rfl (by kernel_rfl))) rfl ?_
  exact ⟨rfl, P7.out.2.2⟩
set_option maxHeartbeats 8000000 in
set_option maxRecDepth 100000 in
theorem ro4_good (s : ByteArray) (v1 e1 e2 e3 v4 e4 v5 e5 v6 : Int) (w : World) (hyr : IntKind.i64.wrap v1 = 4) (n1 : consortref19_taker_num.f 400 s 0 0 1 = some (v1, s, 1, e1)) (b2 : consortref19_taker_bad.f s 1 e1 10 false = some (s, 1, e2)) (b3 : consortref19_taker_bad.f s 1 e2 3 (decide (1024 < (s.size : Int))) = some (s, 1, e3)) (n4 : consortref19_taker_num.f 400 s 1 e3 8 = some (v4, s, 9, e4)) (n5 : consortref19_taker_num.f 400 s 9 e4 2 = some (v5, s, 11, e5)) (n6 : consortref19_taker_num.f 400 s 11 e5 2 = some (v6, s, 13, 0)) (b7 : consortref19_taker_bad.f s (s.size : Int) 0 4 false = some (s, (s.size : Int), 0)) (h1 : 13 ≤ s.size) :
    Calls Try.prog 16 #[.string s] w fun e w' => e = .returned (.tuple #[.agg #[.int .i64 4, .string (txtAt s 13), .int .u32 0, .int .u64 0, .bool false, .bool false, .int .u64 0, .int .u64 0, .int .i64 0, .int .u64 0, .slice none 0 0, .int .u64 0, .int .u64 0, .int .i64 0, .int .u64 0, .int .u64 v4, .int .i64 (IntKind.i64.wrap v5), .int .i64 (IntKind.i64.wrap v6)], .int .i64 0]) ∧ Below w.heap.size w w' := by
  obtain ⟨y5, hy5⟩ : ∃ y, y = IntKind.i64.wrap v5 := ⟨_, rfl⟩
  have hyr5 : IntKind.i64.wrap v5 = y5 := hy5.symm
  obtain ⟨y6, hy6⟩ : ∃ y, y = IntKind.i64.wrap v6 := ⟨_, rfl⟩
  have hyr6 : IntKind.i64.wrap v6 = y6 := hy6.symm
  rw [← hy5, ← hy6]
  clear hy5 hy6
  obtain ⟨d, hd⟩ : ∃ d, d = txtAt s 13 := ⟨_, rfl⟩
  rw [← hd]
  have hsl : s.extract 13 s.size = d := by rw [hd]; unfold txtAt; congr 1; omega
  have hsb : 13 ≤ s.size := h1
  clear hd h1
  have N1 := Aside0.mk n1
  have B2 := Aside0.mk b2
  have B3 := Aside0.mk b3
  have N4 := Aside0.mk n4
  have N5 := Aside0.mk n5
  have N6 := Aside0.mk n6
  have B7 := Aside0.mk b7
  have H0 := Aside0.mk (QS.start w s)
  clear n1 b2 b3 n4 n5 n6 b7
  go_enter Try.func16, Try.ntmps16
  go_upto_region 3 with (first | (go_at_call 38; (with_reducible refine (consortref19_taker_num.calls 400 (w.heap.size + 1) s 0 0 1 v1 s 1 e1 w _ H0.out.st H0.out.bel N1.out).mono ?_); rintro _ w1 ⟨rfl, hi, hb, hk⟩; have K1 := Aside0.mk (H0.out.call hi hb hk); clear hi hb hk))
  have K2 := Aside0.mk (QT.start K1.out #[.int .i64 4, .string ⟨#[]⟩, .int .u32 0, .int .u64 0, .bool false, .bool false, .int .u64 0, .int .u64 0, .int .i64 0, .int .u64 0, .slice none 0 0, .int .u64 0, .int .u64 0, .int .i64 0, .int .u64 0, .int .u64 0, .int .i64 0, .int .i64 0])
  generalize w1.alloc (.cells #[.int .i64 4, .string ⟨#[]⟩, .int .u32 0, .int .u64 0, .bool false, .bool false, .int .u64 0, .int .u64 0, .int .i64 0, .int .u64 0, .slice none 0 0, .int .u64 0, .int .u64 0, .int .i64 0, .int .u64 0, .int .u64 0, .int .i64 0, .int .i64 0] 56) = W0 at K2 ⊢
  have k0 := cellAt (i := 0) K2.out.t6 rfl
  go_upto_region 17 with (first | (go_at_call 39; (with_reducible refine (consortref19_taker_bad.calls (w.heap.size + 1) s 1 e1 10 false s 1 e2 w _ K2.out.ns.st K2.out.ns.bel B2.out).mono ?_); rintro _ w2 ⟨rfl, hi, hb, hk⟩; have K3 := Aside0.mk (K2.out.call hi hb hk); clear k0; have k0 := cellAt (i := 0) K3.out.t6 rfl; clear hi hb hk) | (go_at_call 39; (with_reducible refine (consortref19_taker_bad.calls (w.heap.size + 1) s 1 e2 3 (decide (1024 < (s.size : Int))) s 1 e3 w _ K3.out.ns.st K3.out.ns.bel B3.out).mono ?_); rintro _ w3 ⟨rfl, hi, hb, hk⟩; have K4 := Aside0.mk (K3.out.call hi hb hk); clear k0; have k0 := cellAt (i := 0) K4.out.t6 rfl; clear hi hb hk))
  clear k0
  go_upto_region 18 with (first | (go_at_call 38; (with_reducible refine (consortref19_taker_num.calls 400 (w.heap.size + 1) s 1 e3 8 v4 s 9 e4 w _ K4.out.ns.st K4.out.ns.bel N4.out).mono ?_); rintro _ w4 ⟨rfl, hi, hb, hk⟩; have K5 := Aside0.mk (K4.out.call hi hb hk); have s15 := cellAt (i := 15) K5.out.t6 rfl; have f15 := blk_frozen K5.out.t6 15; clear hi hb hk))
  have K6 := Aside0.mk (show QT w (w4.setCell ⟨w1.heap.size, 15, none⟩ (.int .u64 v4)) _ w1.heap.size s 9 e4 #[.int .i64 4, .string ⟨#[]⟩, .int .u32 0, .int .u64 0, .bool false, .bool false, .int .u64 0, .int .u64 0, .int .i64 0, .int .u64 0, .slice none 0 0, .int .u64 0, .int .u64 0, .int .i64 0, .int .u64 0, .int .u64 v4, .int .i64 0, .int .i64 0] from (K5.out.set 15 (.int .u64 v4)))
  clear s15 f15
  generalize (w4.setCell ⟨w1.heap.size, 15, none⟩ (.int .u64 v4)) = W6 at K6 ⊢
  go_upto_region 19 with (first | (go_at_call 38; (with_reducible refine (consortref19_taker_num.calls 400 (w.heap.size + 1) s 9 e4 2 v5 s 11 e5 w _ K6.out.ns.st K6.out.ns.bel N5.out).mono ?_); rintro _ w5 ⟨rfl, hi, hb, hk⟩; have K7 := Aside0.mk (K6.out.call hi hb hk); have s16 := cellAt (i := 16) K7.out.t6 rfl; have f16 := blk_frozen K7.out.t6 16; clear hi hb hk))
  have K8 := Aside0.mk (show QT w (w5.setCell ⟨w1.heap.size, 16, none⟩ (.int .i64 y5)) _ w1.heap.size s 11 e5 #[.int .i64 4, .string ⟨#[]⟩, .int .u32 0, .int .u64 0, .bool false, .bool false, .int .u64 0, .int .u64 0, .int .i64 0, .int .u64 0, .slice none 0 0, .int .u64 0, .int .u64 0, .int .i64 0, .int .u64 0, .int .u64 v4, .int .i64 y5, .int .i64 0] from (K7.out.set 16 (.int .i64 y5)))
  clear s16 f16
  generalize (w5.setCell ⟨w1.heap.size, 16, none⟩ (.int .i64 y5)) = W8 at K8 ⊢
  go_upto_region 20 with (first | (go_at_call 38; (with_reducible refine (consortref19_taker_num.calls 400 (w.heap.size + 1) s 11 e5 2 v6 s 13 0 w _ K8.out.ns.st K8.out.ns.bel N6.out).mono ?_); rintro _ w6 ⟨rfl, hi, hb, hk⟩; have K9 := Aside0.mk (K8.out.call hi hb hk); have s17 := cellAt (i := 17) K9.out.t6 rfl; have f17 := blk_frozen K9.out.t6 17; clear hi hb hk))
  have K10 := Aside0.mk (show QT w (w6.setCell ⟨w1.heap.size, 17, none⟩ (.int .i64 y6)) _ w1.heap.size s 13 0 #[.int .i64 4, .string ⟨#[]⟩, .int .u32 0, .int .u64 0, .bool false, .bool false, .int .u64 0, .int .u64 0, .int .i64 0, .int .u64 0, .slice none 0 0, .int .u64 0, .int .u64 0, .int .i64 0, .int .u64 0, .int .u64 v4, .int .i64 y5, .int .i64 y6] from (K9.out.set 17 (.int .i64 y6)))
  clear s17 f17
  generalize (w6.setCell ⟨w1.heap.size, 17, none⟩ (.int .i64 y6)) = W10 at K10 ⊢
  have z2 := cellAt (i := 2) K10.out.ns.st.1 rfl; have k0 := cellAt (i := 0) K10.out.t6 rfl
  have z1 := cellAt (i := 1) K10.out.ns.st.1 rfl; have s1 := cellAt (i := 1) K10.out.t6 rfl; have f1 := blk_frozen K10.out.t6 1
  go_upto_region 22 with fail
  clear z1 z2 k0
  have K11 := Aside0.mk (show QT w (W10.setCell ⟨w1.heap.size, 1, none⟩ (.string d)) _ w1.heap.size s 13 0 #[.int .i64 4, .string d, .int .u32 0, .int .u64 0, .bool false, .bool false, .int .u64 0, .int .u64 0, .int .i64 0, .int .u64 0, .slice none 0 0, .int .u64 0, .int .u64 0, .int .i64 0, .int .u64 0, .int .u64 v4, .int .i64 y5, .int .i64 y6] from (K10.out.set 1 (.string d)))
  clear s1 f1
  generalize (W10.setCell ⟨w1.heap.size, 1, none⟩ (.string d)) = W11 at K11 ⊢
  have z1 := cellAt (i := 1) K11.out.ns.st.1 rfl; have zf1 := blk_frozen K11.out.ns.st.1 1
  go_upto_region 23 with fail
  have K12 := Aside0.mk (show QT w (W11.setCell ⟨w.heap.size + 1, 1, none⟩ (.int .i64 (s.size : Int))) _ w1.heap.size s (s.size : Int) 0 #[.int .i64 4, .string d, .int .u32 0, .int .u64 0, .bool false, .bool false, .int .u64 0, .int .u64 0, .int .i64 0, .int .u64 0, .slice none 0 0, .int .u64 0, .int .u64 0, .int .i64 0, .int .u64 0, .int .u64 v4, .int .i64 y5, .int .i64 y6] from K11.out.at_ (s.size : Int))
  clear z1 zf1
  generalize (W11.setCell ⟨w.heap.size + 1, 1, none⟩ (.int .i64 (s.size : Int))) = W12 at K12 ⊢
  have z1 := cellAt (i := 1) K12.out.ns.st.1 rfl
  go_upto_if 115 with (first | (go_at_call 39; (with_reducible refine (consortref19_taker_bad.calls (w.heap.size + 1) s (s.size : Int) 0 4 false s (s.size : Int) 0 w _ K12.out.ns.st K12.out.ns.bel B7.out).mono ?_); rintro _ w7 ⟨rfl, hi, hb, hk⟩; have K13 := Aside0.mk (K12.out.call hi hb hk); have z2 := cellAt (i := 2) K13.out.ns.st.1 rfl; clear hi hb hk))
  go_wp2_with (first | ((with_reducible refine gate_dst (N := 121) rfl ?_); refine load_event rfl (.tmp 5) 56 rfl rfl (load56 K13.out.t6) ?_) | ((with_reducible refine gate_store (t := 56) (p := 2) rfl ?_); refine store_row_event rfl (ty := 56) (p := 2) rfl rfl w.heap.size #[.int .i64 4, .string d, .int .u32 0, .int .u64 0, .bool false, .bool false, .int .u64 0, .int .u64 0, .int .i64 0, .int .u64 0, .slice none 0 0, .int .u64 0, .int .u64 0, .int .i64 0, .int .u64 0, .int .u64 v4, .int .i64 y5, .int .i64 y6] rfl rfl 56 #[.int .i64 0, .string ⟨#[]⟩, .int .u32 0, .int .u64 0, .bool false, .bool false, .int .u64 0, .int .u64 0, .int .i64 0, .int .u64 0, .slice none 0 0, .int .u64 0, .int .u64 0, .int .i64 0, .int .u64 0, .int .u64 0, .int .i64 0, .int .i64 0] K13.out.ns.t2 (by kernel_rfl) rfl (by simp [Value.oneCell']) ?_; intro w99 h7; have P7 := Aside0.mk (K13.out.res h7); clear h7))
  refine bodyPost_ret (results_ct rfl rfl rfl (run_loadVar_row (P := Try.prog) _ w.heap.size 56 56 _ (0, 0) _ P7.out.2.1 Try.underlying56 rfl (by kernel_rfl))) rfl ?_
  exact ⟨rfl, P7.out.2.2⟩
end Go.Proofs.Ytlkemknhmfjdpaa.P
