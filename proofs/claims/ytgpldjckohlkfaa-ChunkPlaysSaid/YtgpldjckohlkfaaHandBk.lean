/- ChunkBack, by hand. -/
import Derived.Test.YtgpldjckohlkfaaHandN
import Derived.Test.YtgpldjckohlkfaaBackL
namespace Go.Proofs.Ytgpldjckohlkfaa.P
open Go.Proofs.YtgpldjckohlkfaaOv Go.RowKit Go.Proofs.YtgpldjckohlkfaaW.PrintWords Go.Proofs.YtgpldjckohlkfaaW.PrintLast Go.Proofs.YtgpldjckohlkfaaW.PrintMore Go.Proofs.YtgpldjckohlkfaaIMap
attribute [local go_sem] max2_int min2_int max_two min_two max_three min_three max_four min_four
set_option linter.unusedVariables false
set_option linter.unusedSimpArgs false

theorem zero4 (w : World) : (zeroValue 4).run Try.prog w = .ok (.bool false) w := by kernel_rfl
theorem lookB {W : World} {ms : Nat} {l : List (Int × Bool)} (h : MapIs W ms .i64 Value.bool l) (k : Int) :
    (Instr.lookup 47 (.map (some ms)) (.int .i64 k) false).run Try.prog W = .ok (.bool ((mget l k).getD false)) W := by
  have hz : ((mget l k).map Value.bool).getD (.bool false) = .bool ((mget l k).getD false) := by cases mget l k <;> rfl
  have := h.look false Try.underlying47 Try.underlying3 (zero4 _) k
  simp only [hz] at this
  exact this
theorem load42b {W : World} {b : Nat} {v0 v1 v2 v3 v4 v5 v6 v7 v8 v9 v10 v11 v12 v13 v14 v15 v16 v17 : Value} (h : W.heap[b]? = some (.cells #[v0, v1, v2, v3, v4, v5, v6, v7, v8, v9, v10, v11, v12, v13, v14, v15, v16, v17] 42 (0, 0))) :
    (Instr.loadAt 42 (.pointer (some ⟨b, 0, none⟩))).run Try.prog W = .ok (.agg #[v0, v1, v2, v3, v4, v5, v6, v7, v8, v9, v10, v11, v12, v13, v14, v15, v16, v17]) W := by
  refine load_agg [v0, v1, v2, v3, v4, v5, v6, v7, v8, v9, v10, v11, v12, v13, v14, v15, v16, v17] (by kernel_rfl) (by kernel_rfl) (fun j u hj => ?_)
  rw [add_plain]
  refine cellAt h ?_
  simpa using hj
theorem C42_below {w W : World} {A : Option Addr} {n : Nat} {l : List S42} (h : Kd.C k42 w A n l) (hb : Below w.heap.size w W) : Kd.C k42 W A n l :=
  ⟨h.1, h.2.1, fun hn => by
    obtain ⟨ad, e, hc⟩ := h.2.2 hn
    refine ⟨ad, e, fun j p hj => ?_⟩
    obtain ⟨cs, hl, hK, hcs⟩ := hc j p hj
    exact ⟨cs, hl, k42_open hK ▸ k42_mk W p, fun i u hu => pw_cell_below hb (hcs i u hu)⟩⟩
theorem cell16 {w W : World} {A : Option Addr} {n : Nat} {l : List Int} (h : Kd.C (Kd.int .u16) w A n l) (hb : Below w.heap.size w W) (i : Nat) (hi : i < n) : ∃ ad, A = some ad ∧ W.cell? (ad.add i) = some (.int .u16 (l.getD i 0)) := by
  obtain ⟨ad, c, e, hcl, hK, hc⟩ := Kd.C_get h 0 (i : Int) (by omega) (by omega)
  have hK' : c = [.int .u16 (l.getD (i : Int).toNat 0)] := hK
  subst hK'
  have h1 := hc 0 _ rfl
  refine ⟨ad, e, ?_⟩
  have h2 := pw_cell_below hb h1
  rw [Int.toNat_natCast] at h2
  simpa [show (Kd.int .u16).sz = 1 from rfl] using h2
theorem cutS_id {s : ByteArray} (h : s.size ≤ 4096) : Pure.cutS s = s := by
  apply WideShapes.bytes_inj
  rw [Pure.cutS, Lib.extract_data]
  have hl : s.data.toList.length = s.size := Array.length_toList
  rw [List.drop_zero, show min s.size 4096 = s.data.toList.length by omega, Nat.sub_zero, List.take_length]
/-- The total that the state holds; how often all came. -/
def totK (T : Nat) (K : List Nat) : Int := if K = [] then 0 else (T : Int)
def timK (T : Nat) (K : List Nat) : Int := if K.length = T then 1 else 0
theorem take_in {a0 : Int} {s : ByteArray} {K : List Nat} {k n : Nat} (hn : 1 ≤ n ∧ n ≤ 16) (hK : K.length ≤ n) (hk : k < n) (h : k ∈ K) :
    chunk_Take.f a0 (totK n K) (Pure.kp (Pure.part s) K) 4 (Pure.part s k) 0 0 false false 0 0 0 0 OV.nil 0 0 0 0 a0 (k : Int) (n : Int) = some (false, a0, totK n K, Pure.kp (Pure.part s) K) := by
  have hne : K ≠ [] := fun e => by rw [e] at h; simp at h
  unfold chunk_Take.f
  rw [if_pos (by rw [Pure.kp_length]; omega)]
  by_cases hno : chunk_Take.no a0 (totK n K) (Pure.kp (Pure.part s) K) 4 a0 (k : Int) (n : Int)
  · rw [if_pos hno]
  · rw [if_neg hno, if_pos (by rw [Pure.mget_kp, if_pos h]; rfl)]
theorem take_new {a0 : Int} {s : ByteArray} {K : List Nat} {k n : Nat} (hn : 1 ≤ n ∧ n ≤ 16) (hK : K.length ≤ n) (hk : k < n) (h : k ∉ K) :
    chunk_Take.f a0 (totK n K) (Pure.kp (Pure.part s) K) 4 (Pure.part s k) 0 0 false false 0 0 0 0 OV.nil 0 0 0 0 a0 (k : Int) (n : Int) = some (decide (K.length + 1 = n), a0, totK n (K ++ [k]), Pure.kp (Pure.part s) (K ++ [k])) := by
  unfold chunk_Take.f
  have hno : ¬ chunk_Take.no a0 (totK n K) (Pure.kp (Pure.part s) K) 4 a0 (k : Int) (n : Int) := by
    unfold chunk_Take.no
    rw [Pure.kp_length]
    unfold totK
    rintro (h | h | h | h | h | h | ⟨h1, h2⟩)
    · exact h rfl
    · exact h rfl
    · omega
    · omega
    · omega
    · omega
    · rw [if_neg (fun e => by rw [e] at h1; simp at h1)] at h2
      exact h2 rfl
  rw [if_pos (by rw [Pure.kp_length]; omega), if_neg hno, if_neg (by rw [Pure.mget_kp, if_neg h]; simp), Pure.kp_snoc, Pure.kp_length]
  have e1 : totK n (K ++ [k]) = (n : Int) := by unfold totK; rw [if_neg (by simp)]
  rw [e1]
  congr 2
  exact decide_eq_decide.mpr (by omega)
theorem whole_all {a0 : Int} {s : ByteArray} {K : List Nat} {n : Nat} (hs : s.size ≤ 4096) (hn : 1 ≤ n ∧ n ≤ 16) (hc : n = Pure.cnt s) (hd : K.Nodup) (hK : ∀ k ∈ K, k < n) (hl : K.length = n) :
    chunk_Whole.f a0 (totK n K) (Pure.kp (Pure.part s) K) = some (s, true, a0, totK n K, Pure.kp (Pure.part s) K) := by
  have e1 : totK n K = (n : Int) := by unfold totK; rw [if_neg (fun e => by rw [e] at hl; simp at hl; omega)]
  unfold chunk_Whole.f
  rw [Pure.kp_length, hl, if_pos (by omega), if_neg (by omega), e1, if_neg (by omega), Int.toNat_natCast]
  have := Pure.cat_whole s hs K (fun j hj => Pure.keys_all hd hK hl j (by omega))
  rw [hc, this]
  rfl
theorem whole_no {a0 : Int} {s : ByteArray} {K : List Nat} {n : Nat} (hn : 1 ≤ n ∧ n ≤ 16) (hK : K.length ≤ n) (hne : K ≠ []) (hl : K.length ≠ n) :
    chunk_Whole.f a0 (totK n K) (Pure.kp (Pure.part s) K) = some (⟨#[]⟩, false, a0, totK n K, Pure.kp (Pure.part s) K) := by
  have e1 : totK n K = (n : Int) := by unfold totK; rw [if_neg hne]
  have h0 : K.length ≠ 0 := fun e => hne (List.eq_nil_of_length_eq_zero e)
  unfold chunk_Whole.f
  rw [Pure.kp_length, if_pos (by omega), if_neg (by omega), e1, if_pos (by omega)]
set_option maxHeartbeats 8000000 in
set_option maxRecDepth 100000 in
theorem bk_e0 (a0 : Int) (s : ByteArray) (A2 : Option Addr) (c2 : Nat) (tl : List Int) (y0_ : Int) (y1_ : ByteArray) (y2_ y3_ : Int) (y4_ y5_ : Bool) (y6_ y7_ y8_ y9_ : Int) (y10_ : OV) (y11_ y12_ y13_ y14_ y15_ y16_ y17_ : Int) (w : World) (b0 : decide (4096 < (s.size : Int)) = true) : Calls Try.prog 4 #[.int .u64 a0, .string s, .slice A2 tl.length c2, .agg #[.int .i64 y0_, .string y1_, .int .u32 y2_, .int .u64 y3_, .bool y4_, .bool y5_, .int .u64 y6_, .int .u64 y7_, .int .i64 y8_, .int .u64 y9_, .slice y10_.A y10_.n y10_.c, .int .u64 y11_, .int .u64 y12_, .int .i64 y13_, .int .u64 y14_, .int .u64 y15_, .int .i64 y16_, .int .i64 y17_]] w fun e w' => e = .returned (.bool true) ∧ Below w.heap.size w w' := by
  go_enter Try.func4, Try.ntmps4
  go_wp2_with (first | ((with_reducible refine gate_dst (N := 7) rfl ?_); refine box_event ?hg (N := 7) ?hd (cs := #[.int .i64 y0_, .string y1_, .int .u32 y2_, .int .u64 y3_, .bool y4_, .bool y5_, .int .u64 y6_, .int .u64 y7_, .int .i64 y8_, .int .u64 y9_, .slice y10_.A y10_.n y10_.c, .int .u64 y11_, .int .u64 y12_, .int .i64 y13_, .int .u64 y14_, .int .u64 y15_, .int .i64 y16_, .int .i64 y17_]) (t := 42) ?hr ?_; (case hd => rfl); (case hg => rfl); (case hr => first | (go_simp; done) | (go_simp; rfl)); intro g7 hg w1 hbox hb; have HX1 := Aside0.mk hbox; have HB1 := Aside0.mk hb; have HG7 := Aside0.mk (show w.heap.size ≤ g7 from Nat.le_of_eq hg.symm); clear hg hbox hb) | (go_at_call 6; (with_reducible refine (consortlaw23_awake.calls 60 true _ (Pure.awake_is 60 (by decide))).mono ?_); rintro e w2 ⟨rfl, hb⟩; have HX2 := Aside0.mk ((hb.block _ (blk_lt HX1.out)).trans HX1.out); have HB2 := Aside0.mk (below_step HB1.out hb); have q0 := cellAt (i := 0) HX2.out rfl; have q1 := cellAt (i := 1) HX2.out rfl; have q15 := cellAt (i := 15) HX2.out rfl; clear hb))
  go_ret
  exact ⟨rfl, HB2.out⟩
set_option maxHeartbeats 8000000 in
set_option maxRecDepth 100000 in
theorem bk_e1 (a0 : Int) (s : ByteArray) (A2 : Option Addr) (c2 : Nat) (tl : List Int) (y0_ : Int) (y1_ : ByteArray) (y2_ y3_ : Int) (y4_ y5_ : Bool) (y6_ y7_ y8_ y9_ : Int) (y10_ : OV) (y11_ y12_ y13_ y14_ y15_ y16_ y17_ : Int) (w : World) (b0 : decide (4096 < (s.size : Int)) = false) (b1 : decide (200 < (tl.length : Int)) = true) : Calls Try.prog 4 #[.int .u64 a0, .string s, .slice A2 tl.length c2, .agg #[.int .i64 y0_, .string y1_, .int .u32 y2_, .int .u64 y3_, .bool y4_, .bool y5_, .int .u64 y6_, .int .u64 y7_, .int .i64 y8_, .int .u64 y9_, .slice y10_.A y10_.n y10_.c, .int .u64 y11_, .int .u64 y12_, .int .i64 y13_, .int .u64 y14_, .int .u64 y15_, .int .i64 y16_, .int .i64 y17_]] w fun e w' => e = .returned (.bool true) ∧ Below w.heap.size w w' := by
  go_enter Try.func4, Try.ntmps4
  go_wp2_with (first | ((with_reducible refine gate_dst (N := 7) rfl ?_); refine box_event ?hg (N := 7) ?hd (cs := #[.int .i64 y0_, .string y1_, .int .u32 y2_, .int .u64 y3_, .bool y4_, .bool y5_, .int .u64 y6_, .int .u64 y7_, .int .i64 y8_, .int .u64 y9_, .slice y10_.A y10_.n y10_.c, .int .u64 y11_, .int .u64 y12_, .int .i64 y13_, .int .u64 y14_, .int .u64 y15_, .int .i64 y16_, .int .i64 y17_]) (t := 42) ?hr ?_; (case hd => rfl); (case hg => rfl); (case hr => first | (go_simp; done) | (go_simp; rfl)); intro g7 hg w1 hbox hb; have HX1 := Aside0.mk hbox; have HB1 := Aside0.mk hb; have HG7 := Aside0.mk (show w.heap.size ≤ g7 from Nat.le_of_eq hg.symm); clear hg hbox hb) | (go_at_call 6; (with_reducible refine (consortlaw23_awake.calls 60 true _ (Pure.awake_is 60 (by decide))).mono ?_); rintro e w2 ⟨rfl, hb⟩; have HX2 := Aside0.mk ((hb.block _ (blk_lt HX1.out)).trans HX1.out); have HB2 := Aside0.mk (below_step HB1.out hb); have q0 := cellAt (i := 0) HX2.out rfl; have q1 := cellAt (i := 1) HX2.out rfl; have q15 := cellAt (i := 15) HX2.out rfl; clear hb))
  go_ret
  exact ⟨rfl, HB2.out⟩
set_option maxHeartbeats 8000000 in
set_option maxRecDepth 100000 in
theorem bk_e3 (a0 : Int) (s : ByteArray) (A2 : Option Addr) (c2 : Nat) (tl : List Int) (y0_ : Int) (y1_ : ByteArray) (y2_ y3_ : Int) (y4_ y5_ : Bool) (y6_ y7_ y8_ y9_ : Int) (y10_ : OV) (y11_ y12_ y13_ y14_ y15_ y16_ y17_ : Int) (w : World) (b0 : decide (4096 < (s.size : Int)) = false) (b1 : decide (200 < (tl.length : Int)) = false) (b2 : (y0_ == 4) = true) (b3 : (y15_ == a0) = true) : Calls Try.prog 4 #[.int .u64 a0, .string s, .slice A2 tl.length c2, .agg #[.int .i64 y0_, .string y1_, .int .u32 y2_, .int .u64 y3_, .bool y4_, .bool y5_, .int .u64 y6_, .int .u64 y7_, .int .i64 y8_, .int .u64 y9_, .slice y10_.A y10_.n y10_.c, .int .u64 y11_, .int .u64 y12_, .int .i64 y13_, .int .u64 y14_, .int .u64 y15_, .int .i64 y16_, .int .i64 y17_]] w fun e w' => e = .returned (.bool true) ∧ Below w.heap.size w w' := by
  go_enter Try.func4, Try.ntmps4
  go_wp2_with (first | ((with_reducible refine gate_dst (N := 7) rfl ?_); refine box_event ?hg (N := 7) ?hd (cs := #[.int .i64 y0_, .string y1_, .int .u32 y2_, .int .u64 y3_, .bool y4_, .bool y5_, .int .u64 y6_, .int .u64 y7_, .int .i64 y8_, .int .u64 y9_, .slice y10_.A y10_.n y10_.c, .int .u64 y11_, .int .u64 y12_, .int .i64 y13_, .int .u64 y14_, .int .u64 y15_, .int .i64 y16_, .int .i64 y17_]) (t := 42) ?hr ?_; (case hd => rfl); (case hg => rfl); (case hr => first | (go_simp; done) | (go_simp; rfl)); intro g7 hg w1 hbox hb; have HX1 := Aside0.mk hbox; have HB1 := Aside0.mk hb; have HG7 := Aside0.mk (show w.heap.size ≤ g7 from Nat.le_of_eq hg.symm); clear hg hbox hb) | (go_at_call 6; (with_reducible refine (consortlaw23_awake.calls 60 true _ (Pure.awake_is 60 (by decide))).mono ?_); rintro e w2 ⟨rfl, hb⟩; have HX2 := Aside0.mk ((hb.block _ (blk_lt HX1.out)).trans HX1.out); have HB2 := Aside0.mk (below_step HB1.out hb); have q0 := cellAt (i := 0) HX2.out rfl; have q1 := cellAt (i := 1) HX2.out rfl; have q15 := cellAt (i := 15) HX2.out rfl; clear hb))
  go_ret
  exact ⟨rfl, HB2.out⟩
set_option maxHeartbeats 8000000 in
set_option maxRecDepth 100000 in
theorem bk_e4 (a0 : Int) (s : ByteArray) (A2 : Option Addr) (c2 : Nat) (tl : List Int) (y0_ : Int) (y1_ : ByteArray) (y2_ y3_ : Int) (y4_ y5_ : Bool) (y6_ y7_ y8_ y9_ : Int) (y10_ : OV) (y11_ y12_ y13_ y14_ y15_ y16_ y17_ : Int) (w : World) (b0 : decide (4096 < (s.size : Int)) = false) (b1 : decide (200 < (tl.length : Int)) = false) (b2 : (y0_ == 4) = false) (b4 : decide (5000 < (y1_.size : Int)) = true) : Calls Try.prog 4 #[.int .u64 a0, .string s, .slice A2 tl.length c2, .agg #[.int .i64 y0_, .string y1_, .int .u32 y2_, .int .u64 y3_, .bool y4_, .bool y5_, .int .u64 y6_, .int .u64 y7_, .int .i64 y8_, .int .u64 y9_, .slice y10_.A y10_.n y10_.c, .int .u64 y11_, .int .u64 y12_, .int .i64 y13_, .int .u64 y14_, .int .u64 y15_, .int .i64 y16_, .int .i64 y17_]] w fun e w' => e = .returned (.bool true) ∧ Below w.heap.size w w' := by
  go_enter Try.func4, Try.ntmps4
  go_wp2_with (first | ((with_reducible refine gate_dst (N := 7) rfl ?_); refine box_event ?hg (N := 7) ?hd (cs := #[.int .i64 y0_, .string y1_, .int .u32 y2_, .int .u64 y3_, .bool y4_, .bool y5_, .int .u64 y6_, .int .u64 y7_, .int .i64 y8_, .int .u64 y9_, .slice y10_.A y10_.n y10_.c, .int .u64 y11_, .int .u64 y12_, .int .i64 y13_, .int .u64 y14_, .int .u64 y15_, .int .i64 y16_, .int .i64 y17_]) (t := 42) ?hr ?_; (case hd => rfl); (case hg => rfl); (case hr => first | (go_simp; done) | (go_simp; rfl)); intro g7 hg w1 hbox hb; have HX1 := Aside0.mk hbox; have HB1 := Aside0.mk hb; have HG7 := Aside0.mk (show w.heap.size ≤ g7 from Nat.le_of_eq hg.symm); clear hg hbox hb) | (go_at_call 6; (with_reducible refine (consortlaw23_awake.calls 60 true _ (Pure.awake_is 60 (by decide))).mono ?_); rintro e w2 ⟨rfl, hb⟩; have HX2 := Aside0.mk ((hb.block _ (blk_lt HX1.out)).trans HX1.out); have HB2 := Aside0.mk (below_step HB1.out hb); have q0 := cellAt (i := 0) HX2.out rfl; have q1 := cellAt (i := 1) HX2.out rfl; have q15 := cellAt (i := 15) HX2.out rfl; clear hb))
  go_ret
  exact ⟨rfl, HB2.out⟩
set_option maxHeartbeats 8000000 in
set_option maxRecDepth 100000 in
theorem bk_e5 (a0 : Int) (s : ByteArray) (A2 : Option Addr) (c2 : Nat) (tl : List Int) (y0_ : Int) (y1_ : ByteArray) (y2_ y3_ : Int) (y4_ y5_ : Bool) (y6_ y7_ y8_ y9_ : Int) (y10_ : OV) (y11_ y12_ y13_ y14_ y15_ y16_ y17_ : Int) (w : World) (b0 : decide (4096 < (s.size : Int)) = false) (b1 : decide (200 < (tl.length : Int)) = false) (b2 : (y0_ == 4) = true) (b3 : (y15_ == a0) = false) (b4 : decide (5000 < (y1_.size : Int)) = true) : Calls Try.prog 4 #[.int .u64 a0, .string s, .slice A2 tl.length c2, .agg #[.int .i64 y0_, .string y1_, .int .u32 y2_, .int .u64 y3_, .bool y4_, .bool y5_, .int .u64 y6_, .int .u64 y7_, .int .i64 y8_, .int .u64 y9_, .slice y10_.A y10_.n y10_.c, .int .u64 y11_, .int .u64 y12_, .int .i64 y13_, .int .u64 y14_, .int .u64 y15_, .int .i64 y16_, .int .i64 y17_]] w fun e w' => e = .returned (.bool true) ∧ Below w.heap.size w w' := by
  go_enter Try.func4, Try.ntmps4
  go_wp2_with (first | ((with_reducible refine gate_dst (N := 7) rfl ?_); refine box_event ?hg (N := 7) ?hd (cs := #[.int .i64 y0_, .string y1_, .int .u32 y2_, .int .u64 y3_, .bool y4_, .bool y5_, .int .u64 y6_, .int .u64 y7_, .int .i64 y8_, .int .u64 y9_, .slice y10_.A y10_.n y10_.c, .int .u64 y11_, .int .u64 y12_, .int .i64 y13_, .int .u64 y14_, .int .u64 y15_, .int .i64 y16_, .int .i64 y17_]) (t := 42) ?hr ?_; (case hd => rfl); (case hg => rfl); (case hr => first | (go_simp; done) | (go_simp; rfl)); intro g7 hg w1 hbox hb; have HX1 := Aside0.mk hbox; have HB1 := Aside0.mk hb; have HG7 := Aside0.mk (show w.heap.size ≤ g7 from Nat.le_of_eq hg.symm); clear hg hbox hb) | (go_at_call 6; (with_reducible refine (consortlaw23_awake.calls 60 true _ (Pure.awake_is 60 (by decide))).mono ?_); rintro e w2 ⟨rfl, hb⟩; have HX2 := Aside0.mk ((hb.block _ (blk_lt HX1.out)).trans HX1.out); have HB2 := Aside0.mk (below_step HB1.out hb); have q0 := cellAt (i := 0) HX2.out rfl; have q1 := cellAt (i := 1) HX2.out rfl; have q15 := cellAt (i := 15) HX2.out rfl; clear hb))
  go_ret
  exact ⟨rfl, HB2.out⟩
set_option maxHeartbeats 8000000 in
set_option maxRecDepth 100000 in
theorem bk_main1 (a0 : Int) (s : ByteArray) (A2 : Option Addr) (c2 : Nat) (tl : List Int) (y0_ : Int) (y1_ : ByteArray) (y2_ y3_ : Int) (y4_ y5_ : Bool) (y6_ y7_ y8_ y9_ : Int) (y10_ : OV) (y11_ y12_ y13_ y14_ y15_ y16_ y17_ : Int) (w : World) (hr2 : Kd.C (Kd.int .u16) w A2 tl.length tl) (hc2 : tl.length ≤ c2) (hs : s.size ≤ 4096) (ht : tl.length ≤ 200) (htl : ∀ i, 0 ≤ tl.getD i 0 ∧ tl.getD i 0 ≤ 65535) (hno : y0_ ≠ 4 ∨ y15_ ≠ a0) (b2 : (y0_ == 4) = false) (b4 : decide (5000 < (y1_.size : Int)) = false) : Calls Try.prog 4 #[.int .u64 a0, .string s, .slice A2 tl.length c2, .agg #[.int .i64 y0_, .string y1_, .int .u32 y2_, .int .u64 y3_, .bool y4_, .bool y5_, .int .u64 y6_, .int .u64 y7_, .int .i64 y8_, .int .u64 y9_, .slice y10_.A y10_.n y10_.c, .int .u64 y11_, .int .u64 y12_, .int .i64 y13_, .int .u64 y14_, .int .u64 y15_, .int .i64 y16_, .int .i64 y17_]] w fun e w' => e = .returned (.bool true) ∧ Below w.heap.size w w' := by
  have b0 : decide (4096 < (s.size : Int)) = false := decide_eq_false (by omega)
  have b1 : decide (200 < (tl.length : Int)) = false := decide_eq_false (by omega)
  obtain ⟨L, hL, hLl, hLg⟩ := Pure.items_is a0 s 60 (by decide)
  rw [cutS_id hs] at hLl hLg
  have hT : 1 ≤ L.length ∧ L.length ≤ 16 := by rw [hLl]; unfold Pure.cnt; omega
  rw [← hLl] at hLg
  have HR2 := Aside0.mk hr2
  have HCC := Aside0.mk hc2
  have HLI := Aside0.mk hL
  have HLL := Aside0.mk hLl
  have HLG := Aside0.mk hLg
  have HT := Aside0.mk hT
  have HSS := Aside0.mk hs
  have HTL := Aside0.mk ht
  have HTR := Aside0.mk htl
  have HNO := Aside0.mk hno
  have hmm := @run_makeMap Try.prog
  clear hr2 hc2 hL hLl hLg hT hs ht htl hno
  go_enter Try.func4, Try.ntmps4
  go_upto_region 8 with (first | ((with_reducible refine gate_dst (N := 7) rfl ?_); refine box_event ?hg (N := 7) ?hd (cs := #[.int .i64 y0_, .string y1_, .int .u32 y2_, .int .u64 y3_, .bool y4_, .bool y5_, .int .u64 y6_, .int .u64 y7_, .int .i64 y8_, .int .u64 y9_, .slice y10_.A y10_.n y10_.c, .int .u64 y11_, .int .u64 y12_, .int .i64 y13_, .int .u64 y14_, .int .u64 y15_, .int .i64 y16_, .int .i64 y17_]) (t := 42) ?hr ?_; (case hd => rfl); (case hg => rfl); (case hr => first | (go_simp; done) | (go_simp; rfl)); intro g7 hg w1 hbox hb; have HX1 := Aside0.mk hbox; have HB1 := Aside0.mk hb; have HG7 := Aside0.mk (show w.heap.size ≤ g7 from Nat.le_of_eq hg.symm); clear hg hbox hb) | (go_at_call 6; (with_reducible refine (consortlaw23_awake.calls 60 true _ (Pure.awake_is 60 (by decide))).mono ?_); rintro e w2 ⟨rfl, hb⟩; have HX2 := Aside0.mk ((hb.block _ (blk_lt HX1.out)).trans HX1.out); have HB2 := Aside0.mk (below_step HB1.out hb); have q0 := cellAt (i := 0) HX2.out rfl; have q1 := cellAt (i := 1) HX2.out rfl; have q15 := cellAt (i := 15) HX2.out rfl; clear hb) | (go_at_call 7; (with_reducible refine (chunk_Items.calls 60 a0 s L _ HLI.out).mono ?_); rintro e w5 ⟨v, rfl, ho, hb⟩; obtain ⟨A9, c9, rfl⟩ := Kd.R_slice ho; have HC5 := Aside0.mk (Kd.R_reads' ho).2.2; have HX5 := Aside0.mk ((hb.block _ (blk_lt HX2.out)).trans HX2.out); have HB5 := Aside0.mk (below_step HB2.out hb); clear ho hb) | (go_at_call 11; (with_reducible refine (chunk_New.calls a0 a0 0 [] _ _ (Below.refl _ _) rfl).mono ?_); rintro e w6 ⟨g, rfl, hi, hb, _⟩; obtain ⟨mb, hblk, hgg, hgm, hmp⟩ := hi; have HS6 := Aside0.mk (show Sx w5 w6 g mb a0 0 [] from ⟨hblk, hmp, hgg, hgm⟩); have HB6 := Aside0.mk hb; clear hb hblk hgg hgm hmp))
  have HS7 := Aside0.mk (HS6.out.below (below_alloc (Below.refl _ _) (.map #[] 0)))
  have HM7 := Aside0.mk (MapIs.made w6 .i64 Value.bool)
  have HB7 := Aside0.mk (below_alloc HB6.out (.map #[] 0))
  have HNE := Aside0.mk (show mb ≠ w6.heap.size from Nat.ne_of_lt HS6.out.mp.lt)
  have HMS := Aside0.mk HB6.out.size
  generalize w6.alloc (.map #[] 0) = w7 at HS7 HM7 HB7 ⊢
  obtain ⟨ms, hms⟩ : ∃ ms, ms = w6.heap.size := ⟨_, rfl⟩
  rw [← hms] at HM7 HNE HMS ⊢
  obtain ⟨N, hN⟩ : ∃ N : Int, wrap64 ((tl.length : Int) + (L.length : Int)) = N := ⟨_, rfl⟩
  have HN := Aside0.mk (show N = ((tl.length + L.length : Nat) : Int) by rw [← hN]; have := HT.out; have := HTL.out; unfold wrap64; omega)
  have HNW := Aside0.mk hN
  clear hN hms HS6 HB6 b0 b1 b2 b4 hmm HX1 HB1
  go_wp2
  go_loopg [12, 13] (tl.length + L.length + 1) (fun kq v12 v13 wr => ∃ (i : Nat) (K : List Nat), v13 = .int .i64 (i : Int) ∧ v12 = .int .i64 (timK L.length K) ∧ Aside0 (tl.length + L.length + 1 ≤ i + kq) ∧ Aside0 (i ≤ tl.length + L.length) ∧ Aside0 (K.Nodup ∧ (∀ k ∈ K, k < L.length) ∧ ∀ j, tl.length + j < i → j ∈ K) ∧ Aside0 (Sx w5 wr g mb a0 (totK L.length K) (Pure.kp (Pure.part s) K)) ∧ Aside0 (MapIs wr ms .i64 Value.bool (Pure.kp (fun _ => true) K)) ∧ Aside0 (Below w5.heap.size w5 wr))
  case atStart => exact ⟨0, [], rfl, by unfold timK; rw [if_neg (by have := HT.out; simp; omega)], ⟨by omega⟩, ⟨by omega⟩, ⟨by simp, by simp, by omega⟩, HS7, HM7, HB7⟩
  case round =>
    obtain ⟨i, K, rfl, rfl, HK, HLE, HKK, HS, HM, HBr⟩ := hrel
    clear HS7 HM7 HB7
    cases gk with
    | zero => exact absurd HK.out (by have := HLE.out; omega)
    | succ k1 =>
      by_cases hi : i < tl.length + L.length
      · have b : decide ((i : Int) < N) = true := decide_eq_true (by have := HN.out; omega)
        obtain ⟨D, hD⟩ : ∃ D : Int, wrap64 ((i : Int) - (tl.length : Int)) = D := ⟨_, rfl⟩
        have HD := Aside0.mk (show tl.length ≤ i → wrap64 ((i : Int) - (tl.length : Int)) = ((i - tl.length : Nat) : Int) by clear hD; intro hh; have := HT.out; have := HTL.out; unfold wrap64; omega)
        have HI := Aside0.mk hi
        clear hi
        have hN := HNW.out
        go_upto_if 68 with fail
        clear hN hD b
        go_cut [14] (fun v14 wx => wx = wr ∧ ∃ k : Nat, v14 = .int .i64 (k : Int) ∧ Aside0 (k < L.length ∧ (tl.length ≤ i → k = i - tl.length)))
        case first =>
          by_cases it : i < tl.length
          · obtain ⟨ad, hA, hc⟩ := cell16 HR2.out (below_step HB5.out HBr.out) i it
            cases hA
            obtain ⟨x, hx⟩ : ∃ x, x = tl.getD i 0 := ⟨_, rfl⟩
            have HX := Aside0.mk (show 0 ≤ x ∧ x ≤ 65535 by rw [hx]; exact HTR.out i)
            rw [← hx] at hc
            have hL0 : L ≠ [] := fun e => by have := HT.out; rw [e] at this; simp at this
            have HV := Aside0.mk (show (wrap64 x).tmod (L.length : Int) = (((x % (L.length : Int)).toNat : Nat) : Int) ∧ (x % (L.length : Int)).toNat < L.length by
              have h1 := HX.out
              have h2 := HT.out
              have hw : wrap64 x = x := by unfold wrap64; omega
              rw [hw, Int.tmod_eq_emod_of_nonneg h1.1]
              have h3 := Int.emod_nonneg x (show (L.length : Int) ≠ 0 by omega)
              have h4 := Int.emod_lt_of_pos x (show (0 : Int) < (L.length : Int) by omega)
              clear hw
              omega)
            have HIT := Aside0.mk it
            clear hx
            go_wp2_with fail
            go_meet
            case rel => exact ⟨rfl, (x % (L.length : Int)).toNat, congrArg _ HV.out.1, ⟨HV.out.2, fun h => absurd HIT.out (by omega)⟩⟩
          · have hit : ¬ i < tl.length := it
            go_wp2_with fail
            go_meet
            case rel => exact ⟨rfl, i - tl.length, congrArg _ (HD.out (by omega)), ⟨by have := HI.out; omega, fun _ => rfl⟩⟩
        case rest =>
          obtain ⟨rfl, k, rfl, HKT⟩ := hcut
          have HD0 := Aside0.mk (show chunk_Take.f a0 (totK L.length K) (Pure.kp (Pure.part s) K) y0_ y1_ y2_ y3_ y4_ y5_ y6_ y7_ y8_ y9_ y10_ y11_ y12_ y13_ y14_ y15_ y16_ y17_ = some (false, a0, totK L.length K, Pure.kp (Pure.part s) K) by
            have hlen : K.length ≤ 1000000 := by have := Pure.keys_le L.length K HKK.out.1 HKK.out.2.1; have := HT.out; omega
            unfold chunk_Take.f
            rw [if_pos (by rw [Pure.kp_length]; exact hlen), if_pos (by unfold chunk_Take.no; rcases HNO.out with h | h; exact .inl h; exact .inr (.inl h))])
          have HX7 := Aside0.mk ((HBr.out.block _ (blk_lt HX5.out)).trans HX5.out)
          go_upto_region 17 with (first | ((with_reducible refine gate_dst (N := 78) rfl ?_); refine load_event rfl (.tmp 7) 42 rfl rfl (load42b HX7.out) ?_) | (go_at_call 12; (with_reducible refine (chunk_Take.callsM g mb a0 (totK L.length K) (Pure.kp (Pure.part s) K) y0_ y1_ y2_ y3_ y4_ y5_ y6_ y7_ y8_ y9_ y10_ y11_ y12_ y13_ y14_ y15_ y16_ y17_ false a0 (totK L.length K) (Pure.kp (Pure.part s) K) w5 _ (HS.out.st HBr.out) HD0.out).mono ?_); rintro _ w8 ⟨rfl, hst⟩; have HS8 := Aside0.mk hst.sx; have HM8 := Aside0.mk (hst.map2 HS.out HM.out HNE.out); have HB8 := Aside0.mk hst.bel; clear hst))
          have HKL := Aside0.mk (show K.length ≤ L.length from Pure.keys_le _ _ HKK.out.1 HKK.out.2.1)
          by_cases hin : k ∈ K
          · by_cases hfl : K.length = L.length
            · have HTK := Aside0.mk (show chunk_Take.f a0 (totK L.length K) (Pure.kp (Pure.part s) K) 4 (Pure.part s k) 0 0 false false 0 0 0 0 OV.nil 0 0 0 0 a0 (k : Int) (L.length : Int) = some (false, a0, totK L.length K, Pure.kp (Pure.part s) K) from by rw [take_in HT.out HKL.out HKT.out.1 hin])
              have HK2 := Aside0.mk (show K.Nodup ∧ (∀ x ∈ K, x < L.length) ∧ ∀ j, tl.length + j < i + 1 → j ∈ K from ⟨HKK.out.1, HKK.out.2.1, fun j hj => by by_cases hj2 : tl.length + j < i; exact HKK.out.2.2 j hj2; have := HKT.out.2 (by omega); rw [show j = k by omega]; exact hin⟩)
              have HWH := Aside0.mk (whole_all (a0 := a0) HSS.out HT.out HLL.out HK2.out.1 HK2.out.2.1 (show K.length = L.length from by exact hfl))
              have HTI := Aside0.mk (show timK L.length K = timK L.length K from by rfl)
              have b5 : (((K.length : Int)) == (L.length : Int)) = true := beq_iff_eq.mpr (by omega)
              have hlk : (Instr.lookup 47 (.map (some ms)) (.int .i64 (k : Int)) false).run Try.prog w8 = .ok (.bool true) w8 := by
                have := lookB HM8.out (k : Int)
                rw [Pure.mget_kp, if_pos hin] at this
                exact this
              obtain ⟨w9, hup0, hm9, hg9⟩ := HM8.out.store Try.underlying47 Try.underlying3 (k : Int) true
              have hup : (Instr.mapUpdate 47 (.map (some ms)) (.int .i64 (k : Int)) (.bool true)).run Try.prog w8 = .ok () w9 := hup0
              have hm9' : MapIs w9 ms .i64 Value.bool (Pure.kp (fun _ => true) K) := by rw [← Pure.mset_in (fun _ => true) K k hin]; exact hm9
              have HM9 := Aside0.mk hm9'
              have HS9 := Aside0.mk (HS8.out.grown HM8.out hg9 HNE.out)
              have HB9 := Aside0.mk (HB8.out.grown hg9 HB8.out.size (fun x hx => by cases hx; exact HMS.out))
              obtain ⟨ad, hA, _⟩ := HC5.out.2.2 (by have := HT.out; omega)
              have HLD := Aside0.mk (show (Instr.loadAt 42 (.pointer (some (ad.add (k * 18))))).run Try.prog w9 = .ok (.agg #[.int .i64 4, .string (Pure.part s k), .int .u32 0, .int .u64 0, .bool false, .bool false, .int .u64 0, .int .u64 0, .int .i64 0, .int .u64 0, .slice OV.nil.A OV.nil.n OV.nil.c, .int .u64 0, .int .u64 0, .int .i64 0, .int .u64 0, .int .u64 a0, .int .i64 (k : Int), .int .i64 (L.length : Int)]) w9 from by
                have h1 := load42 (C42_below HC5.out HB9.out) hA (k : Int) (by omega) (by have := HKT.out.1; omega)
                rw [Pure.rdA (HLG.out k HKT.out.1)] at h1
                unfold Pure.itemA at h1
                rw [← HLL.out] at h1
                exact h1)
              cases hA
              have hkl : k < L.length := HKT.out.1
              have HW := Aside0.mk (show wrap64 ((i : Int) + 1) = ((i + 1 : Nat) : Int) by have := HI.out; have := HT.out; have := HTL.out; rw [Pure.w64 (by omega)]; omega)
              clear hup0 hm9 hm9' hg9 hin hfl
              go_wp2_with (first | ((with_reducible refine gate_dst (N := 90) rfl ?_); refine load_event rfl (.tmp 89) 42 rfl rfl HLD.out ?_) | (go_at_call 12; (with_reducible refine (chunk_Take.callsM g mb a0 (totK L.length K) (Pure.kp (Pure.part s) K) 4 (Pure.part s k) 0 0 false false 0 0 0 0 OV.nil 0 0 0 0 a0 (k : Int) (L.length : Int) false a0 (totK L.length K) (Pure.kp (Pure.part s) K) w5 _ (HS9.out.st HB9.out) HTK.out).mono ?_); rintro _ w10 ⟨rfl, hst⟩; have HS10 := Aside0.mk hst.sx; have HM10 := Aside0.mk (hst.map2 HS9.out HM9.out HNE.out); have HB10 := Aside0.mk hst.bel; clear hst hlk hup) | (go_at_call 13; (with_reducible refine (chunk_Whole.callsM g a0 (totK L.length K) (Pure.kp (Pure.part s) K) s true a0 (totK L.length K) (Pure.kp (Pure.part s) K) w5 _ HS10.out.is HB10.out HWH.out).mono ?_); rintro _ w11 ⟨rfl, hb⟩; have HS11 := Aside0.mk (HS10.out.below hb); have HM11 := Aside0.mk (HM10.out.below hb); have HB11 := Aside0.mk (below_step HB10.out hb); have hlen := fun ty => HM11.out.len (P := Try.prog) (t := 47) ty Try.underlying47 (by rw [Pure.kp_length]; have := Pure.keys_le _ _ HK2.out.1 HK2.out.2.1; have := HT.out; omega); rw [Pure.kp_length] at hlen; clear hb))
              go_roundg k1
              case measure => exact Nat.lt_succ_self _
              case rel => exact ⟨i + 1, K, congrArg _ HW.out, rfl, ⟨by have := HK.out; omega⟩, ⟨by have := HI.out; omega⟩, HK2, HS11, HM11, HB11⟩
            · have HTK := Aside0.mk (show chunk_Take.f a0 (totK L.length K) (Pure.kp (Pure.part s) K) 4 (Pure.part s k) 0 0 false false 0 0 0 0 OV.nil 0 0 0 0 a0 (k : Int) (L.length : Int) = some (false, a0, totK L.length K, Pure.kp (Pure.part s) K) from by rw [take_in HT.out HKL.out HKT.out.1 hin])
              have HK2 := Aside0.mk (show K.Nodup ∧ (∀ x ∈ K, x < L.length) ∧ ∀ j, tl.length + j < i + 1 → j ∈ K from ⟨HKK.out.1, HKK.out.2.1, fun j hj => by by_cases hj2 : tl.length + j < i; exact HKK.out.2.2 j hj2; have := HKT.out.2 (by omega); rw [show j = k by omega]; exact hin⟩)
              have HWH := Aside0.mk (whole_no (a0 := a0) (s := s) HT.out (Pure.keys_le _ _ HK2.out.1 HK2.out.2.1) (show K ≠ [] from fun e => by rw [e] at hin; simp at hin) (show K.length ≠ L.length from by exact hfl))
              have HTI := Aside0.mk (show timK L.length K = timK L.length K from by rfl)
              have b5 : (((K.length : Int)) == (L.length : Int)) = false := beq_eq_false_iff_ne.mpr (by omega)
              have hlk : (Instr.lookup 47 (.map (some ms)) (.int .i64 (k : Int)) false).run Try.prog w8 = .ok (.bool true) w8 := by
                have := lookB HM8.out (k : Int)
                rw [Pure.mget_kp, if_pos hin] at this
                exact this
              obtain ⟨w9, hup0, hm9, hg9⟩ := HM8.out.store Try.underlying47 Try.underlying3 (k : Int) true
              have hup : (Instr.mapUpdate 47 (.map (some ms)) (.int .i64 (k : Int)) (.bool true)).run Try.prog w8 = .ok () w9 := hup0
              have hm9' : MapIs w9 ms .i64 Value.bool (Pure.kp (fun _ => true) K) := by rw [← Pure.mset_in (fun _ => true) K k hin]; exact hm9
              have HM9 := Aside0.mk hm9'
              have HS9 := Aside0.mk (HS8.out.grown HM8.out hg9 HNE.out)
              have HB9 := Aside0.mk (HB8.out.grown hg9 HB8.out.size (fun x hx => by cases hx; exact HMS.out))
              obtain ⟨ad, hA, _⟩ := HC5.out.2.2 (by have := HT.out; omega)
              have HLD := Aside0.mk (show (Instr.loadAt 42 (.pointer (some (ad.add (k * 18))))).run Try.prog w9 = .ok (.agg #[.int .i64 4, .string (Pure.part s k), .int .u32 0, .int .u64 0, .bool false, .bool false, .int .u64 0, .int .u64 0, .int .i64 0, .int .u64 0, .slice OV.nil.A OV.nil.n OV.nil.c, .int .u64 0, .int .u64 0, .int .i64 0, .int .u64 0, .int .u64 a0, .int .i64 (k : Int), .int .i64 (L.length : Int)]) w9 from by
                have h1 := load42 (C42_below HC5.out HB9.out) hA (k : Int) (by omega) (by have := HKT.out.1; omega)
                rw [Pure.rdA (HLG.out k HKT.out.1)] at h1
                unfold Pure.itemA at h1
                rw [← HLL.out] at h1
                exact h1)
              cases hA
              have hkl : k < L.length := HKT.out.1
              have HW := Aside0.mk (show wrap64 ((i : Int) + 1) = ((i + 1 : Nat) : Int) by have := HI.out; have := HT.out; have := HTL.out; rw [Pure.w64 (by omega)]; omega)
              clear hup0 hm9 hm9' hg9 hin hfl
              go_wp2_with (first | ((with_reducible refine gate_dst (N := 90) rfl ?_); refine load_event rfl (.tmp 89) 42 rfl rfl HLD.out ?_) | (go_at_call 12; (with_reducible refine (chunk_Take.callsM g mb a0 (totK L.length K) (Pure.kp (Pure.part s) K) 4 (Pure.part s k) 0 0 false false 0 0 0 0 OV.nil 0 0 0 0 a0 (k : Int) (L.length : Int) false a0 (totK L.length K) (Pure.kp (Pure.part s) K) w5 _ (HS9.out.st HB9.out) HTK.out).mono ?_); rintro _ w10 ⟨rfl, hst⟩; have HS10 := Aside0.mk hst.sx; have HM10 := Aside0.mk (hst.map2 HS9.out HM9.out HNE.out); have HB10 := Aside0.mk hst.bel; clear hst hlk hup) | (go_at_call 13; (with_reducible refine (chunk_Whole.callsM g a0 (totK L.length K) (Pure.kp (Pure.part s) K) ⟨#[]⟩ false a0 (totK L.length K) (Pure.kp (Pure.part s) K) w5 _ HS10.out.is HB10.out HWH.out).mono ?_); rintro _ w11 ⟨rfl, hb⟩; have HS11 := Aside0.mk (HS10.out.below hb); have HM11 := Aside0.mk (HM10.out.below hb); have HB11 := Aside0.mk (below_step HB10.out hb); have hlen := fun ty => HM11.out.len (P := Try.prog) (t := 47) ty Try.underlying47 (by rw [Pure.kp_length]; have := Pure.keys_le _ _ HK2.out.1 HK2.out.2.1; have := HT.out; omega); rw [Pure.kp_length] at hlen; clear hb))
              go_roundg k1
              case measure => exact Nat.lt_succ_self _
              case rel => exact ⟨i + 1, K, congrArg _ HW.out, rfl, ⟨by have := HK.out; omega⟩, ⟨by have := HI.out; omega⟩, HK2, HS11, HM11, HB11⟩
          · by_cases hfl : K.length + 1 = L.length
            · have HTK := Aside0.mk (show chunk_Take.f a0 (totK L.length K) (Pure.kp (Pure.part s) K) 4 (Pure.part s k) 0 0 false false 0 0 0 0 OV.nil 0 0 0 0 a0 (k : Int) (L.length : Int) = some (true, a0, totK L.length (K ++ [k]), Pure.kp (Pure.part s) (K ++ [k])) from by rw [take_new HT.out HKL.out HKT.out.1 hin, decide_eq_true hfl])
              have HK2 := Aside0.mk (show (K ++ [k]).Nodup ∧ (∀ x ∈ (K ++ [k]), x < L.length) ∧ ∀ j, tl.length + j < i + 1 → j ∈ (K ++ [k]) from ⟨Pure.nodup_snoc HKK.out.1 hin, fun x hx => by rcases List.mem_append.1 hx with hx | hx; exact HKK.out.2.1 x hx; simp at hx; rw [hx]; exact HKT.out.1, fun j hj => by by_cases hj2 : tl.length + j < i; exact List.mem_append_left _ (HKK.out.2.2 j hj2); have := HKT.out.2 (by omega); simp; right; omega⟩)
              have HWH := Aside0.mk (whole_all (a0 := a0) HSS.out HT.out HLL.out HK2.out.1 HK2.out.2.1 (show (K ++ [k]).length = L.length from by rw [List.length_append, List.length_singleton]; exact hfl))
              have HTI := Aside0.mk (show wrap64 (timK L.length K + 1) = timK L.length (K ++ [k]) from by unfold timK; rw [if_neg (by omega), if_pos (by rw [List.length_append, List.length_singleton]; omega)]; kernel_rfl)
              have b5 : (((K.length : Int) + 1) == (L.length : Int)) = true := beq_iff_eq.mpr (by omega)
              have hlk : (Instr.lookup 47 (.map (some ms)) (.int .i64 (k : Int)) false).run Try.prog w8 = .ok (.bool false) w8 := by
                have := lookB HM8.out (k : Int)
                rw [Pure.mget_kp, if_neg hin] at this
                exact this
              obtain ⟨w9, hup0, hm9, hg9⟩ := HM8.out.store Try.underlying47 Try.underlying3 (k : Int) true
              have hup : (Instr.mapUpdate 47 (.map (some ms)) (.int .i64 (k : Int)) (.bool true)).run Try.prog w8 = .ok () w9 := hup0
              have hm9' : MapIs w9 ms .i64 Value.bool (Pure.kp (fun _ => true) (K ++ [k])) := by rw [← Pure.mset_out (fun _ => true) K k hin]; exact hm9
              have HM9 := Aside0.mk hm9'
              have HS9 := Aside0.mk (HS8.out.grown HM8.out hg9 HNE.out)
              have HB9 := Aside0.mk (HB8.out.grown hg9 HB8.out.size (fun x hx => by cases hx; exact HMS.out))
              obtain ⟨ad, hA, _⟩ := HC5.out.2.2 (by have := HT.out; omega)
              have HLD := Aside0.mk (show (Instr.loadAt 42 (.pointer (some (ad.add (k * 18))))).run Try.prog w9 = .ok (.agg #[.int .i64 4, .string (Pure.part s k), .int .u32 0, .int .u64 0, .bool false, .bool false, .int .u64 0, .int .u64 0, .int .i64 0, .int .u64 0, .slice OV.nil.A OV.nil.n OV.nil.c, .int .u64 0, .int .u64 0, .int .i64 0, .int .u64 0, .int .u64 a0, .int .i64 (k : Int), .int .i64 (L.length : Int)]) w9 from by
                have h1 := load42 (C42_below HC5.out HB9.out) hA (k : Int) (by omega) (by have := HKT.out.1; omega)
                rw [Pure.rdA (HLG.out k HKT.out.1)] at h1
                unfold Pure.itemA at h1
                rw [← HLL.out] at h1
                exact h1)
              cases hA
              have hkl : k < L.length := HKT.out.1
              have HW := Aside0.mk (show wrap64 ((i : Int) + 1) = ((i + 1 : Nat) : Int) by have := HI.out; have := HT.out; have := HTL.out; rw [Pure.w64 (by omega)]; omega)
              clear hup0 hm9 hm9' hg9 hin hfl
              go_wp2_with (first | ((with_reducible refine gate_dst (N := 90) rfl ?_); refine load_event rfl (.tmp 89) 42 rfl rfl HLD.out ?_) | (go_at_call 12; (with_reducible refine (chunk_Take.callsM g mb a0 (totK L.length K) (Pure.kp (Pure.part s) K) 4 (Pure.part s k) 0 0 false false 0 0 0 0 OV.nil 0 0 0 0 a0 (k : Int) (L.length : Int) true a0 (totK L.length (K ++ [k])) (Pure.kp (Pure.part s) (K ++ [k])) w5 _ (HS9.out.st HB9.out) HTK.out).mono ?_); rintro _ w10 ⟨rfl, hst⟩; have HS10 := Aside0.mk hst.sx; have HM10 := Aside0.mk (hst.map2 HS9.out HM9.out HNE.out); have HB10 := Aside0.mk hst.bel; clear hst hlk hup) | (go_at_call 13; (with_reducible refine (chunk_Whole.callsM g a0 (totK L.length (K ++ [k])) (Pure.kp (Pure.part s) (K ++ [k])) s true a0 (totK L.length (K ++ [k])) (Pure.kp (Pure.part s) (K ++ [k])) w5 _ HS10.out.is HB10.out HWH.out).mono ?_); rintro _ w11 ⟨rfl, hb⟩; have HS11 := Aside0.mk (HS10.out.below hb); have HM11 := Aside0.mk (HM10.out.below hb); have HB11 := Aside0.mk (below_step HB10.out hb); have hlen := fun ty => HM11.out.len (P := Try.prog) (t := 47) ty Try.underlying47 (by rw [Pure.kp_length]; have := Pure.keys_le _ _ HK2.out.1 HK2.out.2.1; have := HT.out; omega); rw [Pure.kp_length, List.length_append, List.length_singleton] at hlen; clear hb))
              go_roundg k1
              case measure => exact Nat.lt_succ_self _
              case rel => exact ⟨i + 1, (K ++ [k]), congrArg _ HW.out, congrArg _ HTI.out, ⟨by have := HK.out; omega⟩, ⟨by have := HI.out; omega⟩, HK2, HS11, HM11, HB11⟩
            · have HTK := Aside0.mk (show chunk_Take.f a0 (totK L.length K) (Pure.kp (Pure.part s) K) 4 (Pure.part s k) 0 0 false false 0 0 0 0 OV.nil 0 0 0 0 a0 (k : Int) (L.length : Int) = some (false, a0, totK L.length (K ++ [k]), Pure.kp (Pure.part s) (K ++ [k])) from by rw [take_new HT.out HKL.out HKT.out.1 hin, decide_eq_false hfl])
              have HK2 := Aside0.mk (show (K ++ [k]).Nodup ∧ (∀ x ∈ (K ++ [k]), x < L.length) ∧ ∀ j, tl.length + j < i + 1 → j ∈ (K ++ [k]) from ⟨Pure.nodup_snoc HKK.out.1 hin, fun x hx => by rcases List.mem_append.1 hx with hx | hx; exact HKK.out.2.1 x hx; simp at hx; rw [hx]; exact HKT.out.1, fun j hj => by by_cases hj2 : tl.length + j < i; exact List.mem_append_left _ (HKK.out.2.2 j hj2); have := HKT.out.2 (by omega); simp; right; omega⟩)
              have HWH := Aside0.mk (whole_no (a0 := a0) (s := s) HT.out (Pure.keys_le _ _ HK2.out.1 HK2.out.2.1) (show (K ++ [k]) ≠ [] from by simp) (show (K ++ [k]).length ≠ L.length from by rw [List.length_append, List.length_singleton]; exact hfl))
              have HTI := Aside0.mk (show timK L.length K = timK L.length (K ++ [k]) from by unfold timK; rw [if_neg (by have := hfl; have := Pure.keys_le _ _ HK2.out.1 HK2.out.2.1; rw [List.length_append, List.length_singleton] at this; omega), if_neg (by rw [List.length_append, List.length_singleton]; exact hfl)])
              have b5 : (((K.length : Int) + 1) == (L.length : Int)) = false := beq_eq_false_iff_ne.mpr (by omega)
              have hlk : (Instr.lookup 47 (.map (some ms)) (.int .i64 (k : Int)) false).run Try.prog w8 = .ok (.bool false) w8 := by
                have := lookB HM8.out (k : Int)
                rw [Pure.mget_kp, if_neg hin] at this
                exact this
              obtain ⟨w9, hup0, hm9, hg9⟩ := HM8.out.store Try.underlying47 Try.underlying3 (k : Int) true
              have hup : (Instr.mapUpdate 47 (.map (some ms)) (.int .i64 (k : Int)) (.bool true)).run Try.prog w8 = .ok () w9 := hup0
              have hm9' : MapIs w9 ms .i64 Value.bool (Pure.kp (fun _ => true) (K ++ [k])) := by rw [← Pure.mset_out (fun _ => true) K k hin]; exact hm9
              have HM9 := Aside0.mk hm9'
              have HS9 := Aside0.mk (HS8.out.grown HM8.out hg9 HNE.out)
              have HB9 := Aside0.mk (HB8.out.grown hg9 HB8.out.size (fun x hx => by cases hx; exact HMS.out))
              obtain ⟨ad, hA, _⟩ := HC5.out.2.2 (by have := HT.out; omega)
              have HLD := Aside0.mk (show (Instr.loadAt 42 (.pointer (some (ad.add (k * 18))))).run Try.prog w9 = .ok (.agg #[.int .i64 4, .string (Pure.part s k), .int .u32 0, .int .u64 0, .bool false, .bool false, .int .u64 0, .int .u64 0, .int .i64 0, .int .u64 0, .slice OV.nil.A OV.nil.n OV.nil.c, .int .u64 0, .int .u64 0, .int .i64 0, .int .u64 0, .int .u64 a0, .int .i64 (k : Int), .int .i64 (L.length : Int)]) w9 from by
                have h1 := load42 (C42_below HC5.out HB9.out) hA (k : Int) (by omega) (by have := HKT.out.1; omega)
                rw [Pure.rdA (HLG.out k HKT.out.1)] at h1
                unfold Pure.itemA at h1
                rw [← HLL.out] at h1
                exact h1)
              cases hA
              have hkl : k < L.length := HKT.out.1
              have HW := Aside0.mk (show wrap64 ((i : Int) + 1) = ((i + 1 : Nat) : Int) by have := HI.out; have := HT.out; have := HTL.out; rw [Pure.w64 (by omega)]; omega)
              clear hup0 hm9 hm9' hg9 hin hfl
              go_wp2_with (first | ((with_reducible refine gate_dst (N := 90) rfl ?_); refine load_event rfl (.tmp 89) 42 rfl rfl HLD.out ?_) | (go_at_call 12; (with_reducible refine (chunk_Take.callsM g mb a0 (totK L.length K) (Pure.kp (Pure.part s) K) 4 (Pure.part s k) 0 0 false false 0 0 0 0 OV.nil 0 0 0 0 a0 (k : Int) (L.length : Int) false a0 (totK L.length (K ++ [k])) (Pure.kp (Pure.part s) (K ++ [k])) w5 _ (HS9.out.st HB9.out) HTK.out).mono ?_); rintro _ w10 ⟨rfl, hst⟩; have HS10 := Aside0.mk hst.sx; have HM10 := Aside0.mk (hst.map2 HS9.out HM9.out HNE.out); have HB10 := Aside0.mk hst.bel; clear hst hlk hup) | (go_at_call 13; (with_reducible refine (chunk_Whole.callsM g a0 (totK L.length (K ++ [k])) (Pure.kp (Pure.part s) (K ++ [k])) ⟨#[]⟩ false a0 (totK L.length (K ++ [k])) (Pure.kp (Pure.part s) (K ++ [k])) w5 _ HS10.out.is HB10.out HWH.out).mono ?_); rintro _ w11 ⟨rfl, hb⟩; have HS11 := Aside0.mk (HS10.out.below hb); have HM11 := Aside0.mk (HM10.out.below hb); have HB11 := Aside0.mk (below_step HB10.out hb); have hlen := fun ty => HM11.out.len (P := Try.prog) (t := 47) ty Try.underlying47 (by rw [Pure.kp_length]; have := Pure.keys_le _ _ HK2.out.1 HK2.out.2.1; have := HT.out; omega); rw [Pure.kp_length, List.length_append, List.length_singleton] at hlen; clear hb))
              go_roundg k1
              case measure => exact Nat.lt_succ_self _
              case rel => exact ⟨i + 1, (K ++ [k]), congrArg _ HW.out, congrArg _ HTI.out, ⟨by have := HK.out; omega⟩, ⟨by have := HI.out; omega⟩, HK2, HS11, HM11, HB11⟩
      · have b : decide ((i : Int) < N) = false := decide_eq_false (by have := HN.out; omega)
        have hfull : K.length = L.length := by
          have h1 := Pure.keys_le _ _ HKK.out.1 HKK.out.2.1
          have h2 := Pure.keys_ge L.length K (fun j hj => HKK.out.2.2 j (by omega))
          omega
        have b9 : (timK L.length K == 1) = true := by unfold timK; rw [if_pos hfull]; rfl
        have hN := HNW.out
        clear hi hfull
        go_wp2
        go_ret
        exact ⟨rfl, below_step HB5.out HBr.out⟩
set_option maxHeartbeats 8000000 in
set_option maxRecDepth 100000 in
theorem bk_main2 (a0 : Int) (s : ByteArray) (A2 : Option Addr) (c2 : Nat) (tl : List Int) (y0_ : Int) (y1_ : ByteArray) (y2_ y3_ : Int) (y4_ y5_ : Bool) (y6_ y7_ y8_ y9_ : Int) (y10_ : OV) (y11_ y12_ y13_ y14_ y15_ y16_ y17_ : Int) (w : World) (hr2 : Kd.C (Kd.int .u16) w A2 tl.length tl) (hc2 : tl.length ≤ c2) (hs : s.size ≤ 4096) (ht : tl.length ≤ 200) (htl : ∀ i, 0 ≤ tl.getD i 0 ∧ tl.getD i 0 ≤ 65535) (hno : y0_ ≠ 4 ∨ y15_ ≠ a0) (b2 : (y0_ == 4) = true) (b3 : (y15_ == a0) = false) (b4 : decide (5000 < (y1_.size : Int)) = false) : Calls Try.prog 4 #[.int .u64 a0, .string s, .slice A2 tl.length c2, .agg #[.int .i64 y0_, .string y1_, .int .u32 y2_, .int .u64 y3_, .bool y4_, .bool y5_, .int .u64 y6_, .int .u64 y7_, .int .i64 y8_, .int .u64 y9_, .slice y10_.A y10_.n y10_.c, .int .u64 y11_, .int .u64 y12_, .int .i64 y13_, .int .u64 y14_, .int .u64 y15_, .int .i64 y16_, .int .i64 y17_]] w fun e w' => e = .returned (.bool true) ∧ Below w.heap.size w w' := by
  have b0 : decide (4096 < (s.size : Int)) = false := decide_eq_false (by omega)
  have b1 : decide (200 < (tl.length : Int)) = false := decide_eq_false (by omega)
  obtain ⟨L, hL, hLl, hLg⟩ := Pure.items_is a0 s 60 (by decide)
  rw [cutS_id hs] at hLl hLg
  have hT : 1 ≤ L.length ∧ L.length ≤ 16 := by rw [hLl]; unfold Pure.cnt; omega
  rw [← hLl] at hLg
  have HR2 := Aside0.mk hr2
  have HCC := Aside0.mk hc2
  have HLI := Aside0.mk hL
  have HLL := Aside0.mk hLl
  have HLG := Aside0.mk hLg
  have HT := Aside0.mk hT
  have HSS := Aside0.mk hs
  have HTL := Aside0.mk ht
  have HTR := Aside0.mk htl
  have HNO := Aside0.mk hno
  have hmm := @run_makeMap Try.prog
  clear hr2 hc2 hL hLl hLg hT hs ht htl hno
  go_enter Try.func4, Try.ntmps4
  go_upto_region 8 with (first | ((with_reducible refine gate_dst (N := 7) rfl ?_); refine box_event ?hg (N := 7) ?hd (cs := #[.int .i64 y0_, .string y1_, .int .u32 y2_, .int .u64 y3_, .bool y4_, .bool y5_, .int .u64 y6_, .int .u64 y7_, .int .i64 y8_, .int .u64 y9_, .slice y10_.A y10_.n y10_.c, .int .u64 y11_, .int .u64 y12_, .int .i64 y13_, .int .u64 y14_, .int .u64 y15_, .int .i64 y16_, .int .i64 y17_]) (t := 42) ?hr ?_; (case hd => rfl); (case hg => rfl); (case hr => first | (go_simp; done) | (go_simp; rfl)); intro g7 hg w1 hbox hb; have HX1 := Aside0.mk hbox; have HB1 := Aside0.mk hb; have HG7 := Aside0.mk (show w.heap.size ≤ g7 from Nat.le_of_eq hg.symm); clear hg hbox hb) | (go_at_call 6; (with_reducible refine (consortlaw23_awake.calls 60 true _ (Pure.awake_is 60 (by decide))).mono ?_); rintro e w2 ⟨rfl, hb⟩; have HX2 := Aside0.mk ((hb.block _ (blk_lt HX1.out)).trans HX1.out); have HB2 := Aside0.mk (below_step HB1.out hb); have q0 := cellAt (i := 0) HX2.out rfl; have q1 := cellAt (i := 1) HX2.out rfl; have q15 := cellAt (i := 15) HX2.out rfl; clear hb) | (go_at_call 7; (with_reducible refine (chunk_Items.calls 60 a0 s L _ HLI.out).mono ?_); rintro e w5 ⟨v, rfl, ho, hb⟩; obtain ⟨A9, c9, rfl⟩ := Kd.R_slice ho; have HC5 := Aside0.mk (Kd.R_reads' ho).2.2; have HX5 := Aside0.mk ((hb.block _ (blk_lt HX2.out)).trans HX2.out); have HB5 := Aside0.mk (below_step HB2.out hb); clear ho hb) | (go_at_call 11; (with_reducible refine (chunk_New.calls a0 a0 0 [] _ _ (Below.refl _ _) rfl).mono ?_); rintro e w6 ⟨g, rfl, hi, hb, _⟩; obtain ⟨mb, hblk, hgg, hgm, hmp⟩ := hi; have HS6 := Aside0.mk (show Sx w5 w6 g mb a0 0 [] from ⟨hblk, hmp, hgg, hgm⟩); have HB6 := Aside0.mk hb; clear hb hblk hgg hgm hmp))
  have HS7 := Aside0.mk (HS6.out.below (below_alloc (Below.refl _ _) (.map #[] 0)))
  have HM7 := Aside0.mk (MapIs.made w6 .i64 Value.bool)
  have HB7 := Aside0.mk (below_alloc HB6.out (.map #[] 0))
  have HNE := Aside0.mk (show mb ≠ w6.heap.size from Nat.ne_of_lt HS6.out.mp.lt)
  have HMS := Aside0.mk HB6.out.size
  generalize w6.alloc (.map #[] 0) = w7 at HS7 HM7 HB7 ⊢
  obtain ⟨ms, hms⟩ : ∃ ms, ms = w6.heap.size := ⟨_, rfl⟩
  rw [← hms] at HM7 HNE HMS ⊢
  obtain ⟨N, hN⟩ : ∃ N : Int, wrap64 ((tl.length : Int) + (L.length : Int)) = N := ⟨_, rfl⟩
  have HN := Aside0.mk (show N = ((tl.length + L.length : Nat) : Int) by rw [← hN]; have := HT.out; have := HTL.out; unfold wrap64; omega)
  have HNW := Aside0.mk hN
  clear hN hms HS6 HB6 b0 b1 b2 b3 b4 hmm HX1 HB1
  go_wp2
  go_loopg [12, 13] (tl.length + L.length + 1) (fun kq v12 v13 wr => ∃ (i : Nat) (K : List Nat), v13 = .int .i64 (i : Int) ∧ v12 = .int .i64 (timK L.length K) ∧ Aside0 (tl.length + L.length + 1 ≤ i + kq) ∧ Aside0 (i ≤ tl.length + L.length) ∧ Aside0 (K.Nodup ∧ (∀ k ∈ K, k < L.length) ∧ ∀ j, tl.length + j < i → j ∈ K) ∧ Aside0 (Sx w5 wr g mb a0 (totK L.length K) (Pure.kp (Pure.part s) K)) ∧ Aside0 (MapIs wr ms .i64 Value.bool (Pure.kp (fun _ => true) K)) ∧ Aside0 (Below w5.heap.size w5 wr))
  case atStart => exact ⟨0, [], rfl, by unfold timK; rw [if_neg (by have := HT.out; simp; omega)], ⟨by omega⟩, ⟨by omega⟩, ⟨by simp, by simp, by omega⟩, HS7, HM7, HB7⟩
  case round =>
    obtain ⟨i, K, rfl, rfl, HK, HLE, HKK, HS, HM, HBr⟩ := hrel
    clear HS7 HM7 HB7
    cases gk with
    | zero => exact absurd HK.out (by have := HLE.out; omega)
    | succ k1 =>
      by_cases hi : i < tl.length + L.length
      · have b : decide ((i : Int) < N) = true := decide_eq_true (by have := HN.out; omega)
        obtain ⟨D, hD⟩ : ∃ D : Int, wrap64 ((i : Int) - (tl.length : Int)) = D := ⟨_, rfl⟩
        have HD := Aside0.mk (show tl.length ≤ i → wrap64 ((i : Int) - (tl.length : Int)) = ((i - tl.length : Nat) : Int) by clear hD; intro hh; have := HT.out; have := HTL.out; unfold wrap64; omega)
        have HI := Aside0.mk hi
        clear hi
        have hN := HNW.out
        go_upto_if 68 with fail
        clear hN hD b
        go_cut [14] (fun v14 wx => wx = wr ∧ ∃ k : Nat, v14 = .int .i64 (k : Int) ∧ Aside0 (k < L.length ∧ (tl.length ≤ i → k = i - tl.length)))
        case first =>
          by_cases it : i < tl.length
          · obtain ⟨ad, hA, hc⟩ := cell16 HR2.out (below_step HB5.out HBr.out) i it
            cases hA
            obtain ⟨x, hx⟩ : ∃ x, x = tl.getD i 0 := ⟨_, rfl⟩
            have HX := Aside0.mk (show 0 ≤ x ∧ x ≤ 65535 by rw [hx]; exact HTR.out i)
            rw [← hx] at hc
            have hL0 : L ≠ [] := fun e => by have := HT.out; rw [e] at this; simp at this
            have HV := Aside0.mk (show (wrap64 x).tmod (L.length : Int) = (((x % (L.length : Int)).toNat : Nat) : Int) ∧ (x % (L.length : Int)).toNat < L.length by
              have h1 := HX.out
              have h2 := HT.out
              have hw : wrap64 x = x := by unfold wrap64; omega
              rw [hw, Int.tmod_eq_emod_of_nonneg h1.1]
              have h3 := Int.emod_nonneg x (show (L.length : Int) ≠ 0 by omega)
              have h4 := Int.emod_lt_of_pos x (show (0 : Int) < (L.length : Int) by omega)
              clear hw
              omega)
            have HIT := Aside0.mk it
            clear hx
            go_wp2_with fail
            go_meet
            case rel => exact ⟨rfl, (x % (L.length : Int)).toNat, congrArg _ HV.out.1, ⟨HV.out.2, fun h => absurd HIT.out (by omega)⟩⟩
          · have hit : ¬ i < tl.length := it
            go_wp2_with fail
            go_meet
            case rel => exact ⟨rfl, i - tl.length, congrArg _ (HD.out (by omega)), ⟨by have := HI.out; omega, fun _ => rfl⟩⟩
        case rest =>
          obtain ⟨rfl, k, rfl, HKT⟩ := hcut
          have HD0 := Aside0.mk (show chunk_Take.f a0 (totK L.length K) (Pure.kp (Pure.part s) K) y0_ y1_ y2_ y3_ y4_ y5_ y6_ y7_ y8_ y9_ y10_ y11_ y12_ y13_ y14_ y15_ y16_ y17_ = some (false, a0, totK L.length K, Pure.kp (Pure.part s) K) by
            have hlen : K.length ≤ 1000000 := by have := Pure.keys_le L.length K HKK.out.1 HKK.out.2.1; have := HT.out; omega
            unfold chunk_Take.f
            rw [if_pos (by rw [Pure.kp_length]; exact hlen), if_pos (by unfold chunk_Take.no; rcases HNO.out with h | h; exact .inl h; exact .inr (.inl h))])
          have HX7 := Aside0.mk ((HBr.out.block _ (blk_lt HX5.out)).trans HX5.out)
          go_upto_region 17 with (first | ((with_reducible refine gate_dst (N := 78) rfl ?_); refine load_event rfl (.tmp 7) 42 rfl rfl (load42b HX7.out) ?_) | (go_at_call 12; (with_reducible refine (chunk_Take.callsM g mb a0 (totK L.length K) (Pure.kp (Pure.part s) K) y0_ y1_ y2_ y3_ y4_ y5_ y6_ y7_ y8_ y9_ y10_ y11_ y12_ y13_ y14_ y15_ y16_ y17_ false a0 (totK L.length K) (Pure.kp (Pure.part s) K) w5 _ (HS.out.st HBr.out) HD0.out).mono ?_); rintro _ w8 ⟨rfl, hst⟩; have HS8 := Aside0.mk hst.sx; have HM8 := Aside0.mk (hst.map2 HS.out HM.out HNE.out); have HB8 := Aside0.mk hst.bel; clear hst))
          have HKL := Aside0.mk (show K.length ≤ L.length from Pure.keys_le _ _ HKK.out.1 HKK.out.2.1)
          by_cases hin : k ∈ K
          · by_cases hfl : K.length = L.length
            · have HTK := Aside0.mk (show chunk_Take.f a0 (totK L.length K) (Pure.kp (Pure.part s) K) 4 (Pure.part s k) 0 0 false false 0 0 0 0 OV.nil 0 0 0 0 a0 (k : Int) (L.length : Int) = some (false, a0, totK L.length K, Pure.kp (Pure.part s) K) from by rw [take_in HT.out HKL.out HKT.out.1 hin])
              have HK2 := Aside0.mk (show K.Nodup ∧ (∀ x ∈ K, x < L.length) ∧ ∀ j, tl.length + j < i + 1 → j ∈ K from ⟨HKK.out.1, HKK.out.2.1, fun j hj => by by_cases hj2 : tl.length + j < i; exact HKK.out.2.2 j hj2; have := HKT.out.2 (by omega); rw [show j = k by omega]; exact hin⟩)
              have HWH := Aside0.mk (whole_all (a0 := a0) HSS.out HT.out HLL.out HK2.out.1 HK2.out.2.1 (show K.length = L.length from by exact hfl))
              have HTI := Aside0.mk (show timK L.length K = timK L.length K from by rfl)
              have b5 : (((K.length : Int)) == (L.length : Int)) = true := beq_iff_eq.mpr (by omega)
              have hlk : (Instr.lookup 47 (.map (some ms)) (.int .i64 (k : Int)) false).run Try.prog w8 = .ok (.bool true) w8 := by
                have := lookB HM8.out (k : Int)
                rw [Pure.mget_kp, if_pos hin] at this
                exact this
              obtain ⟨w9, hup0, hm9, hg9⟩ := HM8.out.store Try.underlying47 Try.underlying3 (k : Int) true
              have hup : (Instr.mapUpdate 47 (.map (some ms)) (.int .i64 (k : Int)) (.bool true)).run Try.prog w8 = .ok () w9 := hup0
              have hm9' : MapIs w9 ms .i64 Value.bool (Pure.kp (fun _ => true) K) := by rw [← Pure.mset_in (fun _ => true) K k hin]; exact hm9
              have HM9 := Aside0.mk hm9'
              have HS9 := Aside0.mk (HS8.out.grown HM8.out hg9 HNE.out)
              have HB9 := Aside0.mk (HB8.out.grown hg9 HB8.out.size (fun x hx => by cases hx; exact HMS.out))
              obtain ⟨ad, hA, _⟩ := HC5.out.2.2 (by have := HT.out; omega)
              have HLD := Aside0.mk (show (Instr.loadAt 42 (.pointer (some (ad.add (k * 18))))).run Try.prog w9 = .ok (.agg #[.int .i64 4, .string (Pure.part s k), .int .u32 0, .int .u64 0, .bool false, .bool false, .int .u64 0, .int .u64 0, .int .i64 0, .int .u64 0, .slice OV.nil.A OV.nil.n OV.nil.c, .int .u64 0, .int .u64 0, .int .i64 0, .int .u64 0, .int .u64 a0, .int .i64 (k : Int), .int .i64 (L.length : Int)]) w9 from by
                have h1 := load42 (C42_below HC5.out HB9.out) hA (k : Int) (by omega) (by have := HKT.out.1; omega)
                rw [Pure.rdA (HLG.out k HKT.out.1)] at h1
                unfold Pure.itemA at h1
                rw [← HLL.out] at h1
                exact h1)
              cases hA
              have hkl : k < L.length := HKT.out.1
              have HW := Aside0.mk (show wrap64 ((i : Int) + 1) = ((i + 1 : Nat) : Int) by have := HI.out; have := HT.out; have := HTL.out; rw [Pure.w64 (by omega)]; omega)
              clear hup0 hm9 hm9' hg9 hin hfl
              go_wp2_with (first | ((with_reducible refine gate_dst (N := 90) rfl ?_); refine load_event rfl (.tmp 89) 42 rfl rfl HLD.out ?_) | (go_at_call 12; (with_reducible refine (chunk_Take.callsM g mb a0 (totK L.length K) (Pure.kp (Pure.part s) K) 4 (Pure.part s k) 0 0 false false 0 0 0 0 OV.nil 0 0 0 0 a0 (k : Int) (L.length : Int) false a0 (totK L.length K) (Pure.kp (Pure.part s) K) w5 _ (HS9.out.st HB9.out) HTK.out).mono ?_); rintro _ w10 ⟨rfl, hst⟩; have HS10 := Aside0.mk hst.sx; have HM10 := Aside0.mk (hst.map2 HS9.out HM9.out HNE.out); have HB10 := Aside0.mk hst.bel; clear hst hlk hup) | (go_at_call 13; (with_reducible refine (chunk_Whole.callsM g a0 (totK L.length K) (Pure.kp (Pure.part s) K) s true a0 (totK L.length K) (Pure.kp (Pure.part s) K) w5 _ HS10.out.is HB10.out HWH.out).mono ?_); rintro _ w11 ⟨rfl, hb⟩; have HS11 := Aside0.mk (HS10.out.below hb); have HM11 := Aside0.mk (HM10.out.below hb); have HB11 := Aside0.mk (below_step HB10.out hb); have hlen := fun ty => HM11.out.len (P := Try.prog) (t := 47) ty Try.underlying47 (by rw [Pure.kp_length]; have := Pure.keys_le _ _ HK2.out.1 HK2.out.2.1; have := HT.out; omega); rw [Pure.kp_length] at hlen; clear hb))
              go_roundg k1
              case measure => exact Nat.lt_succ_self _
              case rel => exact ⟨i + 1, K, congrArg _ HW.out, rfl, ⟨by have := HK.out; omega⟩, ⟨by have := HI.out; omega⟩, HK2, HS11, HM11, HB11⟩
            · have HTK := Aside0.mk (show chunk_Take.f a0 (totK L.length K) (Pure.kp (Pure.part s) K) 4 (Pure.part s k) 0 0 false false 0 0 0 0 OV.nil 0 0 0 0 a0 (k : Int) (L.length : Int) = some (false, a0, totK L.length K, Pure.kp (Pure.part s) K) from by rw [take_in HT.out HKL.out HKT.out.1 hin])
              have HK2 := Aside0.mk (show K.Nodup ∧ (∀ x ∈ K, x < L.length) ∧ ∀ j, tl.length + j < i + 1 → j ∈ K from ⟨HKK.out.1, HKK.out.2.1, fun j hj => by by_cases hj2 : tl.length + j < i; exact HKK.out.2.2 j hj2; have := HKT.out.2 (by omega); rw [show j = k by omega]; exact hin⟩)
              have HWH := Aside0.mk (whole_no (a0 := a0) (s := s) HT.out (Pure.keys_le _ _ HK2.out.1 HK2.out.2.1) (show K ≠ [] from fun e => by rw [e] at hin; simp at hin) (show K.length ≠ L.length from by exact hfl))
              have HTI := Aside0.mk (show timK L.length K = timK L.length K from by rfl)
              have b5 : (((K.length : Int)) == (L.length : Int)) = false := beq_eq_false_iff_ne.mpr (by omega)
              have hlk : (Instr.lookup 47 (.map (some ms)) (.int .i64 (k : Int)) false).run Try.prog w8 = .ok (.bool true) w8 := by
                have := lookB HM8.out (k : Int)
                rw [Pure.mget_kp, if_pos hin] at this
                exact this
              obtain ⟨w9, hup0, hm9, hg9⟩ := HM8.out.store Try.underlying47 Try.underlying3 (k : Int) true
              have hup : (Instr.mapUpdate 47 (.map (some ms)) (.int .i64 (k : Int)) (.bool true)).run Try.prog w8 = .ok () w9 := hup0
              have hm9' : MapIs w9 ms .i64 Value.bool (Pure.kp (fun _ => true) K) := by rw [← Pure.mset_in (fun _ => true) K k hin]; exact hm9
              have HM9 := Aside0.mk hm9'
              have HS9 := Aside0.mk (HS8.out.grown HM8.out hg9 HNE.out)
              have HB9 := Aside0.mk (HB8.out.grown hg9 HB8.out.size (fun x hx => by cases hx; exact HMS.out))
              obtain ⟨ad, hA, _⟩ := HC5.out.2.2 (by have := HT.out; omega)
              have HLD := Aside0.mk (show (Instr.loadAt 42 (.pointer (some (ad.add (k * 18))))).run Try.prog w9 = .ok (.agg #[.int .i64 4, .string (Pure.part s k), .int .u32 0, .int .u64 0, .bool false, .bool false, .int .u64 0, .int .u64 0, .int .i64 0, .int .u64 0, .slice OV.nil.A OV.nil.n OV.nil.c, .int .u64 0, .int .u64 0, .int .i64 0, .int .u64 0, .int .u64 a0, .int .i64 (k : Int), .int .i64 (L.length : Int)]) w9 from by
                have h1 := load42 (C42_below HC5.out HB9.out) hA (k : Int) (by omega) (by have := HKT.out.1; omega)
                rw [Pure.rdA (HLG.out k HKT.out.1)] at h1
                unfold Pure.itemA at h1
                rw [← HLL.out] at h1
                exact h1)
              cases hA
              have hkl : k < L.length := HKT.out.1
              have HW := Aside0.mk (show wrap64 ((i : Int) + 1) = ((i + 1 : Nat) : Int) by have := HI.out; have := HT.out; have := HTL.out; rw [Pure.w64 (by omega)]; omega)
              clear hup0 hm9 hm9' hg9 hin hfl
              go_wp2_with (first | ((with_reducible refine gate_dst (N := 90) rfl ?_); refine load_event rfl (.tmp 89) 42 rfl rfl HLD.out ?_) | (go_at_call 12; (with_reducible refine (chunk_Take.callsM g mb a0 (totK L.length K) (Pure.kp (Pure.part s) K) 4 (Pure.part s k) 0 0 false false 0 0 0 0 OV.nil 0 0 0 0 a0 (k : Int) (L.length : Int) false a0 (totK L.length K) (Pure.kp (Pure.part s) K) w5 _ (HS9.out.st HB9.out) HTK.out).mono ?_); rintro _ w10 ⟨rfl, hst⟩; have HS10 := Aside0.mk hst.sx; have HM10 := Aside0.mk (hst.map2 HS9.out HM9.out HNE.out); have HB10 := Aside0.mk hst.bel; clear hst hlk hup) | (go_at_call 13; (with_reducible refine (chunk_Whole.callsM g a0 (totK L.length K) (Pure.kp (Pure.part s) K) ⟨#[]⟩ false a0 (totK L.length K) (Pure.kp (Pure.part s) K) w5 _ HS10.out.is HB10.out HWH.out).mono ?_); rintro _ w11 ⟨rfl, hb⟩; have HS11 := Aside0.mk (HS10.out.below hb); have HM11 := Aside0.mk (HM10.out.below hb); have HB11 := Aside0.mk (below_step HB10.out hb); have hlen := fun ty => HM11.out.len (P := Try.prog) (t := 47) ty Try.underlying47 (by rw [Pure.kp_length]; have := Pure.keys_le _ _ HK2.out.1 HK2.out.2.1; have := HT.out; omega); rw [Pure.kp_length] at hlen; clear hb))
              go_roundg k1
              case measure => exact Nat.lt_succ_self _
              case rel => exact ⟨i + 1, K, congrArg _ HW.out, rfl, ⟨by have := HK.out; omega⟩, ⟨by have := HI.out; omega⟩, HK2, HS11, HM11, HB11⟩
          · by_cases hfl : K.length + 1 = L.length
            · have HTK := Aside0.mk (show chunk_Take.f a0 (totK L.length K) (Pure.kp (Pure.part s) K) 4 (Pure.part s k) 0 0 false false 0 0 0 0 OV.nil 0 0 0 0 a0 (k : Int) (L.length : Int) = some (true, a0, totK L.length (K ++ [k]), Pure.kp (Pure.part s) (K ++ [k])) from by rw [take_new HT.out HKL.out HKT.out.1 hin, decide_eq_true hfl])
              have HK2 := Aside0.mk (show (K ++ [k]).Nodup ∧ (∀ x ∈ (K ++ [k]), x < L.length) ∧ ∀ j, tl.length + j < i + 1 → j ∈ (K ++ [k]) from ⟨Pure.nodup_snoc HKK.out.1 hin, fun x hx => by rcases List.mem_append.1 hx with hx | hx; exact HKK.out.2.1 x hx; simp at hx; rw [hx]; exact HKT.out.1, fun j hj => by by_cases hj2 : tl.length + j < i; exact List.mem_append_left _ (HKK.out.2.2 j hj2); have := HKT.out.2 (by omega); simp; right; omega⟩)
              have HWH := Aside0.mk (whole_all (a0 := a0) HSS.out HT.out HLL.out HK2.out.1 HK2.out.2.1 (show (K ++ [k]).length = L.length from by rw [List.length_append, List.length_singleton]; exact hfl))
              have HTI := Aside0.mk (show wrap64 (timK L.length K + 1) = timK L.length (K ++ [k]) from by unfold timK; rw [if_neg (by omega), if_pos (by rw [List.length_append, List.length_singleton]; omega)]; kernel_rfl)
              have b5 : (((K.length : Int) + 1) == (L.length : Int)) = true := beq_iff_eq.mpr (by omega)
              have hlk : (Instr.lookup 47 (.map (some ms)) (.int .i64 (k : Int)) false).run Try.prog w8 = .ok (.bool false) w8 := by
                have := lookB HM8.out (k : Int)
                rw [Pure.mget_kp, if_neg hin] at this
                exact this
              obtain ⟨w9, hup0, hm9, hg9⟩ := HM8.out.store Try.underlying47 Try.underlying3 (k : Int) true
              have hup : (Instr.mapUpdate 47 (.map (some ms)) (.int .i64 (k : Int)) (.bool true)).run Try.prog w8 = .ok () w9 := hup0
              have hm9' : MapIs w9 ms .i64 Value.bool (Pure.kp (fun _ => true) (K ++ [k])) := by rw [← Pure.mset_out (fun _ => true) K k hin]; exact hm9
              have HM9 := Aside0.mk hm9'
              have HS9 := Aside0.mk (HS8.out.grown HM8.out hg9 HNE.out)
              have HB9 := Aside0.mk (HB8.out.grown hg9 HB8.out.size (fun x hx => by cases hx; exact HMS.out))
              obtain ⟨ad, hA, _⟩ := HC5.out.2.2 (by have := HT.out; omega)
              have HLD := Aside0.mk (show (Instr.loadAt 42 (.pointer (some (ad.add (k * 18))))).run Try.prog w9 = .ok (.agg #[.int .i64 4, .string (Pure.part s k), .int .u32 0, .int .u64 0, .bool false, .bool false, .int .u64 0, .int .u64 0, .int .i64 0, .int .u64 0, .slice OV.nil.A OV.nil.n OV.nil.c, .int .u64 0, .int .u64 0, .int .i64 0, .int .u64 0, .int .u64 a0, .int .i64 (k : Int), .int .i64 (L.length : Int)]) w9 from by
                have h1 := load42 (C42_below HC5.out HB9.out) hA (k : Int) (by omega) (by have := HKT.out.1; omega)
                rw [Pure.rdA (HLG.out k HKT.out.1)] at h1
                unfold Pure.itemA at h1
                rw [← HLL.out] at h1
                exact h1)
              cases hA
              have hkl : k < L.length := HKT.out.1
              have HW := Aside0.mk (show wrap64 ((i : Int) + 1) = ((i + 1 : Nat) : Int) by have := HI.out; have := HT.out; have := HTL.out; rw [Pure.w64 (by omega)]; omega)
              clear hup0 hm9 hm9' hg9 hin hfl
              go_wp2_with (first | ((with_reducible refine gate_dst (N := 90) rfl ?_); refine load_event rfl (.tmp 89) 42 rfl rfl HLD.out ?_) | (go_at_call 12; (with_reducible refine (chunk_Take.callsM g mb a0 (totK L.length K) (Pure.kp (Pure.part s) K) 4 (Pure.part s k) 0 0 false false 0 0 0 0 OV.nil 0 0 0 0 a0 (k : Int) (L.length : Int) true a0 (totK L.length (K ++ [k])) (Pure.kp (Pure.part s) (K ++ [k])) w5 _ (HS9.out.st HB9.out) HTK.out).mono ?_); rintro _ w10 ⟨rfl, hst⟩; have HS10 := Aside0.mk hst.sx; have HM10 := Aside0.mk (hst.map2 HS9.out HM9.out HNE.out); have HB10 := Aside0.mk hst.bel; clear hst hlk hup) | (go_at_call 13; (with_reducible refine (chunk_Whole.callsM g a0 (totK L.length (K ++ [k])) (Pure.kp (Pure.part s) (K ++ [k])) s true a0 (totK L.length (K ++ [k])) (Pure.kp (Pure.part s) (K ++ [k])) w5 _ HS10.out.is HB10.out HWH.out).mono ?_); rintro _ w11 ⟨rfl, hb⟩; have HS11 := Aside0.mk (HS10.out.below hb); have HM11 := Aside0.mk (HM10.out.below hb); have HB11 := Aside0.mk (below_step HB10.out hb); have hlen := fun ty => HM11.out.len (P := Try.prog) (t := 47) ty Try.underlying47 (by rw [Pure.kp_length]; have := Pure.keys_le _ _ HK2.out.1 HK2.out.2.1; have := HT.out; omega); rw [Pure.kp_length, List.length_append, List.length_singleton] at hlen; clear hb))
              go_roundg k1
              case measure => exact Nat.lt_succ_self _
              case rel => exact ⟨i + 1, (K ++ [k]), congrArg _ HW.out, congrArg _ HTI.out, ⟨by have := HK.out; omega⟩, ⟨by have := HI.out; omega⟩, HK2, HS11, HM11, HB11⟩
            · have HTK := Aside0.mk (show chunk_Take.f a0 (totK L.length K) (Pure.kp (Pure.part s) K) 4 (Pure.part s k) 0 0 false false 0 0 0 0 OV.nil 0 0 0 0 a0 (k : Int) (L.length : Int) = some (false, a0, totK L.length (K ++ [k]), Pure.kp (Pure.part s) (K ++ [k])) from by rw [take_new HT.out HKL.out HKT.out.1 hin, decide_eq_false hfl])
              have HK2 := Aside0.mk (show (K ++ [k]).Nodup ∧ (∀ x ∈ (K ++ [k]), x < L.length) ∧ ∀ j, tl.length + j < i + 1 → j ∈ (K ++ [k]) from ⟨Pure.nodup_snoc HKK.out.1 hin, fun x hx => by rcases List.mem_append.1 hx with hx | hx; exact HKK.out.2.1 x hx; simp at hx; rw [hx]; exact HKT.out.1, fun j hj => by by_cases hj2 : tl.length + j < i; exact List.mem_append_left _ (HKK.out.2.2 j hj2); have := HKT.out.2 (by omega); simp; right; omega⟩)
              have HWH := Aside0.mk (whole_no (a0 := a0) (s := s) HT.out (Pure.keys_le _ _ HK2.out.1 HK2.out.2.1) (show (K ++ [k]) ≠ [] from by simp) (show (K ++ [k]).length ≠ L.length from by rw [List.length_append, List.length_singleton]; exact hfl))
              have HTI := Aside0.mk (show timK L.length K = timK L.length (K ++ [k]) from by unfold timK; rw [if_neg (by have := hfl; have := Pure.keys_le _ _ HK2.out.1 HK2.out.2.1; rw [List.length_append, List.length_singleton] at this; omega), if_neg (by rw [List.length_append, List.length_singleton]; exact hfl)])
              have b5 : (((K.length : Int) + 1) == (L.length : Int)) = false := beq_eq_false_iff_ne.mpr (by omega)
              have hlk : (Instr.lookup 47 (.map (some ms)) (.int .i64 (k : Int)) false).run Try.prog w8 = .ok (.bool false) w8 := by
                have := lookB HM8.out (k : Int)
                rw [Pure.mget_kp, if_neg hin] at this
                exact this
              obtain ⟨w9, hup0, hm9, hg9⟩ := HM8.out.store Try.underlying47 Try.underlying3 (k : Int) true
              have hup : (Instr.mapUpdate 47 (.map (some ms)) (.int .i64 (k : Int)) (.bool true)).run Try.prog w8 = .ok () w9 := hup0
              have hm9' : MapIs w9 ms .i64 Value.bool (Pure.kp (fun _ => true) (K ++ [k])) := by rw [← Pure.mset_out (fun _ => true) K k hin]; exact hm9
              have HM9 := Aside0.mk hm9'
              have HS9 := Aside0.mk (HS8.out.grown HM8.out hg9 HNE.out)
              have HB9 := Aside0.mk (HB8.out.grown hg9 HB8.out.size (fun x hx => by cases hx; exact HMS.out))
              obtain ⟨ad, hA, _⟩ := HC5.out.2.2 (by have := HT.out; omega)
              have HLD := Aside0.mk (show (Instr.loadAt 42 (.pointer (some (ad.add (k * 18))))).run Try.prog w9 = .ok (.agg #[.int .i64 4, .string (Pure.part s k), .int .u32 0, .int .u64 0, .bool false, .bool false, .int .u64 0, .int .u64 0, .int .i64 0, .int .u64 0, .slice OV.nil.A OV.nil.n OV.nil.c, .int .u64 0, .int .u64 0, .int .i64 0, .int .u64 0, .int .u64 a0, .int .i64 (k : Int), .int .i64 (L.length : Int)]) w9 from by
                have h1 := load42 (C42_below HC5.out HB9.out) hA (k : Int) (by omega) (by have := HKT.out.1; omega)
                rw [Pure.rdA (HLG.out k HKT.out.1)] at h1
                unfold Pure.itemA at h1
                rw [← HLL.out] at h1
                exact h1)
              cases hA
              have hkl : k < L.length := HKT.out.1
              have HW := Aside0.mk (show wrap64 ((i : Int) + 1) = ((i + 1 : Nat) : Int) by have := HI.out; have := HT.out; have := HTL.out; rw [Pure.w64 (by omega)]; omega)
              clear hup0 hm9 hm9' hg9 hin hfl
              go_wp2_with (first | ((with_reducible refine gate_dst (N := 90) rfl ?_); refine load_event rfl (.tmp 89) 42 rfl rfl HLD.out ?_) | (go_at_call 12; (with_reducible refine (chunk_Take.callsM g mb a0 (totK L.length K) (Pure.kp (Pure.part s) K) 4 (Pure.part s k) 0 0 false false 0 0 0 0 OV.nil 0 0 0 0 a0 (k : Int) (L.length : Int) false a0 (totK L.length (K ++ [k])) (Pure.kp (Pure.part s) (K ++ [k])) w5 _ (HS9.out.st HB9.out) HTK.out).mono ?_); rintro _ w10 ⟨rfl, hst⟩; have HS10 := Aside0.mk hst.sx; have HM10 := Aside0.mk (hst.map2 HS9.out HM9.out HNE.out); have HB10 := Aside0.mk hst.bel; clear hst hlk hup) | (go_at_call 13; (with_reducible refine (chunk_Whole.callsM g a0 (totK L.length (K ++ [k])) (Pure.kp (Pure.part s) (K ++ [k])) ⟨#[]⟩ false a0 (totK L.length (K ++ [k])) (Pure.kp (Pure.part s) (K ++ [k])) w5 _ HS10.out.is HB10.out HWH.out).mono ?_); rintro _ w11 ⟨rfl, hb⟩; have HS11 := Aside0.mk (HS10.out.below hb); have HM11 := Aside0.mk (HM10.out.below hb); have HB11 := Aside0.mk (below_step HB10.out hb); have hlen := fun ty => HM11.out.len (P := Try.prog) (t := 47) ty Try.underlying47 (by rw [Pure.kp_length]; have := Pure.keys_le _ _ HK2.out.1 HK2.out.2.1; have := HT.out; omega); rw [Pure.kp_length, List.length_append, List.length_singleton] at hlen; clear hb))
              go_roundg k1
              case measure => exact Nat.lt_succ_self _
              case rel => exact ⟨i + 1, (K ++ [k]), congrArg _ HW.out, congrArg _ HTI.out, ⟨by have := HK.out; omega⟩, ⟨by have := HI.out; omega⟩, HK2, HS11, HM11, HB11⟩
      · have b : decide ((i : Int) < N) = false := decide_eq_false (by have := HN.out; omega)
        have hfull : K.length = L.length := by
          have h1 := Pure.keys_le _ _ HKK.out.1 HKK.out.2.1
          have h2 := Pure.keys_ge L.length K (fun j hj => HKK.out.2.2 j (by omega))
          omega
        have b9 : (timK L.length K == 1) = true := by unfold timK; rw [if_pos hfull]; rfl
        have hN := HNW.out
        clear hi hfull
        go_wp2
        go_ret
        exact ⟨rfl, below_step HB5.out HBr.out⟩
def okT (tl : List Int) : Prop := ∀ x ∈ tl, 0 ≤ x ∧ x ≤ 65535
instance (tl : List Int) : Decidable (okT tl) := by unfold okT; infer_instance
def consortlaw23_ChunkBack.f (a0 : Int) (s : ByteArray) (tl : List Int) (y0_ : Int) (y1_ : ByteArray) (y2_ y3_ : Int) (y4_ y5_ : Bool) (y6_ y7_ y8_ y9_ : Int) (y10_ : OV) (y11_ y12_ y13_ y14_ y15_ y16_ y17_ : Int) : Option Bool := if okT tl then some true else none
theorem consortlaw23_ChunkBack.calls (a0 : Int) (s : ByteArray) (A2 : Option Addr) (c2 : Nat) (tl : List Int) (y0_ : Int) (y1_ : ByteArray) (y2_ y3_ : Int) (y4_ y5_ : Bool) (y6_ y7_ y8_ y9_ : Int) (y10_ : OV) (y11_ y12_ y13_ y14_ y15_ y16_ y17_ : Int) (w : World) (hr2 : Kd.C (Kd.int .u16) w A2 tl.length tl) (hc2 : tl.length ≤ c2) (h : consortlaw23_ChunkBack.f a0 s tl y0_ y1_ y2_ y3_ y4_ y5_ y6_ y7_ y8_ y9_ y10_ y11_ y12_ y13_ y14_ y15_ y16_ y17_ = some true) : Calls Try.prog 4 #[.int .u64 a0, .string s, .slice A2 tl.length c2, .agg #[.int .i64 y0_, .string y1_, .int .u32 y2_, .int .u64 y3_, .bool y4_, .bool y5_, .int .u64 y6_, .int .u64 y7_, .int .i64 y8_, .int .u64 y9_, .slice y10_.A y10_.n y10_.c, .int .u64 y11_, .int .u64 y12_, .int .i64 y13_, .int .u64 y14_, .int .u64 y15_, .int .i64 y16_, .int .i64 y17_]] w fun e w' => e = .returned (.bool true) ∧ Below w.heap.size w w' := by
  unfold consortlaw23_ChunkBack.f at h
  by_cases hm : okT tl
  rotate_left
  · rw [if_neg hm] at h
    cases h
  by_cases d0 : 4096 < (s.size : Int)
  · exact bk_e0 a0 s A2 c2 tl y0_ y1_ y2_ y3_ y4_ y5_ y6_ y7_ y8_ y9_ y10_ y11_ y12_ y13_ y14_ y15_ y16_ y17_ w (decide_eq_true d0)
  by_cases d1 : 200 < (tl.length : Int)
  · exact bk_e1 a0 s A2 c2 tl y0_ y1_ y2_ y3_ y4_ y5_ y6_ y7_ y8_ y9_ y10_ y11_ y12_ y13_ y14_ y15_ y16_ y17_ w (decide_eq_false d0) (decide_eq_true d1)
  have htl : ∀ i, 0 ≤ tl.getD i 0 ∧ tl.getD i 0 ≤ 65535 := fun i => by
    by_cases hi : i < tl.length
    · rw [List.getD_eq_getElem?_getD, List.getElem?_eq_getElem hi, Option.getD_some]
      exact hm _ (List.getElem_mem hi)
    · rw [List.getD_eq_getElem?_getD, List.getElem?_eq_none (by omega)]
      decide
  by_cases d2 : y0_ = 4
  · by_cases d3 : y15_ = a0
    · exact bk_e3 a0 s A2 c2 tl y0_ y1_ y2_ y3_ y4_ y5_ y6_ y7_ y8_ y9_ y10_ y11_ y12_ y13_ y14_ y15_ y16_ y17_ w (decide_eq_false d0) (decide_eq_false d1) (beq_iff_eq.mpr d2) (beq_iff_eq.mpr d3)
    · by_cases d4 : 5000 < (y1_.size : Int)
      · exact bk_e5 a0 s A2 c2 tl y0_ y1_ y2_ y3_ y4_ y5_ y6_ y7_ y8_ y9_ y10_ y11_ y12_ y13_ y14_ y15_ y16_ y17_ w (decide_eq_false d0) (decide_eq_false d1) (beq_iff_eq.mpr d2) (beq_eq_false_iff_ne.mpr d3) (decide_eq_true d4)
      · exact bk_main2 a0 s A2 c2 tl y0_ y1_ y2_ y3_ y4_ y5_ y6_ y7_ y8_ y9_ y10_ y11_ y12_ y13_ y14_ y15_ y16_ y17_ w hr2 hc2 (by omega) (by omega) htl (.inr d3) (beq_iff_eq.mpr d2) (beq_eq_false_iff_ne.mpr d3) (decide_eq_false d4)
  · by_cases d4 : 5000 < (y1_.size : Int)
    · exact bk_e4 a0 s A2 c2 tl y0_ y1_ y2_ y3_ y4_ y5_ y6_ y7_ y8_ y9_ y10_ y11_ y12_ y13_ y14_ y15_ y16_ y17_ w (decide_eq_false d0) (decide_eq_false d1) (beq_eq_false_iff_ne.mpr d2) (decide_eq_true d4)
    · exact bk_main1 a0 s A2 c2 tl y0_ y1_ y2_ y3_ y4_ y5_ y6_ y7_ y8_ y9_ y10_ y11_ y12_ y13_ y14_ y15_ y16_ y17_ w hr2 hc2 (by omega) (by omega) htl (.inl d2) (beq_eq_false_iff_ne.mpr d2) (decide_eq_false d4)
end Go.Proofs.Ytgpldjckohlkfaa.P
