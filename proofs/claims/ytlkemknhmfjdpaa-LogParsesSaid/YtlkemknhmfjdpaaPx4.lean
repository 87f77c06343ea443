-- Written by our own program (wip/pr) over the kit's print.py, with contracts of our own.
import Derived.Test.YtlkemknhmfjdpaaPx0
import Derived.Test.YtlkemknhmfjdpaaPx1
import Derived.Test.YtlkemknhmfjdpaaPx2
import Derived.Test.YtlkemknhmfjdpaaPx3
import Derived.Test.YtlkemknhmfjdpaaHandV
namespace Go.Proofs.Ytlkemknhmfjdpaa.P
open Go.RowKit Go.Proofs.YtlkemknhmfjdpaaW.PrintWords Go.Proofs.YtlkemknhmfjdpaaW.PrintLast Go.Proofs.YtlkemknhmfjdpaaW.PrintMore
attribute [local go_sem] max2_int min2_int max_two min_two max_three min_three max_four min_four   -- for this text's walks alone
set_option linter.unusedVariables false
set_option linter.unusedSimpArgs false

attribute [local go_sem high] eqA27
/-! ### consortref19_taker_record: function 40 -/
def consortref19_taker_record.l0 : Nat → Int → Int → ByteArray → Int → Int → Int → Int → Int → Int → List (S27) → Option (Int × Int × Int × Int × (List (S27)) × ByteArray × Int × Int)
  | 0, _, _, _, _, _, _, _, _, _, _ => none
  | k + 1, x4, x5, x1000, x1001, x1002, x175000, x175001, x175002, x175003, x175004 => if x5 < x4 then (if x1002 = 0 then ((consortref19_taker_view.f k x1000 x1001 x1002).bind fun bt182 => (if x175004.length < 4398046511104 then (consortref19_taker_record.l0 k x4 (wrap64 (x5 + 1)) bt182.2.2.2.2.1 bt182.2.2.2.2.2.1 bt182.2.2.2.2.2.2 x175000 x175001 x175002 x175003 (x175004 ++ [(⟨bt182.1, (⟨bt182.2.1, bt182.2.2.1⟩ : S25), bt182.2.2.2.1⟩ : S27)])) else (none))) else (some (x175000, x175001, x175002, x175003, x175004, x1000, x1001, x1002))) else (some (x175000, x175001, x175002, x175003, x175004, x1000, x1001, x1002))
def consortref19_taker_record.f (k : Nat) (s0_0 : ByteArray) (s0_1 : Int) (s0_2 : Int) : Option (Int × Int × Int × Int × (List (S27)) × ByteArray × Int × Int) := (consortref19_taker_view.f k s0_0 s0_1 s0_2).bind fun bt167 => ((consortref19_taker_num.f k bt167.2.2.2.2.1 bt167.2.2.2.2.2.1 bt167.2.2.2.2.2.2 1).bind fun bt175 => ((consortref19_taker_bad.f bt175.2.1 bt175.2.2.1 bt175.2.2.2 3 (decide ((wrap64 (bt175.1)) > 32))).bind fun bt179 => (consortref19_taker_record.l0 k (wrap64 (bt175.1)) 0 bt179.1 bt179.2.1 bt179.2.2 bt167.1 bt167.2.1 bt167.2.2.1 bt167.2.2.2.1 ([] : List (S27)))))
theorem consortref19_taker_record.mono_l : ∀ k, (∀ y0 y1 y2 y3 y4 y5 y6 y7 y8 y9, LeO (consortref19_taker_record.l0 k y0 y1 y2 y3 y4 y5 y6 y7 y8 y9) (consortref19_taker_record.l0 (k + 1) y0 y1 y2 y3 y4 y5 y6 y7 y8 y9))
  | 0 => fun _ _ _ _ _ _ _ _ _ _ r h => by simp [consortref19_taker_record.l0] at h
  | k + 1 => by
    have ih0 := consortref19_taker_record.mono_l k
    · intro y0 y1 y2 y3 y4 y5 y6 y7 y8 y9
      unfold consortref19_taker_record.l0
      repeat' first
      | (with_reducible exact ih0 _ _ _ _ _ _ _ _ _ _)
      | (with_reducible exact consortref19_taker_num.mono _ _ _ _ _)
      | (with_reducible exact consortref19_taker_view.mono _ _ _ _)
      | (with_reducible exact LeO.refl _)
      | (with_reducible exact LeO.none _)
      | (with_reducible refine LeO.ite ?_ ?_)
      | (with_reducible refine LeO.bind ?_ (fun _ => ?_))
      | exact ih0 _ _ _ _ _ _ _ _ _ _
      | exact consortref19_taker_num.mono _ _ _ _ _
      | exact consortref19_taker_view.mono _ _ _ _
      | exact LeO.none _
      | refine LeO.ite ?_ ?_
      | refine LeO.bind ?_ (fun _ => ?_)
theorem consortref19_taker_record.mono : ∀ a0 a1 a2 k, LeO (consortref19_taker_record.f k a0 a1 a2) (consortref19_taker_record.f (k + 1) a0 a1 a2) := by
  intro a0 a1 a2 k
  have ih0 := consortref19_taker_record.mono_l k
  unfold consortref19_taker_record.f
  repeat' first
      | (with_reducible exact ih0 _ _ _ _ _ _ _ _ _ _)
      | (with_reducible exact consortref19_taker_num.mono _ _ _ _ _)
      | (with_reducible exact consortref19_taker_view.mono _ _ _ _)
      | (with_reducible exact LeO.refl _)
      | (with_reducible exact LeO.none _)
      | (with_reducible refine LeO.ite ?_ ?_)
      | (with_reducible refine LeO.bind ?_ (fun _ => ?_))
      | exact ih0 _ _ _ _ _ _ _ _ _ _
      | exact consortref19_taker_num.mono _ _ _ _ _
      | exact consortref19_taker_view.mono _ _ _ _
      | exact LeO.none _
      | refine LeO.ite ?_ ?_
      | refine LeO.bind ?_ (fun _ => ?_)
def consortref19_taker_record.T7 : Bool × List (List Nat × List Nat) := (true, [([], []), ([0], [0]), ([], []), ([2], [2]), ([3], [3]), ([1, 4, 3], [1, 4]), ([0, 1, 2, 3, 4, 5], []), ([6, 5, 5, 0, 1, 2, 3, 4, 5], [5, 6])])
def consortref19_taker_record.B7 : List Nat := [0, 1, 0, 4, 12, 31, 63, 127]
theorem consortref19_taker_record.tab7 : rtab .any (opsOf Try.f40 7) = consortref19_taker_record.T7 := by kernel_rfl
theorem consortref19_taker_record.bits7 : waitsOk consortref19_taker_record.T7.2 consortref19_taker_record.B7 = true := by kernel_rfl
set_option maxHeartbeats 8000000 in
set_option maxRecDepth 100000 in
theorem consortref19_taker_record.calls (k : Nat) (g : Nat) (s0_0 : ByteArray) (s0_1 : Int) (s0_2 : Int) (r1 : Int) (r2 : Int) (r3 : Int) (r4 : Int) (r5 : List (S27)) (r6 : ByteArray) (r7 : Int) (r8 : Int) (w0 w : World) (hI : IsS85 w0 w g s0_0 s0_1 s0_2) (hB : Below w0.heap.size w0 w) (h : consortref19_taker_record.f k s0_0 s0_1 s0_2 = some (r1, r2, r3, r4, r5, r6, r7, r8)) :
    Calls Try.prog 40 #[.pointer (some ⟨g, 0, none⟩)] w fun e w' => ∃ v4_ : Value, e = .returned (.agg #[.int .u64 r1, .int .u64 r2, .int .i64 r3, .int .u64 r4, v4_]) ∧ Kd.R k27 27 w' w.heap.size (fun _ => True) v4_ r5 ∧ IsS85 w0 w' g r6 r7 r8 ∧ Below w0.heap.size w0 w' ∧ KeepBut w w' g none := by
  have hu42 := Try.underlying42
  have HI0 := Aside0.mk hI
  have HK := Aside0.mk (KeepBut.refl w g none)
  have HL := Aside0.mk hB.size
  clear hI
  have HW0 := Aside0.mk hB.size
  have HB := Aside0.mk hB
  clear hB
  have H : ((consortref19_taker_view.f k s0_0 s0_1 s0_2).bind fun bt167 => ((consortref19_taker_num.f k bt167.2.2.2.2.1 bt167.2.2.2.2.2.1 bt167.2.2.2.2.2.2 1).bind fun bt175 => ((consortref19_taker_bad.f bt175.2.1 bt175.2.2.1 bt175.2.2.2 3 (decide ((wrap64 (bt175.1)) > 32))).bind fun bt179 => (consortref19_taker_record.l0 k (wrap64 (bt175.1)) 0 bt179.1 bt179.2.1 bt179.2.2 bt167.1 bt167.2.1 bt167.2.2.1 bt167.2.2.2.1 ([] : List (S27)))))) = some (r1, r2, r3, r4, r5, r6, r7, r8) := h
  clear h
  replace H := Option.bind_eq_some_iff.mp H
  obtain ⟨⟨t167, t168, t169, t170, t171, t172, t173⟩, A20, H⟩ := H
  replace H : ((consortref19_taker_num.f k t171 t172 t173 1).bind fun bt175 => ((consortref19_taker_bad.f bt175.2.1 bt175.2.2.1 bt175.2.2.2 3 (decide ((wrap64 (bt175.1)) > 32))).bind fun bt179 => (consortref19_taker_record.l0 k (wrap64 (bt175.1)) 0 bt179.1 bt179.2.1 bt179.2.2 t167 t168 t169 t170 ([] : List (S27))))) = some (r1, r2, r3, r4, r5, r6, r7, r8) := H
  have A2 := Aside0.mk A20
  clear A20
  replace H := Option.bind_eq_some_iff.mp H
  obtain ⟨⟨t175, t176, t177, t178⟩, A30, H⟩ := H
  replace H : ((consortref19_taker_bad.f t176 t177 t178 3 (decide ((wrap64 (t175)) > 32))).bind fun bt179 => (consortref19_taker_record.l0 k (wrap64 (t175)) 0 bt179.1 bt179.2.1 bt179.2.2 t167 t168 t169 t170 ([] : List (S27)))) = some (r1, r2, r3, r4, r5, r6, r7, r8) := H
  have A3 := Aside0.mk A30
  clear A30
  replace H := Option.bind_eq_some_iff.mp H
  obtain ⟨⟨t179, t180, t181⟩, A40, H⟩ := H
  replace H : (consortref19_taker_record.l0 k (wrap64 (t175)) 0 t179 t180 t181 t167 t168 t169 t170 ([] : List (S27))) = some (r1, r2, r3, r4, r5, r6, r7, r8) := H
  have A4 := Aside0.mk A40
  clear A40
  have H' := Aside0.mk H
  clear H
  go_enter Try.func40, Try.ntmps40
  go_wp2_with (first | ((with_reducible refine gate_dst (N := 2) rfl ?_); refine box_event ?hg (N := 2) ?hd (cs := #[.int .u64 0, .int .u64 0, .int .i64 0, .int .u64 0, .slice none 0 0]) (t := 42) ?hr ?_; (case hd => rfl); (case hg => rfl); (case hr => first | (go_simp; done) | (go_simp; rfl)); intro gb166 hg w5 hbox hb; have n0_ := Aside0.mk (IsS85.below (by repeat (first | (with_reducible first | exact HI0.out | apply IsS85.alloc | apply IsS85.drewN | apply IsS85.drew | apply IsS85.set_0 | apply IsS85.set_1 | apply IsS85.set_2) | exact HI0.out)) hb); have n1_ := Aside0.mk (KeepBut.trans (by repeat (first | (with_reducible first | exact HK.out | apply KeepBut.set_ | apply keep_drewN | apply keep_drew | apply keep_alloc) | exact HK.out)) (KeepBut.of_below hb g none) (.inl rfl)); have n2_ := Aside0.mk (below_step (by repeat (first | (with_reducible first | exact HB.out | apply below_alloc | apply pw_below_drewN | apply below_drew1 | refine below_set ?_ (IsS85.ge HI0.out)) | exact HB.out)) hb); have n3_ := Aside0.mk (hbox); have n4_ := Aside0.mk ((by rw [hg]; exact (keep_size (w := w) (g := g) (row := none) (by repeat (first | (with_reducible first | exact HK.out | apply KeepBut.set_ | apply keep_drewN | apply keep_drew | apply keep_alloc) | exact HK.out))) : w.heap.size ≤ gb166)); have n5_ := Aside0.mk ((Nat.le_trans HW0.out (by rw [hg]; exact (keep_size (w := w) (g := g) (row := none) (by repeat (first | (with_reducible first | exact HK.out | apply KeepBut.set_ | apply keep_drewN | apply keep_drew | apply keep_alloc) | exact HK.out))) : w.heap.size ≤ gb166) : w0.heap.size ≤ gb166)); have n6_ := Aside0.mk ((by rw [hg]; exact Nat.ne_of_lt (IsS85.lt (show IsS85 w0 _ g s0_0 s0_1 s0_2 from by repeat (first | (with_reducible first | exact HI0.out | apply IsS85.alloc | apply IsS85.drewN | apply IsS85.drew | apply IsS85.set_0 | apply IsS85.set_1 | apply IsS85.set_2) | exact HI0.out))) : g ≠ gb166)); have n7_ := Aside0.mk ((by rw [hg]; exact Nat.ne_of_gt (IsS85.lt (show IsS85 w0 _ g s0_0 s0_1 s0_2 from by repeat (first | (with_reducible first | exact HI0.out | apply IsS85.alloc | apply IsS85.drewN | apply IsS85.drew | apply IsS85.set_0 | apply IsS85.set_1 | apply IsS85.set_2) | exact HI0.out))) : gb166 ≠ g)); clear HI0; clear HK; clear HB; have HI0 := n0_; have HK := n1_; have HB := n2_; have BK166 := n3_; have GW166 := n4_; have GE166 := n5_; have NB0_166 := n6_; have NB166_0 := n7_; clear n0_ n1_ n2_ n3_ n4_ n5_ n6_ n7_; clear hb hbox hg) | ((with_reducible refine gate_callee (f := 41) rfl ?_); refine goesL_ (some 7) rfl rfl Try.func41 (by kernel_rfl) rfl #[.pointer (some ⟨g, 0, none⟩)] rfl (by (try simp only [List.map_toArray, List.map_cons, List.map_nil]); first | done | rfl | (simp only [List.length_drop, List.length_take]; rfl)) ?_; (with_reducible refine (consortref19_taker_view.calls k g s0_0 s0_1 s0_2 t167 t168 t169 t170 t171 t172 t173 w0 _ ?side1 ?side2 A2.out).mono ?_); (case side1 => repeat (first | (with_reducible first | exact HI0.out | apply IsS85.alloc | apply IsS85.drewN | apply IsS85.drew | apply IsS85.set_0 | apply IsS85.set_1 | apply IsS85.set_2 | refine IsS85.far ?_ NB0_166.out _) | exact HI0.out)); (case side2 => repeat (first | (with_reducible first | exact HB.out | apply below_alloc | apply pw_below_drewN | apply below_drew1 | refine below_set ?_ (IsS85.ge HI0.out) | refine below_set ?_ GE166.out) | exact HB.out)); rintro e w6 ⟨rfl, hi, hb, hk⟩; refine ⟨_, rfl, ?_⟩; have n0_ := Aside0.mk (KeepBut.blk hk (g' := gb166) (o := .cells #[.int .u64 0, .int .u64 0, .int .i64 0, .int .u64 0, .slice none 0 0] 42 (0, 0)) (by (with_reducible repeat (first | refine blk_drewN ?_ _ | refine blk_drew ?_ | refine blk_alloc ?_ _)); exact BK166.out) NB166_0.out (by simp)); have n1_ := Aside0.mk (KeepBut.trans (by repeat (first | (with_reducible first | exact HK.out | apply KeepBut.set_ | apply keep_drewN | apply keep_drew | apply keep_alloc | refine keep_far ?_ GW166.out _) | exact HK.out)) hk (.inl rfl)); have n2_ := Aside0.mk (hb); have n3_ := Aside0.mk (hi); clear BK166; clear HK; clear HB; clear HI0; have BK166 := n0_; have HK := n1_; have HB := n2_; have HI0 := n3_; clear n0_ n1_ n2_ n3_; (try clear hb); (try clear hb2); (try clear hk); (try clear hi)) | ((with_reducible refine gate_dst (N := 3) rfl ?_); refine box_event ?hg (N := 3) ?hd (cs := #[.int .u64 0, .int .u64 0, .int .i64 0, .int .u64 0, .slice none 0 0]) (t := 42) ?hr ?_; (case hd => rfl); (case hg => rfl); (case hr => first | (go_simp; done) | (go_simp; rfl)); intro gb174 hg w7 hbox hb; have n0_ := Aside0.mk (IsS85.below (by repeat (first | (with_reducible first | exact HI0.out | apply IsS85.alloc | apply IsS85.drewN | apply IsS85.drew | apply IsS85.set_0 | apply IsS85.set_1 | apply IsS85.set_2 | refine IsS85.far ?_ NB0_166.out _) | exact HI0.out)) hb); have n1_ := Aside0.mk (blk_below (g := gb166) (o := .cells #[.int .u64 0, .int .u64 0, .int .i64 0, .int .u64 0, .slice none 0 0] 42 (0, 0)) (by (with_reducible repeat (first | refine blk_drewN ?_ _ | refine blk_drew ?_ | refine blk_alloc ?_ _)); exact BK166.out) hb); have n2_ := Aside0.mk (KeepBut.trans (by repeat (first | (with_reducible first | exact HK.out | apply KeepBut.set_ | apply keep_drewN | apply keep_drew | apply keep_alloc | refine keep_far ?_ GW166.out _) | exact HK.out)) (KeepBut.of_below hb g none) (.inl rfl)); have n3_ := Aside0.mk (below_step (by repeat (first | (with_reducible first | exact HB.out | apply below_alloc | apply pw_below_drewN | apply below_drew1 | refine below_set ?_ (IsS85.ge HI0.out) | refine below_set ?_ GE166.out) | exact HB.out)) hb); have n4_ := Aside0.mk (hbox); have n5_ := Aside0.mk ((by rw [hg]; exact (keep_size (w := w) (g := g) (row := none) (by repeat (first | (with_reducible first | exact HK.out | apply KeepBut.set_ | apply keep_drewN | apply keep_drew | apply keep_alloc | refine keep_far ?_ GW166.out _) | exact HK.out))) : w.heap.size ≤ gb174)); have n6_ := Aside0.mk ((Nat.le_trans HW0.out (by rw [hg]; exact (keep_size (w := w) (g := g) (row := none) (by repeat (first | (with_reducible first | exact HK.out | apply KeepBut.set_ | apply keep_drewN | apply keep_drew | apply keep_alloc | refine keep_far ?_ GW166.out _) | exact HK.out))) : w.heap.size ≤ gb174) : w0.heap.size ≤ gb174)); have n7_ := Aside0.mk ((by rw [hg]; exact Nat.ne_of_lt (blk_lt (g := gb166) (o := .cells #[.int .u64 0, .int .u64 0, .int .i64 0, .int .u64 0, .slice none 0 0] 42 (0, 0)) (by (with_reducible repeat (first | refine blk_drewN ?_ _ | refine blk_drew ?_ | refine blk_alloc ?_ _)); exact BK166.out)) : gb166 ≠ gb174)); have n8_ := Aside0.mk ((by rw [hg]; exact Nat.ne_of_gt (blk_lt (g := gb166) (o := .cells #[.int .u64 0, .int .u64 0, .int .i64 0, .int .u64 0, .slice none 0 0] 42 (0, 0)) (by (with_reducible repeat (first | refine blk_drewN ?_ _ | refine blk_drew ?_ | refine blk_alloc ?_ _)); exact BK166.out)) : gb174 ≠ gb166)); have n9_ := Aside0.mk ((by rw [hg]; exact Nat.ne_of_lt (IsS85.lt (show IsS85 w0 _ g t171 t172 t173 from by repeat (first | (with_reducible first | exact HI0.out | apply IsS85.alloc | apply IsS85.drewN | apply IsS85.drew | apply IsS85.set_0 | apply IsS85.set_1 | apply IsS85.set_2 | refine IsS85.far ?_ NB0_166.out _) | exact HI0.out))) : g ≠ gb174)); have n10_ := Aside0.mk ((by rw [hg]; exact Nat.ne_of_gt (IsS85.lt (show IsS85 w0 _ g t171 t172 t173 from by repeat (first | (with_reducible first | exact HI0.out | apply IsS85.alloc | apply IsS85.drewN | apply IsS85.drew | apply IsS85.set_0 | apply IsS85.set_1 | apply IsS85.set_2 | refine IsS85.far ?_ NB0_166.out _) | exact HI0.out))) : gb174 ≠ g)); clear HI0; clear BK166; clear HK; clear HB; have HI0 := n0_; have BK166 := n1_; have HK := n2_; have HB := n3_; have BK174 := n4_; have GW174 := n5_; have GE174 := n6_; have NB166_174 := n7_; have NB174_166 := n8_; have NB0_174 := n9_; have NB174_0 := n10_; clear n0_ n1_ n2_ n3_ n4_ n5_ n6_ n7_ n8_ n9_ n10_; clear hb hbox hg; have hnb8 := NB174_166.out; have hnc8 := NB166_174.out; have hnb9 := NB174_0.out; have hnc9 := NB0_174.out; have hcz10_0 : w7.cell? ⟨gb174, 0, none⟩ = some (.int .u64 0) := (blk_cell BK174.out 0).trans rfl; have hcz10_1 : w7.cell? ⟨gb174, 1, none⟩ = some (.int .u64 0) := (blk_cell BK174.out 1).trans rfl; have hcz10_2 : w7.cell? ⟨gb174, 2, none⟩ = some (.int .i64 0) := (blk_cell BK174.out 2).trans rfl; have hcz10_3 : w7.cell? ⟨gb174, 3, none⟩ = some (.int .u64 0) := (blk_cell BK174.out 3).trans rfl; have hcz10_4 : w7.cell? ⟨gb174, 4, none⟩ = some (.slice none 0 0) := (blk_cell BK174.out 4).trans rfl; have hfz10_0 := blk_frozen BK174.out 0; have hfz10_1 := blk_frozen BK174.out 1; have hfz10_2 := blk_frozen BK174.out 2; have hfz10_3 := blk_frozen BK174.out 3; have hfz10_4 := blk_frozen BK174.out 4) | ((with_reducible refine gate_callee (f := 38) rfl ?_); refine goesL_ (some 10) rfl rfl Try.func38 (by kernel_rfl) rfl #[.pointer (some ⟨g, 0, none⟩), .int .i64 1] rfl (by (try simp only [List.map_toArray, List.map_cons, List.map_nil]); first | done | rfl | (simp only [List.length_drop, List.length_take]; rfl)) ?_; (with_reducible refine (consortref19_taker_num.calls k g t171 t172 t173 1 t175 t176 t177 t178 w0 _ ?side1 ?side2 A3.out).mono ?_); (case side1 => repeat (first | (with_reducible first | exact HI0.out | apply IsS85.alloc | apply IsS85.drewN | apply IsS85.drew | apply IsS85.set_0 | apply IsS85.set_1 | apply IsS85.set_2 | refine IsS85.far ?_ NB0_166.out _ | refine IsS85.far ?_ NB0_174.out _) | exact HI0.out)); (case side2 => repeat (first | (with_reducible first | exact HB.out | apply below_alloc | apply pw_below_drewN | apply below_drew1 | refine below_set ?_ (IsS85.ge HI0.out) | refine below_set ?_ GE166.out | refine below_set ?_ GE174.out) | exact HB.out)); rintro e w11 ⟨rfl, hi, hb, hk⟩; refine ⟨_, rfl, ?_⟩; have n0_ := Aside0.mk (KeepBut.blk hk (g' := gb166) (o := .cells #[.int .u64 0, .int .u64 0, .int .i64 0, .int .u64 0, .slice none 0 0] 42 (0, 0)) (by (with_reducible repeat (first | refine blk_drewN ?_ _ | refine blk_drew ?_ | refine blk_alloc ?_ _)); refine blk_far ?_ NB166_174.out _; (with_reducible repeat (first | refine blk_drewN ?_ _ | refine blk_drew ?_ | refine blk_alloc ?_ _)); refine blk_far ?_ NB166_174.out _; (with_reducible repeat (first | refine blk_drewN ?_ _ | refine blk_drew ?_ | refine blk_alloc ?_ _)); refine blk_far ?_ NB166_174.out _; (with_reducible repeat (first | refine blk_drewN ?_ _ | refine blk_drew ?_ | refine blk_alloc ?_ _)); refine blk_far ?_ NB166_174.out _; (with_reducible repeat (first | refine blk_drewN ?_ _ | refine blk_drew ?_ | refine blk_alloc ?_ _)); refine blk_far ?_ NB166_174.out _; (with_reducible repeat (first | refine blk_drewN ?_ _ | refine blk_drew ?_ | refine blk_alloc ?_ _)); exact BK166.out) NB166_0.out (by simp)); have n1_ := Aside0.mk (KeepBut.blk hk (g' := gb174) (o := .cells #[.int .u64 t167, .int .u64 t168, .int .i64 t169, .int .u64 t170, .slice none 0 0] 42 (0, 0)) (by (with_reducible repeat (first | refine blk_drewN ?_ _ | refine blk_drew ?_ | refine blk_alloc ?_ _)); refine blk_put (cs := #[.int .u64 t167, .int .u64 t168, .int .i64 t169, .int .u64 t170, .slice none 0 0]) ?_ 4 _ rfl; (with_reducible repeat (first | refine blk_drewN ?_ _ | refine blk_drew ?_ | refine blk_alloc ?_ _)); refine blk_put (cs := #[.int .u64 t167, .int .u64 t168, .int .i64 t169, .int .u64 0, .slice none 0 0]) ?_ 3 _ rfl; (with_reducible repeat (first | refine blk_drewN ?_ _ | refine blk_drew ?_ | refine blk_alloc ?_ _)); refine blk_put (cs := #[.int .u64 t167, .int .u64 t168, .int .i64 0, .int .u64 0, .slice none 0 0]) ?_ 2 _ rfl; (with_reducible repeat (first | refine blk_drewN ?_ _ | refine blk_drew ?_ | refine blk_alloc ?_ _)); refine blk_put (cs := #[.int .u64 t167, .int .u64 0, .int .i64 0, .int .u64 0, .slice none 0 0]) ?_ 1 _ rfl; (with_reducible repeat (first | refine blk_drewN ?_ _ | refine blk_drew ?_ | refine blk_alloc ?_ _)); refine blk_put (cs := #[.int .u64 0, .int .u64 0, .int .i64 0, .int .u64 0, .slice none 0 0]) ?_ 0 _ rfl; (with_reducible repeat (first | refine blk_drewN ?_ _ | refine blk_drew ?_ | refine blk_alloc ?_ _)); exact BK174.out) NB174_0.out (by simp)); have n2_ := Aside0.mk (KeepBut.trans (by repeat (first | (with_reducible first | exact HK.out | apply KeepBut.set_ | apply keep_drewN | apply keep_drew | apply keep_alloc | refine keep_far ?_ GW166.out _ | refine keep_far ?_ GW174.out _) | exact HK.out)) hk (.inl rfl)); have n3_ := Aside0.mk (hb); have n4_ := Aside0.mk (hi); clear BK166; clear BK174; clear HK; clear HB; clear HI0; have BK166 := n0_; have BK174 := n1_; have HK := n2_; have HB := n3_; have HI0 := n4_; clear n0_ n1_ n2_ n3_ n4_; (try clear hb); (try clear hb2); (try clear hk); (try clear hi)) | ((with_reducible refine gate_callee (f := 39) rfl ?_); refine goesL_ (some 15) rfl rfl Try.func39 (by kernel_rfl) rfl #[.pointer (some ⟨g, 0, none⟩), .int .i64 3, .bool (decide ((wrap64 (t175)) > 32))] rfl (by (try simp only [List.map_toArray, List.map_cons, List.map_nil]); first | done | rfl | (simp only [List.length_drop, List.length_take]; rfl)) ?_; (with_reducible refine (consortref19_taker_bad.calls g t176 t177 t178 3 (decide ((wrap64 (t175)) > 32)) t179 t180 t181 w0 _ ?side1 ?side2 A4.out).mono ?_); (case side1 => repeat (first | (with_reducible first | exact HI0.out | apply IsS85.alloc | apply IsS85.drewN | apply IsS85.drew | apply IsS85.set_0 | apply IsS85.set_1 | apply IsS85.set_2 | refine IsS85.far ?_ NB0_166.out _ | refine IsS85.far ?_ NB0_174.out _) | exact HI0.out)); (case side2 => repeat (first | (with_reducible first | exact HB.out | apply below_alloc | apply pw_below_drewN | apply below_drew1 | refine below_set ?_ (IsS85.ge HI0.out) | refine below_set ?_ GE166.out | refine below_set ?_ GE174.out) | exact HB.out)); rintro e w12 ⟨rfl, hi, hb, hk⟩; refine ⟨_, rfl, ?_⟩; have n0_ := Aside0.mk (KeepBut.blk hk (g' := gb166) (o := .cells #[.int .u64 0, .int .u64 0, .int .i64 0, .int .u64 0, .slice none 0 0] 42 (0, 0)) (by (with_reducible repeat (first | refine blk_drewN ?_ _ | refine blk_drew ?_ | refine blk_alloc ?_ _)); exact BK166.out) NB166_0.out (by simp)); have n1_ := Aside0.mk (KeepBut.blk hk (g' := gb174) (o := .cells #[.int .u64 t167, .int .u64 t168, .int .i64 t169, .int .u64 t170, .slice none 0 0] 42 (0, 0)) (by (with_reducible repeat (first | refine blk_drewN ?_ _ | refine blk_drew ?_ | refine blk_alloc ?_ _)); exact BK174.out) NB174_0.out (by simp)); have n2_ := Aside0.mk (KeepBut.trans (by repeat (first | (with_reducible first | exact HK.out | apply KeepBut.set_ | apply keep_drewN | apply keep_drew | apply keep_alloc | refine keep_far ?_ GW166.out _ | refine keep_far ?_ GW174.out _) | exact HK.out)) hk (.inl rfl)); have n3_ := Aside0.mk (hb); have n4_ := Aside0.mk (hi); clear BK166; clear BK174; clear HK; clear HB; clear HI0; have BK166 := n0_; have BK174 := n1_; have HK := n2_; have HB := n3_; have HI0 := n4_; clear n0_ n1_ n2_ n3_ n4_; (try clear hb); (try clear hb2); (try clear hk); (try clear hi)))
  go_loopg [5] k (fun kq v5 w' => ∃ (x5_1 : Int) (x1000_1 : ByteArray) (x1001_1 : Int) (x1002_1 : Int) (x175004_1 : List (S27)) (u175004 : Value), v5 = .int .i64 x5_1 ∧ Aside0 (consortref19_taker_record.l0 kq (wrap64 (t175)) x5_1 x1000_1 x1001_1 x1002_1 t167 t168 t169 t170 x175004_1 = some (r1, r2, r3, r4, r5, r6, r7, r8)) ∧ Aside0 (kq ≤ k) ∧ Aside0 (Kd.R k27 27 w' w.heap.size (fun _ => True) u175004 x175004_1) ∧ Aside0 (w'.heap[gb166]? = some (.cells #[.int .u64 0, .int .u64 0, .int .i64 0, .int .u64 0, (.slice none 0 0)] 42 (0, 0))) ∧ Aside0 (w'.heap[gb174]? = some (.cells #[.int .u64 t167, .int .u64 t168, .int .i64 t169, .int .u64 t170, u175004] 42 (0, 0))) ∧ Aside0 (IsS85 w0 w' g x1000_1 x1001_1 x1002_1) ∧ Aside0 (KeepBut w w' g none) ∧ Aside0 (Below w0.heap.size w0 w'))
  case atStart => exact ⟨(0), (t179), (t180), (t181), (([] : List (S27))), (.slice none 0 0), (by first | rfl | (simp; done) | (simp [*]; done)), H', ⟨Nat.le_refl _⟩, ⟨by first | exact Kd.R_nil _ _ _ _ _ | exact Kd.N_nil _ _ _ _ _ | exact Kd.V_nil _ _ _ _ _ | exact Kd.Q_nil _ _ _ _ _ | exact Kd.S_nil _ _ _ _ _⟩, ⟨by (with_reducible repeat (first | refine blk_drewN ?_ _ | refine blk_drew ?_ | refine blk_alloc ?_ _)); exact BK166.out⟩, ⟨by (with_reducible repeat (first | refine blk_drewN ?_ _ | refine blk_drew ?_ | refine blk_alloc ?_ _)); exact BK174.out⟩, ⟨by repeat (first | (with_reducible first | exact HI0.out | apply IsS85.alloc | apply IsS85.drewN | apply IsS85.drew | apply IsS85.set_0 | apply IsS85.set_1 | apply IsS85.set_2 | refine IsS85.far ?_ NB0_166.out _ | refine IsS85.far ?_ NB0_174.out _) | exact HI0.out)⟩, ⟨by repeat (first | (with_reducible first | exact HK.out | apply KeepBut.set_ | apply keep_drewN | apply keep_drew | apply keep_alloc | refine keep_far ?_ GW166.out _ | refine keep_far ?_ GW174.out _) | exact HK.out)⟩, ⟨by repeat (first | (with_reducible first | exact HB.out | apply below_alloc | apply pw_below_drewN | apply below_drew1 | refine below_set ?_ (IsS85.ge HI0.out) | refine below_set ?_ GE166.out | refine below_set ?_ GE174.out) | exact HB.out)⟩⟩
  case round =>
    clear H'
    try clear p2
    try clear c3
    try clear c4
    try clear p6
    try clear c8
    try clear c9
    try clear hcz10_0
    try clear hcz10_1
    try clear hcz10_2
    try clear hcz10_3
    try clear hcz10_4
    try clear hfz10_0
    try clear hfz10_1
    try clear hfz10_2
    try clear hfz10_3
    try clear hfz10_4
    obtain ⟨x5_1, x1000_1, x1001_1, x1002_1, x175004_1, u175004, rfl, HA, HK1, HO_175004, BK166, BK174, HI0, HK, HB⟩ := hrel
    cases gk with
    | zero => exact absurd HA.out (by simp [consortref19_taker_record.l0])
    | succ k1 =>
      have H := HA.out
      clear HA
      simp only [consortref19_taker_record.l0] at H
      by_cases c13 : x5_1 < (wrap64 (t175))
      · rw [if_pos c13] at H
        have c13b0 : decide (x5_1 < (wrap64 (t175))) = true := decide_eq_true c13
        clear c13
        by_cases c14 : x1002_1 = 0
        · rw [if_pos c14] at H
          have c14b0 : (x1002_1 == 0) = true := beq_iff_eq.mpr c14
          have c14b1 : (x1002_1 != 0) = false := bne_eq_false_iff_eq.mpr c14
          clear c14
          replace H := Option.bind_eq_some_iff.mp H
          obtain ⟨⟨t182, t183, t184, t185, t186, t187, t188⟩, A150, H⟩ := H
          replace H : (if x175004_1.length < 4398046511104 then (consortref19_taker_record.l0 k1 (wrap64 (t175)) (wrap64 (x5_1 + 1)) t186 t187 t188 t167 t168 t169 t170 (x175004_1 ++ [(⟨t182, (⟨t183, t184⟩ : S25), t185⟩ : S27)])) else (none)) = some (r1, r2, r3, r4, r5, r6, r7, r8) := H
          have A15 := Aside0.mk A150
          clear A150
          by_cases c16 : x175004_1.length < 4398046511104
          · rw [if_pos c16] at H
            have LMc16 := Aside0.mk c16
            clear c16
            obtain ⟨y189, hy189⟩ : ∃ y_ : List (S27), y_ = (x175004_1 ++ [(⟨t182, (⟨t183, t184⟩ : S25), t185⟩ : S27)]) := ⟨_, rfl⟩
            replace H : (consortref19_taker_record.l0 k1 (wrap64 (t175)) (wrap64 (x5_1 + 1)) t186 t187 t188 t167 t168 t169 t170 y189) = some (r1, r2, r3, r4, r5, r6, r7, r8) := by first | (rw [hy189]; with_reducible exact H) | (have H2_ := (Option.bind_some _ _).symm.trans H; rw [hy189]; with_reducible exact H2_) | (have H2_ := (Option.bind_some _ _).symm.trans H; with_reducible exact H2_) | with_reducible exact H | (rw [hy189]; exact H) | exact H
            have Ny189 := Aside0.mk hy189
            clear hy189
            have H' := Aside0.mk H
            clear H
            obtain ⟨HGz17, hgz17⟩ := HI0.out
            have hcz17_0 := cellS85_0 HGz17
            have hcz17_1 := cellS85_1 HGz17
            have hcz17_2 := cellS85_2 HGz17
            have hfz17_0 := blk_frozen HGz17 0
            have hfz17_1 := blk_frozen HGz17 1
            have hfz17_2 := blk_frozen HGz17 2
            clear HGz17 hgz17
            try go_wp2
            have n0_ := Aside0.mk (Kd.R_drew HO_175004.out)
            have n1_ := Aside0.mk (blk_drew BK166.out)
            have n2_ := Aside0.mk (blk_drew BK174.out)
            have n3_ := Aside0.mk (IsS85.drew HI0.out)
            have n4_ := Aside0.mk (keep_drew HK.out)
            have n5_ := Aside0.mk (below_drew1 HB.out)
            clear HO_175004
            clear BK166
            clear BK174
            clear HI0
            clear HK
            clear HB
            have HO_175004 := n0_
            have BK166 := n1_
            have BK174 := n2_
            have HI0 := n3_
            have HK := n4_
            have HB := n5_
            clear n0_ n1_ n2_ n3_ n4_ n5_
            refine start_ (n := 8) (S := fun w' => w'.cell? ⟨gb174, 0, none⟩ = some (.int .u64 t167) ∧ w'.cell? ⟨gb174, 1, none⟩ = some (.int .u64 t168) ∧ w'.cell? ⟨gb174, 2, none⟩ = some (.int .i64 t169) ∧ w'.cell? ⟨gb174, 3, none⟩ = some (.int .u64 t170) ∧ w'.cell? ⟨gb174, 4, none⟩ = some (u175004)) (ds := [7]) #[false, false, false, false, false, false, false, false] (by kernel_rfl) rfl rfl ⟨(blk_cell BK174.out 0).trans rfl, (blk_cell BK174.out 1).trans rfl, (blk_cell BK174.out 2).trans rfl, (blk_cell BK174.out 3).trans rfl, (blk_cell BK174.out 4).trans rfl⟩ (fun hHeld => ?_); refine with_tabW consortref19_taker_record.tab7 consortref19_taker_record.bits7 (fun HT_ HW_ => ?_)
            generalize wr.drew = w18 at HO_175004 BK166 BK174 HI0 HK HB hHeld ⊢
            refine pure_ (i := 0) (N := some 28) (v := ?_) (a' := ?_) #[true, false, false, false, false, false, false, false] rfl rfl (any_of HT_.out (by kernel_rfl)) (fun _ _ _ h => h) (Or.inl ⟨by rfl, ?_⟩) ?_ ?_
            rotate_left
            · intro w'
              go_simp
              with_reducible rfl
            rotate_left
            · simp only [Act.put, List.setIfInBounds_toArray, List.set_cons_zero, List.set_cons_succ, i64_w, i32_w]
              rfl
            refine pure_ (i := 2) (N := some 30) (v := ?_) (a' := ?_) #[true, false, true, false, false, false, false, false] rfl rfl (any_of HT_.out (by kernel_rfl)) (fun _ _ _ h => h) (Or.inl ⟨by rfl, ?_⟩) ?_ ?_
            rotate_left
            · intro w'
              go_simp
              with_reducible rfl
            rotate_left
            · simp only [Act.put, List.setIfInBounds_toArray, List.set_cons_zero, List.set_cons_succ, i64_w, i32_w]
              rfl
            refine take_ (i := 1) (N := some 29) (v := ?_) (a' := ?_) #[true, true, true, false, false, false, false, false] rfl rfl (take_ofW HT_.out HW_.out (by kernel_rfl)) (fun _ _ _ h => h) (Or.inl ⟨by rfl, ?_⟩) hHeld ?_ ?_
            rotate_left
            · rintro w' ⟨s0, s1, s2, s3, s4⟩
              go_simp
              with_reducible rfl
            rotate_left
            · simp only [Act.put, List.setIfInBounds_toArray, List.set_cons_zero, List.set_cons_succ, i64_w, i32_w]
              rfl
            refine one_ (i := 3) (N := some 31) #[true, true, true, true, false, false, false, false] rfl rfl (one_of HT_.out (by kernel_rfl)) (by decide) (fun K hK => ?_)
            refine goes_ Try.func41 (by kernel_rfl) rfl #[.pointer (some ⟨g, 0, none⟩)] (by rfl) rfl rfl (by (try simp only [List.map_toArray, List.map_cons, List.map_nil]); first | done | rfl | (simp only [List.length_drop, List.length_take]; rfl)) ?_
            with_reducible refine (consortref19_taker_view.calls k1 g x1000_1 x1001_1 x1002_1 t182 t183 t184 t185 t186 t187 t188 w0 _ ?side1 ?side2 A15.out).mono ?_
            (case side1 => repeat (first | (with_reducible first | exact HI0.out | apply IsS85.alloc | apply IsS85.drewN | apply IsS85.drew | apply IsS85.set_0 | apply IsS85.set_1 | apply IsS85.set_2 | refine IsS85.far ?_ NB0_166.out _ | refine IsS85.far ?_ NB0_174.out _) | exact HI0.out))
            (case side2 => repeat (first | (with_reducible first | exact HB.out | apply below_alloc | apply pw_below_drewN | apply below_drew1 | refine below_set ?_ (IsS85.ge HI0.out) | refine below_set ?_ GE166.out | refine below_set ?_ GE174.out) | exact HB.out))
            rintro e w19 ⟨rfl, hi, hb, hk⟩
            refine ⟨_, rfl, ?_⟩
            have n0_ := Aside0.mk (Kd.R_mono (Kd.R_keep (IsS85.apart (show IsS85 w0 _ g x1000_1 x1001_1 x1002_1 from by repeat (first | (with_reducible first | exact HI0.out | apply IsS85.alloc | apply IsS85.drewN | apply IsS85.drew | apply IsS85.set_0 | apply IsS85.set_1 | apply IsS85.set_2 | refine IsS85.far ?_ NB0_166.out _ | refine IsS85.far ?_ NB0_174.out _) | exact HI0.out)) (by (with_reducible repeat (first | apply Kd.R_alloc | apply Kd.R_drewN | apply Kd.R_drew)); exact HO_175004.out) (by decide)) hk (fun _ h => h.2)) (fun _ h => h.1))
            have n1_ := Aside0.mk (KeepBut.blk hk (g' := gb166) (o := .cells #[.int .u64 0, .int .u64 0, .int .i64 0, .int .u64 0, .slice none 0 0] 42 (0, 0)) (by (with_reducible repeat (first | refine blk_drewN ?_ _ | refine blk_drew ?_ | refine blk_alloc ?_ _)); exact BK166.out) NB166_0.out (by simp))
            have n2_ := Aside0.mk (KeepBut.blk hk (g' := gb174) (o := .cells #[.int .u64 t167, .int .u64 t168, .int .i64 t169, .int .u64 t170, u175004] 42 (0, 0)) (by (with_reducible repeat (first | refine blk_drewN ?_ _ | refine blk_drew ?_ | refine blk_alloc ?_ _)); exact BK174.out) NB174_0.out (by simp))
            have n3_ := Aside0.mk (KeepBut.trans (by repeat (first | (with_reducible first | exact HK.out | apply KeepBut.set_ | apply keep_drewN | apply keep_drew | apply keep_alloc | refine keep_far ?_ GW166.out _ | refine keep_far ?_ GW174.out _) | exact HK.out)) hk (.inl rfl))
            have n4_ := Aside0.mk (hb)
            have n5_ := Aside0.mk (hi)
            clear HO_175004
            clear BK166
            clear BK174
            clear HK
            clear HB
            clear HI0
            have HO_175004 := n0_
            have BK166 := n1_
            have BK174 := n2_
            have HK := n3_
            have HB := n4_
            have HI0 := n5_
            clear n0_ n1_ n2_ n3_ n4_ n5_
            (try clear hb)
            (try clear hb2)
            (try clear hk)
            (try clear hi)
            refine hK.out _ _ ⟨(blk_cell BK174.out 0).trans rfl, (blk_cell BK174.out 1).trans rfl, (blk_cell BK174.out 2).trans rfl, (blk_cell BK174.out 3).trans rfl, (blk_cell BK174.out 4).trans rfl⟩ (fun hHeld => ?_)
            clear hK K
            refine norm_ (a' := ?_) ?_ ?_
            rotate_left
            · show Act.put _ (some 31) _ = _
              simp only [Act.put, List.setIfInBounds_toArray, List.set_cons_zero, List.set_cons_succ, i64_w, i32_w]
              rfl
            refine one_ (i := 4) (N := some 32) #[true, true, true, true, true, false, false, false] rfl rfl (one_of HT_.out (by kernel_rfl)) (by decide) (fun K hK => ?_)
            refine value_ (w1 := ?_) (v := ?_) (by rfl) rfl ?_ ?_
            rotate_left 2
            · go_simp
              constructor
              · rfl
              · rfl
            refine hK.out _ _ ⟨(blk_cell (blk_alloc BK174.out _) 0).trans rfl, (blk_cell (blk_alloc BK174.out _) 1).trans rfl, (blk_cell (blk_alloc BK174.out _) 2).trans rfl, (blk_cell (blk_alloc BK174.out _) 3).trans rfl, (blk_cell (blk_alloc BK174.out _) 4).trans rfl⟩ (fun hHeld => ?_)
            clear hK K
            refine norm_ (a' := ?_) ?_ ?_
            rotate_left
            · show Act.put _ (some 32) _ = _
              simp only [Act.put, List.setIfInBounds_toArray, List.set_cons_zero, List.set_cons_succ, i64_w, i32_w]
              rfl
            refine one_ (i := 5) (N := some 33) #[true, true, true, true, true, true, false, false] rfl rfl (one_of HT_.out (by kernel_rfl)) (by decide) (fun K hK => ?_)
            refine Kd.R_append_step k27 w.heap.size (by rfl) (.tmp 29) (.tmp 32) 28 27 (.agg #[(.int .u64 0), (.int .u64 0), (.int .i64 0), (.int .u64 0)]) 32 rfl Try.underlying28 info27 rfl (by decide) (by omega) u175004 x175004_1 (⟨t182, (⟨t183, t184⟩ : S25), t185⟩ : S27) [.int .u64 t182, .int .u64 t183, .int .i64 t184, .int .u64 t185] (fun _ => True) (fun _ => False) rfl rfl ?aP (fun _ hk => hk.elim) ?aF ?aO (Below.refl _ _) ?aS ?aL ?_
            (case aP => exact k27_mkM _ _ _ (⟨t182, (⟨t183, t184⟩ : S25), t185⟩ : S27))
            (case aF => exact (fun _ _ => trivial))
            (case aO => exact (by (with_reducible repeat (first | apply Kd.R_alloc | apply Kd.R_drewN | apply Kd.R_drew)); exact HO_175004.out))
            (case aS => exact (keep_size (w := w) (g := g) (row := none) (by repeat (first | (with_reducible first | exact HK.out | apply KeepBut.set_ | apply keep_drewN | apply keep_drew | apply keep_alloc | refine keep_far ?_ GW166.out _ | refine keep_far ?_ GW174.out _) | exact HK.out))))
            (case aL => have := LMc16.out; omega)
            intro v190 w20 ho hb hg hat
            rw [← Ny189.out] at ho
            have n0_ := Aside0.mk (blk_grown (g := gb166) (o := .cells #[.int .u64 0, .int .u64 0, .int .i64 0, .int .u64 0, .slice none 0 0] 42 (0, 0)) (by (with_reducible repeat (first | refine blk_drewN ?_ _ | refine blk_drew ?_ | refine blk_alloc ?_ _)); exact BK166.out) hg (Kd.R_ne HO_175004.out BK166.out (by decide)))
            have n1_ := Aside0.mk (blk_grown (g := gb174) (o := .cells #[.int .u64 t167, .int .u64 t168, .int .i64 t169, .int .u64 t170, u175004] 42 (0, 0)) (by (with_reducible repeat (first | refine blk_drewN ?_ _ | refine blk_drew ?_ | refine blk_alloc ?_ _)); exact BK174.out) hg (Kd.R_ne HO_175004.out BK174.out (by decide)))
            have n2_ := Aside0.mk (IsS85.grown (by repeat (first | (with_reducible first | exact HI0.out | apply IsS85.alloc | apply IsS85.drewN | apply IsS85.drew | apply IsS85.set_0 | apply IsS85.set_1 | apply IsS85.set_2 | refine IsS85.far ?_ NB0_166.out _ | refine IsS85.far ?_ NB0_174.out _) | exact HI0.out)) hg (IsS85.own_ne HI0.out HO_175004.out (by decide)))
            have n3_ := Aside0.mk (below_weaken (by repeat (first | (with_reducible first | exact HB.out | apply below_alloc | apply pw_below_drewN | apply below_drew1 | refine below_set ?_ (IsS85.ge HI0.out) | refine below_set ?_ GE166.out | refine below_set ?_ GE174.out) | exact HB.out)) HL.out hb)
            have n4_ := Aside0.mk (KeepBut.trans (by repeat (first | (with_reducible first | exact HK.out | apply KeepBut.set_ | apply keep_drewN | apply keep_drew | apply keep_alloc | refine keep_far ?_ GW166.out _ | refine keep_far ?_ GW174.out _) | exact HK.out)) (KeepBut.of_grown hg g) (Kd.R_base2 HO_175004.out))
            have n5_ := Aside0.mk (ho)
            clear BK166
            clear BK174
            clear HI0
            clear HB
            clear HK
            clear HO_175004
            have BK166 := n0_
            have BK174 := n1_
            have HI0 := n2_
            have HB := n3_
            have HK := n4_
            have HO191 := n5_
            clear n0_ n1_ n2_ n3_ n4_ n5_
            clear ho hb hg hat
            obtain ⟨Ao21, co21, eo21⟩ := Kd.R_slice HO191.out
            (first | subst eo21 | (injection eo21 with f1_ f2_ f3_; have f4_ := f1_.symm; have f5_ := f3_.symm; clear f1_ f2_ f3_; subst f4_; subst f5_))
            refine hK.out _ _ ⟨(blk_cell BK174.out 0).trans rfl, (blk_cell BK174.out 1).trans rfl, (blk_cell BK174.out 2).trans rfl, (blk_cell BK174.out 3).trans rfl, (blk_cell BK174.out 4).trans rfl⟩ (fun hHeld => ?_)
            clear hK K
            refine norm_ (a' := ?_) ?_ ?_
            rotate_left
            · show Act.put _ (some 33) _ = _
              simp only [Act.put, List.setIfInBounds_toArray, List.set_cons_zero, List.set_cons_succ, i64_w, i32_w]
              rfl
            refine pure_ (i := 6) (N := some 34) (v := ?_) (a' := ?_) #[true, true, true, true, true, true, true, false] rfl rfl (any_of HT_.out (by kernel_rfl)) (fun _ _ _ h => h) (Or.inl ⟨by rfl, ?_⟩) ?_ ?_
            rotate_left
            · intro w'
              go_simp
              with_reducible rfl
            rotate_left
            · simp only [Act.put, List.setIfInBounds_toArray, List.set_cons_zero, List.set_cons_succ, i64_w, i32_w]
              rfl
            refine last_ (i := 7) (N := none) #[true, true, true, true, true, true, true, true] rfl rfl (one_of HT_.out (by kernel_rfl)) (by decide) (fun K hK => ?_)
            have hs22 : w20.cell? ⟨gb174, 4, none⟩ = some (u175004) := (blk_cell BK174.out 4).trans rfl
            have hfs22 := blk_frozen BK174.out 4
            have hns22_0 := NB166_174.out
            have hms22_0 := NB174_166.out
            refine skip_ (w1 := ?_) (by rfl) rfl ?_ ?_
            rotate_left
            · go_simp
              rfl
            refine hK.out _ _ ?_
            clear hK K
            refine done_ (done_of HT_.out (by kernel_rfl)) ?_
            try go_wp2
            go_roundg k1
            case measure => have := HK1.out; omega
            case rel => exact ⟨(wrap64 (x5_1 + 1)), (t186), (t187), (t188), (y189), (.slice Ao21 y189.length co21), (by first | rfl | (simp; done) | (simp [*]; done)), H', ⟨by have := HK1.out; omega⟩, ⟨by (with_reducible repeat (first | apply Kd.R_alloc | apply Kd.R_drewN | apply Kd.R_drew)); exact Kd.R_mono (Kd.R_far (p := ⟨gb174, 4, none⟩) (Kd.R_types HO191.out BK174.out (by decide)) (fun _ hk => hk.2) (.slice Ao21 y189.length co21)) (fun _ hk => trivial)⟩, ⟨by (with_reducible repeat (first | refine blk_drewN ?_ _ | refine blk_drew ?_ | refine blk_alloc ?_ _)); refine blk_far ?_ NB166_174.out _; (with_reducible repeat (first | refine blk_drewN ?_ _ | refine blk_drew ?_ | refine blk_alloc ?_ _)); exact BK166.out⟩, ⟨by (with_reducible repeat (first | refine blk_drewN ?_ _ | refine blk_drew ?_ | refine blk_alloc ?_ _)); refine blk_put (cs := #[.int .u64 t167, .int .u64 t168, .int .i64 t169, .int .u64 t170, u175004]) ?_ 4 _ rfl; (with_reducible repeat (first | refine blk_drewN ?_ _ | refine blk_drew ?_ | refine blk_alloc ?_ _)); exact BK174.out⟩, ⟨by repeat (first | (with_reducible first | exact HI0.out | apply IsS85.alloc | apply IsS85.drewN | apply IsS85.drew | apply IsS85.set_0 | apply IsS85.set_1 | apply IsS85.set_2 | refine IsS85.far ?_ NB0_166.out _ | refine IsS85.far ?_ NB0_174.out _) | exact HI0.out)⟩, ⟨by repeat (first | (with_reducible first | exact HK.out | apply KeepBut.set_ | apply keep_drewN | apply keep_drew | apply keep_alloc | refine keep_far ?_ GW166.out _ | refine keep_far ?_ GW174.out _) | exact HK.out)⟩, ⟨by repeat (first | (with_reducible first | exact HB.out | apply below_alloc | apply pw_below_drewN | apply below_drew1 | refine below_set ?_ (IsS85.ge HI0.out) | refine below_set ?_ GE166.out | refine below_set ?_ GE174.out) | exact HB.out)⟩⟩
          · rw [if_neg c16] at H
            exact absurd H (by simp)
        · rw [if_neg c14] at H
          have c14b0 : (x1002_1 == 0) = false := beq_eq_false_iff_ne.mpr c14
          have c14b1 : (x1002_1 != 0) = true := bne_iff_ne.mpr c14
          simp only [Option.some.injEq, Prod.mk.injEq] at H
          obtain ⟨rfl, rfl, rfl, rfl, rfl, rfl, rfl, rfl⟩ := H
          obtain ⟨HGz23, hgz23⟩ := HI0.out
          have hcz23_0 := cellS85_0 HGz23
          have hcz23_1 := cellS85_1 HGz23
          have hcz23_2 := cellS85_2 HGz23
          have hfz23_0 := blk_frozen HGz23 0
          have hfz23_1 := blk_frozen HGz23 1
          have hfz23_2 := blk_frozen HGz23 2
          clear HGz23 hgz23
          have hnb24 := NB174_166.out
          have hnc24 := NB166_174.out
          have hnb25 := NB174_0.out
          have hnc25 := NB0_174.out
          have hcz26_0 : wr.cell? ⟨gb174, 0, none⟩ = some (.int .u64 t167) := (blk_cell BK174.out 0).trans rfl
          have hcz26_1 : wr.cell? ⟨gb174, 1, none⟩ = some (.int .u64 t168) := (blk_cell BK174.out 1).trans rfl
          have hcz26_2 : wr.cell? ⟨gb174, 2, none⟩ = some (.int .i64 t169) := (blk_cell BK174.out 2).trans rfl
          have hcz26_3 : wr.cell? ⟨gb174, 3, none⟩ = some (.int .u64 t170) := (blk_cell BK174.out 3).trans rfl
          have hcz26_4 : wr.cell? ⟨gb174, 4, none⟩ = some (u175004) := (blk_cell BK174.out 4).trans rfl
          have hfz26_0 := blk_frozen BK174.out 0
          have hfz26_1 := blk_frozen BK174.out 1
          have hfz26_2 := blk_frozen BK174.out 2
          have hfz26_3 := blk_frozen BK174.out 3
          have hfz26_4 := blk_frozen BK174.out 4
          have hnb27 := NB166_0.out
          have hnc27 := NB0_166.out
          have hcz28_0 : wr.cell? ⟨gb166, 0, none⟩ = some (.int .u64 0) := (blk_cell BK166.out 0).trans rfl
          have hcz28_1 : wr.cell? ⟨gb166, 1, none⟩ = some (.int .u64 0) := (blk_cell BK166.out 1).trans rfl
          have hcz28_2 : wr.cell? ⟨gb166, 2, none⟩ = some (.int .i64 0) := (blk_cell BK166.out 2).trans rfl
          have hcz28_3 : wr.cell? ⟨gb166, 3, none⟩ = some (.int .u64 0) := (blk_cell BK166.out 3).trans rfl
          have hcz28_4 : wr.cell? ⟨gb166, 4, none⟩ = some (.slice none 0 0) := (blk_cell BK166.out 4).trans rfl
          have hfz28_0 := blk_frozen BK166.out 0
          have hfz28_1 := blk_frozen BK166.out 1
          have hfz28_2 := blk_frozen BK166.out 2
          have hfz28_3 := blk_frozen BK166.out 3
          have hfz28_4 := blk_frozen BK166.out 4
          obtain ⟨Ao29, co29, eo29⟩ := Kd.R_slice HO_175004.out
          subst eo29
          go_wp2
          refine bodyPost_ret (results_cell_row rfl _ _ gb166 42 #[.int .u64 t167, .int .u64 t168, .int .i64 t169, .int .u64 t170, .slice Ao29 x175004_1.length co29] (0, 0) _ rfl (by (with_reducible repeat (first | refine blk_drewN ?_ _ | refine blk_drew ?_ | refine blk_alloc ?_ _)); refine blk_put (cs := #[.int .u64 t167, .int .u64 t168, .int .i64 t169, .int .u64 t170, .slice none 0 0]) ?_ 4 _ rfl; (with_reducible repeat (first | refine blk_drewN ?_ _ | refine blk_drew ?_ | refine blk_alloc ?_ _)); refine blk_put (cs := #[.int .u64 t167, .int .u64 t168, .int .i64 t169, .int .u64 0, .slice none 0 0]) ?_ 3 _ rfl; (with_reducible repeat (first | refine blk_drewN ?_ _ | refine blk_drew ?_ | refine blk_alloc ?_ _)); refine blk_put (cs := #[.int .u64 t167, .int .u64 t168, .int .i64 0, .int .u64 0, .slice none 0 0]) ?_ 2 _ rfl; (with_reducible repeat (first | refine blk_drewN ?_ _ | refine blk_drew ?_ | refine blk_alloc ?_ _)); refine blk_put (cs := #[.int .u64 t167, .int .u64 0, .int .i64 0, .int .u64 0, .slice none 0 0]) ?_ 1 _ rfl; (with_reducible repeat (first | refine blk_drewN ?_ _ | refine blk_drew ?_ | refine blk_alloc ?_ _)); refine blk_put (cs := #[.int .u64 0, .int .u64 0, .int .i64 0, .int .u64 0, .slice none 0 0]) ?_ 0 _ rfl; (with_reducible repeat (first | refine blk_drewN ?_ _ | refine blk_drew ?_ | refine blk_alloc ?_ _)); exact BK166.out) Try.underlying42 rfl (by kernel_rfl)) rfl ?_
          exact ⟨_, by first | rfl | (simp [errW_none, errW_some] <;> rfl) | (simp [*, errW_none, errW_some] <;> rfl), by (with_reducible repeat (first | apply Kd.R_alloc | apply Kd.R_drewN | apply Kd.R_drew)); exact Kd.R_mono (Kd.R_far (p := ⟨gb166, 4, none⟩) (Kd.R_far (p := ⟨gb166, 3, none⟩) (Kd.R_far (p := ⟨gb166, 2, none⟩) (Kd.R_far (p := ⟨gb166, 1, none⟩) (Kd.R_far (p := ⟨gb166, 0, none⟩) (Kd.R_types HO_175004.out BK166.out (by decide)) (fun _ hk => hk.2) (.int .u64 t167)) (fun _ hk => hk.2) (.int .u64 t168)) (fun _ hk => hk.2) (.int .i64 t169)) (fun _ hk => hk.2) (.int .u64 t170)) (fun _ hk => hk.2) (.slice Ao29 x175004_1.length co29)) (fun _ hk => trivial), by repeat (first | (with_reducible first | exact HI0.out | apply IsS85.alloc | apply IsS85.drewN | apply IsS85.drew | apply IsS85.set_0 | apply IsS85.set_1 | apply IsS85.set_2 | refine IsS85.far ?_ NB0_166.out _ | refine IsS85.far ?_ NB0_174.out _) | exact HI0.out), by repeat (first | (with_reducible first | exact HB.out | apply below_alloc | apply pw_below_drewN | apply below_drew1 | refine below_set ?_ (IsS85.ge HI0.out) | refine below_set ?_ GE166.out | refine below_set ?_ GE174.out) | exact HB.out), by repeat (first | (with_reducible first | exact HK.out | apply KeepBut.set_ | apply keep_drewN | apply keep_drew | apply keep_alloc | refine keep_far ?_ GW166.out _ | refine keep_far ?_ GW174.out _) | exact HK.out)⟩
      · rw [if_neg c13] at H
        have c13b0 : decide (x5_1 < (wrap64 (t175))) = false := decide_eq_false c13
        clear c13
        simp only [Option.some.injEq, Prod.mk.injEq] at H
        obtain ⟨rfl, rfl, rfl, rfl, rfl, rfl, rfl, rfl⟩ := H
        have hnb30 := NB174_166.out
        have hnc30 := NB166_174.out
        have hnb31 := NB174_0.out
        have hnc31 := NB0_174.out
        have hcz32_0 : wr.cell? ⟨gb174, 0, none⟩ = some (.int .u64 t167) := (blk_cell BK174.out 0).trans rfl
        have hcz32_1 : wr.cell? ⟨gb174, 1, none⟩ = some (.int .u64 t168) := (blk_cell BK174.out 1).trans rfl
        have hcz32_2 : wr.cell? ⟨gb174, 2, none⟩ = some (.int .i64 t169) := (blk_cell BK174.out 2).trans rfl
        have hcz32_3 : wr.cell? ⟨gb174, 3, none⟩ = some (.int .u64 t170) := (blk_cell BK174.out 3).trans rfl
        have hcz32_4 : wr.cell? ⟨gb174, 4, none⟩ = some (u175004) := (blk_cell BK174.out 4).trans rfl
        have hfz32_0 := blk_frozen BK174.out 0
        have hfz32_1 := blk_frozen BK174.out 1
        have hfz32_2 := blk_frozen BK174.out 2
        have hfz32_3 := blk_frozen BK174.out 3
        have hfz32_4 := blk_frozen BK174.out 4
        have hnb33 := NB166_0.out
        have hnc33 := NB0_166.out
        have hcz34_0 : wr.cell? ⟨gb166, 0, none⟩ = some (.int .u64 0) := (blk_cell BK166.out 0).trans rfl
        have hcz34_1 : wr.cell? ⟨gb166, 1, none⟩ = some (.int .u64 0) := (blk_cell BK166.out 1).trans rfl
        have hcz34_2 : wr.cell? ⟨gb166, 2, none⟩ = some (.int .i64 0) := (blk_cell BK166.out 2).trans rfl
        have hcz34_3 : wr.cell? ⟨gb166, 3, none⟩ = some (.int .u64 0) := (blk_cell BK166.out 3).trans rfl
        have hcz34_4 : wr.cell? ⟨gb166, 4, none⟩ = some (.slice none 0 0) := (blk_cell BK166.out 4).trans rfl
        have hfz34_0 := blk_frozen BK166.out 0
        have hfz34_1 := blk_frozen BK166.out 1
        have hfz34_2 := blk_frozen BK166.out 2
        have hfz34_3 := blk_frozen BK166.out 3
        have hfz34_4 := blk_frozen BK166.out 4
        obtain ⟨Ao35, co35, eo35⟩ := Kd.R_slice HO_175004.out
        subst eo35
        go_wp2
        refine bodyPost_ret (results_cell_row rfl _ _ gb166 42 #[.int .u64 t167, .int .u64 t168, .int .i64 t169, .int .u64 t170, .slice Ao35 x175004_1.length co35] (0, 0) _ rfl (by (with_reducible repeat (first | refine blk_drewN ?_ _ | refine blk_drew ?_ | refine blk_alloc ?_ _)); refine blk_put (cs := #[.int .u64 t167, .int .u64 t168, .int .i64 t169, .int .u64 t170, .slice none 0 0]) ?_ 4 _ rfl; (with_reducible repeat (first | refine blk_drewN ?_ _ | refine blk_drew ?_ | refine blk_alloc ?_ _)); refine blk_put (cs := #[.int .u64 t167, .int .u64 t168, .int .i64 t169, .int .u64 0, .slice none 0 0]) ?_ 3 _ rfl; (with_reducible repeat (first | refine blk_drewN ?_ _ | refine blk_drew ?_ | refine blk_alloc ?_ _)); refine blk_put (cs := #[.int .u64 t167, .int .u64 t168, .int .i64 0, .int .u64 0, .slice none 0 0]) ?_ 2 _ rfl; (with_reducible repeat (first | refine blk_drewN ?_ _ | refine blk_drew ?_ | refine blk_alloc ?_ _)); refine blk_put (cs := #[.int .u64 t167, .int .u64 0, .int .i64 0, .int .u64 0, .slice none 0 0]) ?_ 1 _ rfl; (with_reducible repeat (first | refine blk_drewN ?_ _ | refine blk_drew ?_ | refine blk_alloc ?_ _)); refine blk_put (cs := #[.int .u64 0, .int .u64 0, .int .i64 0, .int .u64 0, .slice none 0 0]) ?_ 0 _ rfl; (with_reducible repeat (first | refine blk_drewN ?_ _ | refine blk_drew ?_ | refine blk_alloc ?_ _)); exact BK166.out) Try.underlying42 rfl (by kernel_rfl)) rfl ?_
        exact ⟨_, by first | rfl | (simp [errW_none, errW_some] <;> rfl) | (simp [*, errW_none, errW_some] <;> rfl), by (with_reducible repeat (first | apply Kd.R_alloc | apply Kd.R_drewN | apply Kd.R_drew)); exact Kd.R_mono (Kd.R_far (p := ⟨gb166, 4, none⟩) (Kd.R_far (p := ⟨gb166, 3, none⟩) (Kd.R_far (p := ⟨gb166, 2, none⟩) (Kd.R_far (p := ⟨gb166, 1, none⟩) (Kd.R_far (p := ⟨gb166, 0, none⟩) (Kd.R_types HO_175004.out BK166.out (by decide)) (fun _ hk => hk.2) (.int .u64 t167)) (fun _ hk => hk.2) (.int .u64 t168)) (fun _ hk => hk.2) (.int .i64 t169)) (fun _ hk => hk.2) (.int .u64 t170)) (fun _ hk => hk.2) (.slice Ao35 x175004_1.length co35)) (fun _ hk => trivial), by repeat (first | (with_reducible first | exact HI0.out | apply IsS85.alloc | apply IsS85.drewN | apply IsS85.drew | apply IsS85.set_0 | apply IsS85.set_1 | apply IsS85.set_2 | refine IsS85.far ?_ NB0_166.out _ | refine IsS85.far ?_ NB0_174.out _) | exact HI0.out), by repeat (first | (with_reducible first | exact HB.out | apply below_alloc | apply pw_below_drewN | apply below_drew1 | refine below_set ?_ (IsS85.ge HI0.out) | refine below_set ?_ GE166.out | refine below_set ?_ GE174.out) | exact HB.out), by repeat (first | (with_reducible first | exact HK.out | apply KeepBut.set_ | apply keep_drewN | apply keep_drew | apply keep_alloc | refine keep_far ?_ GW166.out _ | refine keep_far ?_ GW174.out _) | exact HK.out)⟩

/-! ### consortref19_Items: function 17 -/
def consortref19_Items.f (k : Nat) (a0_0 : Int) (a0_1 : ByteArray) (a0_2 : Int) (a0_3 : Int) (a0_4 : Bool) (a0_5 : Bool) (a0_6 : Int) (a0_7 : Int) (a0_8 : Int) (a0_9 : Int) (l0_10 : List (S27)) (a0_11 : Int) (a0_12 : Int) (a0_13 : Int) (a0_14 : Int) (a0_15 : Int) (a0_16 : Int) (a0_17 : Int) (a1_0 : Int) (a1_1 : ByteArray) (a1_2 : Int) (a1_3 : Int) (a1_4 : Bool) (a1_5 : Bool) (a1_6 : Int) (a1_7 : Int) (a1_8 : Int) (a1_9 : Int) (l1_10 : List (S27)) (a1_11 : Int) (a1_12 : Int) (a1_13 : Int) (a1_14 : Int) (a1_15 : Int) (a1_16 : Int) (a1_17 : Int) : Option (Bool) := if a0_0 = a1_0 then (if a0_1.toList = a1_1.toList then (if a0_2 = a1_2 then (if a0_3 = a1_3 then (if (a0_4 == a1_4) = true then (if (a0_5 == a1_5) = true then ((consortref18_Same.f k a0_6 a0_7 a0_8 a0_9 l0_10 a1_6 a1_7 a1_8 a1_9 l1_10).bind fun t194 => (if t194 = true then (if (a0_11 == a1_11 && ((a0_12 == a1_12 && (a0_13 == a1_13)) && (a0_14 == a1_14))) = true then (if a0_15 = a1_15 then (if a0_16 = a1_16 then (some (a0_17 == a1_17)) else (some false)) else (some false)) else (some false)) else (some false))) else (some false)) else (some false)) else (some false)) else (some false)) else (some false)) else (some false)
theorem consortref19_Items.mono : ∀ a0 a1 a2 a3 a4 a5 a6 a7 a8 a9 a10 a11 a12 a13 a14 a15 a16 a17 a18 a19 a20 a21 a22 a23 a24 a25 a26 a27 a28 a29 a30 a31 a32 a33 a34 a35 k, LeO (consortref19_Items.f k a0 a1 a2 a3 a4 a5 a6 a7 a8 a9 a10 a11 a12 a13 a14 a15 a16 a17 a18 a19 a20 a21 a22 a23 a24 a25 a26 a27 a28 a29 a30 a31 a32 a33 a34 a35) (consortref19_Items.f (k + 1) a0 a1 a2 a3 a4 a5 a6 a7 a8 a9 a10 a11 a12 a13 a14 a15 a16 a17 a18 a19 a20 a21 a22 a23 a24 a25 a26 a27 a28 a29 a30 a31 a32 a33 a34 a35) := by
  intro a0 a1 a2 a3 a4 a5 a6 a7 a8 a9 a10 a11 a12 a13 a14 a15 a16 a17 a18 a19 a20 a21 a22 a23 a24 a25 a26 a27 a28 a29 a30 a31 a32 a33 a34 a35 k
  unfold consortref19_Items.f
  repeat' first
      | (with_reducible exact consortref18_Same.mono _ _ _ _ _ _ _ _ _ _ _)
      | (with_reducible exact LeO.refl _)
      | (with_reducible exact LeO.none _)
      | (with_reducible refine LeO.ite ?_ ?_)
      | (with_reducible refine LeO.bind ?_ (fun _ => ?_))
      | exact consortref18_Same.mono _ _ _ _ _ _ _ _ _ _ _
      | exact LeO.none _
      | refine LeO.ite ?_ ?_
      | refine LeO.bind ?_ (fun _ => ?_)
end Go.Proofs.Ytlkemknhmfjdpaa.P
