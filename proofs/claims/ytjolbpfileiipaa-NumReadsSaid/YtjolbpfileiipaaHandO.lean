/- once's contract, by hand: the reader's panic is caught. -/
import Derived.Test.YtjolbpfileiipaaPx1
import Derived.Lib.Hide
import Derived.Outline
import Derived.WalkSmall
import Derived.Recover
import Derived.Defers
namespace Go.Proofs.Ytjolbpfileiipaa.P
open Go.RowKit Go.Proofs.YtjolbpfileiipaaW.PrintWords Go.Proofs.YtjolbpfileiipaaW.PrintLast Go.Proofs.YtjolbpfileiipaaW.PrintMore
attribute [local go_sem] max2_int min2_int max_two min_two max_three min_three max_four min_four
set_option linter.unusedVariables false
set_option linter.unusedSimpArgs false

abbrev short : Ending := .panicked [{ v := .iface 52 (.int .i64 2), recovered := false }]
set_option maxHeartbeats 8000000 in
set_option maxRecDepth 100000 in
theorem num_Reader_Text.panics (g : Nat) (s0 : ByteArray) (s1 : Int) (a1 t : Int) (w0 w : World) (hI : IsS51 w0 w g s0 s1) (hB : Below w0.heap.size w0 w) (hL : num_Reader_Left.f s0 s1 = some (t, s0, s1)) (ht : t < mx a1 0) :
    Calls Try.prog 26 #[.pointer (some ⟨g, 0, none⟩), .int .i64 a1] w fun e w' => e = short ∧ IsS51 w0 w' g s0 s1 ∧ Below w0.heap.size w0 w' ∧ KeepBut w w' g none := by
  have HI0 := Aside0.mk hI
  have HB := Aside0.mk hB
  have HL := Aside0.mk hL
  clear hI hB hL
  obtain ⟨ji3, hji3⟩ : ∃ j_ : Int, (mx a1 0) = j_ := ⟨_, rfl⟩
  have hji3_ : (if a1 < 0 then 0 else a1) = ji3 := hji3
  rw [hji3] at ht
  have c5b0 : decide (t < ji3) = true := decide_eq_true ht
  clear hji3 ht
  go_enter Try.func26, Try.ntmps26
  go_wp2_with (go_at_call 20; (with_reducible refine (num_Reader_Left.calls g s0 s1 t s0 s1 w0 _ HI0.out HB.out HL.out).mono ?_); rintro e w9 ⟨rfl, hi, hb, hk⟩; have HI1 := Aside0.mk hi; have HB1 := Aside0.mk hb; have HK1 := Aside0.mk hk; clear hi hb hk)
  exact ⟨rfl, rfl, HI1.out, HB1.out, HK1.out⟩
set_option maxHeartbeats 8000000 in
set_option maxRecDepth 100000 in
theorem num_Reader_Num.panics (g : Nat) (s0 : ByteArray) (s1 : Int) (a1 t : Int) (w0 w : World) (hI : IsS51 w0 w g s0 s1) (hB : Below w0.heap.size w0 w) (hL : num_Reader_Left.f s0 s1 = some (t, s0, s1)) (ht : t < mx 0 (mn a1 8)) :
    Calls Try.prog 21 #[.pointer (some ⟨g, 0, none⟩), .int .i64 a1] w fun e w' => e = short ∧ IsS51 w0 w' g s0 s1 ∧ Below w0.heap.size w0 w' ∧ KeepBut w w' g none := by
  have HI0 := Aside0.mk hI
  have HB := Aside0.mk hB
  have HL := Aside0.mk hL
  clear hI hB hL
  have hm : mx (mx 0 (mn a1 8)) 0 = mx 0 (mn a1 8) := by unfold mx mn; (repeat' split) <;> omega
  have HT := Aside0.mk (show t < mx (mx 0 (mn a1 8)) 0 by rw [hm]; exact ht)
  clear hm ht
  go_enter Try.func21, Try.ntmps21
  go_wp2_with (first | (go_at_call 22; (with_reducible refine (num_size.calls a1 (mx 0 (mn a1 8)) _ rfl).mono ?_); rintro e w6 ⟨rfl, hb⟩; have HI1 := Aside0.mk (IsS51.below HI0.out hb); have HB1 := Aside0.mk (below_step HB.out hb); have HK1 := Aside0.mk (KeepBut.of_below hb g none); clear hb) | (go_at_call 26; (with_reducible refine (num_Reader_Text.panics g s0 s1 _ t w0 _ HI1.out HB1.out HL.out HT.out).mono ?_); rintro e w7 ⟨rfl, hi, hb, hk⟩; have HI2 := Aside0.mk hi; have HB2 := Aside0.mk hb; have HK2 := Aside0.mk (KeepBut.trans HK1.out hk (.inl rfl)); clear hi hb hk))
  exact ⟨rfl, rfl, HI2.out, HB2.out, HK2.out⟩

/-! ### The closure -/
set_option maxHeartbeats 4000000 in
theorem once_catch (b0 b1 b2 : Nat) (x0 : Int) (x1 : ByteArray) (x2 : Bool) (older : List PanicEntry) (w : World) (h0 : w.heap[b0]? = some (.cells #[.int .u64 x0] 23 (0, 0))) (h1 : w.heap[b1]? = some (.cells #[.string x1] 9 (0, 0))) (h2 : w.heap[b2]? = some (.cells #[.bool x2] 4 (0, 0))) :
    CallsD Try.prog 25 #[.pointer (some ⟨b0, 0, none⟩), .pointer (some ⟨b1, 0, none⟩), .pointer (some ⟨b2, 0, none⟩)] (.panicking ({ v := .iface 52 (.int .i64 2), recovered := false } :: older)) w fun e u' w' =>
      e = .returned (.tuple #[]) ∧ u' = .panicking ({ v := .iface 52 (.int .i64 2), recovered := true } :: older) ∧ w' = ((w.setCell ⟨b0, 0, none⟩ (.int .u64 0)).setCell ⟨b1, 0, none⟩ (.string ⟨#[]⟩)).setCell ⟨b2, 0, none⟩ (.bool false) := by
  have hta : ∀ w : World, (Instr.typeAssert (.iface 52 (.int .i64 2)) 20 52 true).run Try.prog w = .ok (.tuple #[.int .i64 2, .bool true]) w := fun w => by kernel_rfl
  have n1 : b1 ≠ b0 := blk_ne h1 h0 (by decide)
  have n2 : b2 ≠ b0 := blk_ne h2 h0 (by decide)
  have n3 : b2 ≠ b1 := blk_ne h2 h1 (by decide)
  have c0 : w.cell? ⟨b0, 0, none⟩ = some (.int .u64 x0) := (blk_cell h0 0).trans rfl
  have f0 := blk_frozen h0 0
  have k1 := blk_far (p := ⟨b0, 0, none⟩) h1 n1 (.int .u64 0)
  have k2 := blk_far (p := ⟨b1, 0, none⟩) (blk_far (p := ⟨b0, 0, none⟩) h2 n2 (.int .u64 0)) n3 (.string ⟨#[]⟩)
  have c1 := (blk_cell k1 0).trans rfl
  have c2 := (blk_cell k2 0).trans rfl
  have f1 := blk_frozen k1 0
  have f2 := blk_frozen k2 0
  clear k1 k2 h0 h1 h2 n1 n2 n3
  refine callsD_of_wpS Try.func25 rfl fun c₀ cs hu => ?_
  apply wpS_seq
  apply wpS_region
  simp [wpOpsS, go_sem, recoverD, hu, Try.ntmps25, Exit.thenS, hta]
  refine wpS_of_wp ?_
  go_wp2
  exact ⟨rfl, _, rfl, .tuple #[], by simp [results, Try.results25], rfl, rfl, rfl⟩
set_option maxHeartbeats 4000000 in
theorem once_idle (b0 b1 b2 : Nat) (w : World) :
    CallsD Try.prog 25 #[.pointer (some ⟨b0, 0, none⟩), .pointer (some ⟨b1, 0, none⟩), .pointer (some ⟨b2, 0, none⟩)] .returning w fun e u' w' =>
      e = .returned (.tuple #[]) ∧ u' = .returning ∧ w' = w := by
  have hta : ∀ w : World, (Instr.typeAssert .nilIface 20 52 true).run Try.prog w = .ok (.tuple #[.int .i64 0, .bool false]) w := fun w => by kernel_rfl
  refine callsD_of_wpS Try.func25 rfl fun c₀ cs hu => ?_
  apply wpS_seq
  apply wpS_region
  simp [wpOpsS, go_sem, recoverD, hu, Try.ntmps25, Exit.thenS, hta]
  refine wpS_of_wp ?_
  go_wp2
  exact ⟨rfl, .returning, by rw [← hu], .tuple #[], by simp [results, Try.results25], rfl, rfl, rfl⟩

/-! ### once -/
abbrev onceW (w : World) (a0 : Bool) (a1 : Int) : World := (((w.alloc (.cells #[.bool a0, .int .i64 a1] 39)).alloc (.cells #[.int .u64 0] 23)).alloc (.cells #[.string ⟨#[]⟩] 9)).alloc (.cells #[.bool false] 4)
section
variable {w0 w W7 : World} {g : Nat} {s0 s2 : ByteArray} {s1 s3 : Int} {a0 : Bool} {a1 : Int}
theorem heap_old {W : World} {i : Nat} {o : Obj} (h : W.heap[i]? = some o) (o2 : Obj) : (W.alloc o2).heap[i]? = some o := ((below_alloc (Below.refl _ _) o2).block i (blk_lt h)).trans h
theorem onceW_b1 : (onceW w a0 a1).heap[w.heap.size + 1]? = some (.cells #[.int .u64 0] 23 (0, 0)) := heap_old (heap_old (by have := heap_alloc_new (w.alloc (.cells #[.bool a0, .int .i64 a1] 39)) (.cells #[.int .u64 0] 23); simpa using this) _) _
theorem onceW_b2 : (onceW w a0 a1).heap[w.heap.size + 1 + 1]? = some (.cells #[.string ⟨#[]⟩] 9 (0, 0)) := heap_old (by have := heap_alloc_new ((w.alloc (.cells #[.bool a0, .int .i64 a1] 39)).alloc (.cells #[.int .u64 0] 23)) (.cells #[.string ⟨#[]⟩] 9); simpa using this) _
theorem onceW_b3 : (onceW w a0 a1).heap[w.heap.size + 1 + 1 + 1]? = some (.cells #[.bool false] 4 (0, 0)) := by have := heap_alloc_new (((w.alloc (.cells #[.bool a0, .int .i64 a1] 39)).alloc (.cells #[.int .u64 0] 23)).alloc (.cells #[.string ⟨#[]⟩] 9)) (.cells #[.bool false] 4); simpa using this
theorem onceW_is (h : IsS51 w0 w g s0 s1) : IsS51 w0 (onceW w a0 a1) g s0 s1 := (((h.alloc _).alloc _).alloc _).alloc _
theorem onceW_below (h : Below w0.heap.size w0 w) : Below w0.heap.size w0 (onceW w a0 a1) := below_alloc (below_alloc (below_alloc (below_alloc h _) _) _) _
theorem onceW_keep : KeepBut w (onceW w a0 a1) g none := KeepBut.of_below (below_alloc (below_alloc (below_alloc (below_alloc (Below.refl _ _) _) _) _) _) _ _
/-- What is behind the call and the three stores. -/
theorem once_end (hlt : g < w.heap.size) (hB0 : Below w0.heap.size w0 w) (hI : IsS51 w0 W7 g s2 s3) (hB : Below w0.heap.size w0 W7) (hk : KeepBut (onceW w a0 a1) W7 g none) (v : Int) (t : ByteArray) (ok : Bool) :
    ∃ W8, W8 = ((W7.setCell ⟨w.heap.size + 1, 0, none⟩ (.int .u64 v)).setCell ⟨w.heap.size + 1 + 1, 0, none⟩ (.string t)).setCell ⟨w.heap.size + 1 + 1 + 1, 0, none⟩ (.bool ok) ∧
      W8.cell? ⟨w.heap.size + 1, 0, none⟩ = some (.int .u64 v) ∧ W8.cell? ⟨w.heap.size + 1 + 1, 0, none⟩ = some (.string t) ∧ W8.cell? ⟨w.heap.size + 1 + 1 + 1, 0, none⟩ = some (.bool ok) ∧
      IsS51 w0 W8 g s2 s3 ∧ Below w0.heap.size w0 W8 ∧ KeepBut w W8 g none := by
  have hz := hB0.size
  have b1 := hk.blk onceW_b1 (by omega) (by simp)
  have b2 := hk.blk onceW_b2 (by omega) (by simp)
  have b3 := hk.blk onceW_b3 (by omega) (by simp)
  have p1 := blk_set b1 0 (.int .u64 v)
  have p2 := blk_set (blk_far (p := ⟨w.heap.size + 1, 0, none⟩) b2 (show w.heap.size + 1 + 1 ≠ w.heap.size + 1 by omega) (.int .u64 v)) 0 (.string t)
  have p3 := blk_set (blk_far (p := ⟨w.heap.size + 1 + 1, 0, none⟩) (blk_far (p := ⟨w.heap.size + 1, 0, none⟩) b3 (show w.heap.size + 1 + 1 + 1 ≠ w.heap.size + 1 by omega) (.int .u64 v)) (show w.heap.size + 1 + 1 + 1 ≠ w.heap.size + 1 + 1 by omega) (.string t)) 0 (.bool ok)
  have p1' := blk_far (p := ⟨w.heap.size + 1 + 1 + 1, 0, none⟩) (blk_far (p := ⟨w.heap.size + 1 + 1, 0, none⟩) p1 (show w.heap.size + 1 ≠ w.heap.size + 1 + 1 by omega) (.string t)) (show w.heap.size + 1 ≠ w.heap.size + 1 + 1 + 1 by omega) (.bool ok)
  have p2' := blk_far (p := ⟨w.heap.size + 1 + 1 + 1, 0, none⟩) p2 (show w.heap.size + 1 + 1 ≠ w.heap.size + 1 + 1 + 1 by omega) (.bool ok)
  refine ⟨_, rfl, (blk_cell p1' 0).trans rfl, (blk_cell p2' 0).trans rfl, (blk_cell p3 0).trans rfl, ?_, ?_, ?_⟩
  · exact ((hI.far (show g ≠ w.heap.size + 1 by omega) _).far (show g ≠ w.heap.size + 1 + 1 by omega) _).far (show g ≠ w.heap.size + 1 + 1 + 1 by omega) _
  · exact below_set (below_set (below_set hB (by omega)) (by omega)) (by omega)
  · exact keep_far (keep_far (keep_far (onceW_keep.trans hk (.inl rfl)) (show w.heap.size ≤ w.heap.size + 1 by omega) _) (show w.heap.size ≤ w.heap.size + 1 + 1 by omega) _) (show w.heap.size ≤ w.heap.size + 1 + 1 + 1 by omega) _
theorem once_cells (hlt : g < w.heap.size) (hk : KeepBut (onceW w a0 a1) W7 g none) (v : Int) (t : ByteArray) :
    (W7.cell? ⟨w.heap.size + 1, 0, none⟩ = some (.int .u64 0) ∧ W7.frozen? ⟨w.heap.size + 1, 0, none⟩ = false) ∧
    ((W7.setCell ⟨w.heap.size + 1, 0, none⟩ (.int .u64 v)).cell? ⟨w.heap.size + 1 + 1, 0, none⟩ = some (.string ⟨#[]⟩) ∧ (W7.setCell ⟨w.heap.size + 1, 0, none⟩ (.int .u64 v)).frozen? ⟨w.heap.size + 1 + 1, 0, none⟩ = false) ∧
    (((W7.setCell ⟨w.heap.size + 1, 0, none⟩ (.int .u64 v)).setCell ⟨w.heap.size + 1 + 1, 0, none⟩ (.string t)).cell? ⟨w.heap.size + 1 + 1 + 1, 0, none⟩ = some (.bool false) ∧ ((W7.setCell ⟨w.heap.size + 1, 0, none⟩ (.int .u64 v)).setCell ⟨w.heap.size + 1 + 1, 0, none⟩ (.string t)).frozen? ⟨w.heap.size + 1 + 1 + 1, 0, none⟩ = false) := by
  have b1 := hk.blk onceW_b1 (by omega) (by simp)
  have b2 := hk.blk onceW_b2 (by omega) (by simp)
  have b3 := hk.blk onceW_b3 (by omega) (by simp)
  have p2 := blk_far (p := ⟨w.heap.size + 1, 0, none⟩) b2 (show w.heap.size + 1 + 1 ≠ w.heap.size + 1 by omega) (.int .u64 v)
  have p3 := blk_far (p := ⟨w.heap.size + 1 + 1, 0, none⟩) (blk_far (p := ⟨w.heap.size + 1, 0, none⟩) b3 (show w.heap.size + 1 + 1 + 1 ≠ w.heap.size + 1 by omega) (.int .u64 v)) (show w.heap.size + 1 + 1 + 1 ≠ w.heap.size + 1 + 1 by omega) (.string t)
  exact ⟨⟨(blk_cell b1 0).trans rfl, blk_frozen b1 0⟩, ⟨(blk_cell p2 0).trans rfl, blk_frozen p2 0⟩, ⟨(blk_cell p3 0).trans rfl, blk_frozen p3 0⟩⟩
end
set_option maxHeartbeats 8000000 in
set_option maxRecDepth 100000 in
theorem once_short_text (g : Nat) (s0 : ByteArray) (s1 : Int) (a1 t : Int) (w0 w : World) (hI : IsS51 w0 w g s0 s1) (hB : Below w0.heap.size w0 w) (hL : num_Reader_Left.f s0 s1 = some (t, s0, s1)) (ht : t < mx a1 0) :
    Calls Try.prog 16 #[.pointer (some ⟨g, 0, none⟩), .agg #[.bool true, .int .i64 a1]] w fun e w' => e = .returned (.tuple #[.int .u64 0, .string ⟨#[]⟩, .bool false]) ∧ IsS51 w0 w' g s0 s1 ∧ Below w0.heap.size w0 w' ∧ KeepBut w w' g none := by
  have HI0 := Aside0.mk hI
  have HB := Aside0.mk hB
  have HL := Aside0.mk hL
  have HT := Aside0.mk ht
  clear hI hB hL ht
  have hmf : ∀ (fn : Fn) (first cap : Array Value) (w : World), (Instr.makeFunc fn first cap).run Try.prog w = .ok (.func fn first cap) w := fun _ _ _ _ => rfl
  go_enter_defers Try.func16, Try.ntmps16
  go_wp2_with (go_at_call 26; (with_reducible refine (num_Reader_Text.panics g s0 s1 _ t w0 (onceW w true a1) (onceW_is HI0.out) (onceW_below HB.out) HL.out HT.out).mono ?_); rintro e w7 ⟨rfl, hi, hb, hk⟩; have HI1 := Aside0.mk hi; have HB1 := Aside0.mk hb; have HK1 := Aside0.mk hk; clear hi hb hk)
  refine leaves_cons (f := 25) (args := #[.pointer (some ⟨w.heap.size + 1, 0, none⟩), .pointer (some ⟨w.heap.size + 1 + 1, 0, none⟩), .pointer (some ⟨w.heap.size + 1 + 1 + 1, 0, none⟩)]) (by simp) (by simp [go_sem]) ?_
  have hlt := IsS51.lt HI0.out
  refine (once_catch (w.heap.size + 1) (w.heap.size + 1 + 1) (w.heap.size + 1 + 1 + 1) 0 ⟨#[]⟩ false [] w7 (HK1.out.blk onceW_b1 (by omega) (by simp)) (HK1.out.blk onceW_b2 (by omega) (by simp)) (HK1.out.blk onceW_b3 (by omega) (by simp))).mono ?_
  rintro e u' w'' ⟨rfl, rfl, rfl⟩
  obtain ⟨W8, h8, c1, c2, c3, hi, hb, hk⟩ := once_end hlt HB.out HI1.out HB1.out HK1.out 0 ⟨#[]⟩ false
  rw [← h8]
  clear h8
  simp [Leaves, settle, results, Try.results16, go_sem, c1, c2, c3]
  exact ⟨hi, hb, hk⟩
set_option maxHeartbeats 8000000 in
set_option maxRecDepth 100000 in
theorem once_short_num (g : Nat) (s0 : ByteArray) (s1 : Int) (a1 t : Int) (w0 w : World) (hI : IsS51 w0 w g s0 s1) (hB : Below w0.heap.size w0 w) (hL : num_Reader_Left.f s0 s1 = some (t, s0, s1)) (ht : t < mx 0 (mn a1 8)) :
    Calls Try.prog 16 #[.pointer (some ⟨g, 0, none⟩), .agg #[.bool false, .int .i64 a1]] w fun e w' => e = .returned (.tuple #[.int .u64 0, .string ⟨#[]⟩, .bool false]) ∧ IsS51 w0 w' g s0 s1 ∧ Below w0.heap.size w0 w' ∧ KeepBut w w' g none := by
  have HI0 := Aside0.mk hI
  have HB := Aside0.mk hB
  have HL := Aside0.mk hL
  have HT := Aside0.mk ht
  clear hI hB hL ht
  have hmf : ∀ (fn : Fn) (first cap : Array Value) (w : World), (Instr.makeFunc fn first cap).run Try.prog w = .ok (.func fn first cap) w := fun _ _ _ _ => rfl
  go_enter_defers Try.func16, Try.ntmps16
  go_wp2_with (go_at_call 21; (with_reducible refine (num_Reader_Num.panics g s0 s1 _ t w0 (onceW w false a1) (onceW_is HI0.out) (onceW_below HB.out) HL.out HT.out).mono ?_); rintro e w7 ⟨rfl, hi, hb, hk⟩; have HI1 := Aside0.mk hi; have HB1 := Aside0.mk hb; have HK1 := Aside0.mk hk; clear hi hb hk)
  refine leaves_cons (f := 25) (args := #[.pointer (some ⟨w.heap.size + 1, 0, none⟩), .pointer (some ⟨w.heap.size + 1 + 1, 0, none⟩), .pointer (some ⟨w.heap.size + 1 + 1 + 1, 0, none⟩)]) (by simp) (by simp [go_sem]) ?_
  have hlt := IsS51.lt HI0.out
  refine (once_catch (w.heap.size + 1) (w.heap.size + 1 + 1) (w.heap.size + 1 + 1 + 1) 0 ⟨#[]⟩ false [] w7 (HK1.out.blk onceW_b1 (by omega) (by simp)) (HK1.out.blk onceW_b2 (by omega) (by simp)) (HK1.out.blk onceW_b3 (by omega) (by simp))).mono ?_
  rintro e u' w'' ⟨rfl, rfl, rfl⟩
  obtain ⟨W8, h8, c1, c2, c3, hi, hb, hk⟩ := once_end hlt HB.out HI1.out HB1.out HK1.out 0 ⟨#[]⟩ false
  rw [← h8]
  clear h8
  simp [Leaves, settle, results, Try.results16, go_sem, c1, c2, c3]
  exact ⟨hi, hb, hk⟩
set_option maxHeartbeats 8000000 in
set_option maxRecDepth 100000 in
theorem once_good_text (g : Nat) (s0 : ByteArray) (s1 : Int) (a1 : Int) (r1 : ByteArray) (r2 : ByteArray) (r3 : Int) (w0 w : World) (hI : IsS51 w0 w g s0 s1) (hB : Below w0.heap.size w0 w) (hL : num_Reader_Text.f s0 s1 a1 = some (r1, r2, r3)) :
    Calls Try.prog 16 #[.pointer (some ⟨g, 0, none⟩), .agg #[.bool true, .int .i64 a1]] w fun e w' => e = .returned (.tuple #[.int .u64 0, .string r1, .bool true]) ∧ IsS51 w0 w' g r2 r3 ∧ Below w0.heap.size w0 w' ∧ KeepBut w w' g none := by
  have HI0 := Aside0.mk hI
  have HB := Aside0.mk hB
  have HL := Aside0.mk hL
  clear hI hB hL
  have hmf : ∀ (fn : Fn) (first cap : Array Value) (w : World), (Instr.makeFunc fn first cap).run Try.prog w = .ok (.func fn first cap) w := fun _ _ _ _ => rfl
  go_enter_defers Try.func16, Try.ntmps16
  go_wp2_with (go_at_call 26; (with_reducible refine (num_Reader_Text.calls g s0 s1 _ r1 r2 r3 w0 (onceW w true a1) (onceW_is HI0.out) (onceW_below HB.out) HL.out).mono ?_); rintro e w7 ⟨rfl, hi, hb, hk⟩; have HI1 := Aside0.mk hi; have HB1 := Aside0.mk hb; have HK1 := Aside0.mk hk; clear hi hb hk; obtain ⟨⟨c1, f1⟩, ⟨c2, f2⟩, ⟨c3, f3⟩⟩ := once_cells (IsS51.lt HI0.out) HK1.out (0) (r1))
  have hlt := IsS51.lt HI0.out
  clear c1 f1 c2 f2 c3 f3
  refine leaves_cons (f := 25) (args := #[.pointer (some ⟨w.heap.size + 1, 0, none⟩), .pointer (some ⟨w.heap.size + 1 + 1, 0, none⟩), .pointer (some ⟨w.heap.size + 1 + 1 + 1, 0, none⟩)]) (by simp) (by simp [go_sem]) ?_
  refine (once_idle (w.heap.size + 1) (w.heap.size + 1 + 1) (w.heap.size + 1 + 1 + 1) _).mono ?_
  rintro e u' w'' ⟨rfl, rfl, rfl⟩
  obtain ⟨W8, h8, c1, c2, c3, hi, hb, hk⟩ := once_end hlt HB.out HI1.out HB1.out HK1.out (0) (r1) true
  rw [← h8]
  clear h8
  simp [Leaves, settle, results, Try.results16, go_sem, c1, c2, c3]
  exact ⟨hi, hb, hk⟩
set_option maxHeartbeats 8000000 in
set_option maxRecDepth 100000 in
theorem once_good_num (g : Nat) (s0 : ByteArray) (s1 : Int) (a1 : Int) (r1 : Int) (r2 : ByteArray) (r3 : Int) (w0 w : World) (hI : IsS51 w0 w g s0 s1) (hB : Below w0.heap.size w0 w) (hL : num_Reader_Num.f s0 s1 a1 = some (r1, r2, r3)) :
    Calls Try.prog 16 #[.pointer (some ⟨g, 0, none⟩), .agg #[.bool false, .int .i64 a1]] w fun e w' => e = .returned (.tuple #[.int .u64 r1, .string ⟨#[]⟩, .bool true]) ∧ IsS51 w0 w' g r2 r3 ∧ Below w0.heap.size w0 w' ∧ KeepBut w w' g none := by
  have HI0 := Aside0.mk hI
  have HB := Aside0.mk hB
  have HL := Aside0.mk hL
  clear hI hB hL
  have hmf : ∀ (fn : Fn) (first cap : Array Value) (w : World), (Instr.makeFunc fn first cap).run Try.prog w = .ok (.func fn first cap) w := fun _ _ _ _ => rfl
  go_enter_defers Try.func16, Try.ntmps16
  go_wp2_with (go_at_call 21; (with_reducible refine (num_Reader_Num.calls g s0 s1 _ r1 r2 r3 w0 (onceW w false a1) (onceW_is HI0.out) (onceW_below HB.out) HL.out).mono ?_); rintro e w7 ⟨rfl, hi, hb, hk⟩; have HI1 := Aside0.mk hi; have HB1 := Aside0.mk hb; have HK1 := Aside0.mk hk; clear hi hb hk; obtain ⟨⟨c1, f1⟩, ⟨c2, f2⟩, ⟨c3, f3⟩⟩ := once_cells (IsS51.lt HI0.out) HK1.out (r1) (⟨#[]⟩))
  have hlt := IsS51.lt HI0.out
  clear c1 f1 c2 f2 c3 f3
  refine leaves_cons (f := 25) (args := #[.pointer (some ⟨w.heap.size + 1, 0, none⟩), .pointer (some ⟨w.heap.size + 1 + 1, 0, none⟩), .pointer (some ⟨w.heap.size + 1 + 1 + 1, 0, none⟩)]) (by simp) (by simp [go_sem]) ?_
  refine (once_idle (w.heap.size + 1) (w.heap.size + 1 + 1) (w.heap.size + 1 + 1 + 1) _).mono ?_
  rintro e u' w'' ⟨rfl, rfl, rfl⟩
  obtain ⟨W8, h8, c1, c2, c3, hi, hb, hk⟩ := once_end hlt HB.out HI1.out HB1.out HK1.out (r1) (⟨#[]⟩) true
  rw [← h8]
  clear h8
  simp [Leaves, settle, results, Try.results16, go_sem, c1, c2, c3]
  exact ⟨hi, hb, hk⟩
/-- once's answer. -/
def consortlaw01_once.f (s0_0 : ByteArray) (s0_1 : Int) (a1_0 : Bool) (a1_1 : Int) : Option (Int × ByteArray × Bool × ByteArray × Int) :=
  (num_Reader_Left.f s0_0 s0_1).bind fun z =>
    if a1_0 = true then
      if z.1 < mx a1_1 0 then some (0, ⟨#[]⟩, false, s0_0, s0_1) else (num_Reader_Text.f s0_0 s0_1 a1_1).bind fun y => some (0, y.1, true, y.2.1, y.2.2)
    else
      if z.1 < mx 0 (mn a1_1 8) then some (0, ⟨#[]⟩, false, s0_0, s0_1) else (num_Reader_Num.f s0_0 s0_1 a1_1).bind fun y => some (y.1, ⟨#[]⟩, true, y.2.1, y.2.2)
theorem consortlaw01_once.calls (g : Nat) (s0_0 : ByteArray) (s0_1 : Int) (a1_0 : Bool) (a1_1 : Int) (r1 : Int) (r2 : ByteArray) (r3 : Bool) (r4 : ByteArray) (r5 : Int) (w0 w : World) (hI : IsS51 w0 w g s0_0 s0_1) (hB : Below w0.heap.size w0 w) (h : consortlaw01_once.f s0_0 s0_1 a1_0 a1_1 = some (r1, r2, r3, r4, r5)) :
    Calls Try.prog 16 #[.pointer (some ⟨g, 0, none⟩), .agg #[.bool a1_0, .int .i64 a1_1]] w fun e w' => e = .returned (.tuple #[.int .u64 r1, .string r2, .bool r3]) ∧ IsS51 w0 w' g r4 r5 ∧ Below w0.heap.size w0 w' ∧ KeepBut w w' g none := by
  have hL : num_Reader_Left.f s0_0 s0_1 = some (wrap64 ((s0_0.size : Int) - s0_1), s0_0, s0_1) := rfl
  unfold consortlaw01_once.f at h
  rw [hL, Option.bind_some] at h
  cases a1_0 with
  | true =>
    rw [if_pos rfl] at h
    by_cases hc : wrap64 ((s0_0.size : Int) - s0_1) < mx a1_1 0
    · rw [if_pos hc] at h
      simp only [Option.some.injEq, Prod.mk.injEq] at h
      obtain ⟨rfl, rfl, rfl, rfl, rfl⟩ := h
      exact once_short_text g _ _ a1_1 _ w0 w hI hB hL hc
    · rw [if_neg hc] at h
      obtain ⟨⟨y1, y2, y3⟩, hy, hh⟩ := Option.bind_eq_some_iff.mp h
      simp only [Option.some.injEq, Prod.mk.injEq] at hh
      obtain ⟨rfl, rfl, rfl, rfl, rfl⟩ := hh
      exact once_good_text g _ _ a1_1 _ _ _ w0 w hI hB hy
  | false =>
    rw [if_neg (by simp)] at h
    by_cases hc : wrap64 ((s0_0.size : Int) - s0_1) < mx 0 (mn a1_1 8)
    · rw [if_pos hc] at h
      simp only [Option.some.injEq, Prod.mk.injEq] at h
      obtain ⟨rfl, rfl, rfl, rfl, rfl⟩ := h
      exact once_short_num g _ _ a1_1 _ w0 w hI hB hL hc
    · rw [if_neg hc] at h
      obtain ⟨⟨y1, y2, y3⟩, hy, hh⟩ := Option.bind_eq_some_iff.mp h
      simp only [Option.some.injEq, Prod.mk.injEq] at hh
      obtain ⟨rfl, rfl, rfl, rfl, rfl⟩ := hh
      exact once_good_num g _ _ a1_1 _ _ _ w0 w hI hB hy
end Go.Proofs.Ytjolbpfileiipaa.P
