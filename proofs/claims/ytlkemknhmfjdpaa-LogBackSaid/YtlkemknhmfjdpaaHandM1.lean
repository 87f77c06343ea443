import Derived.Test.YtlkemknhmfjdpaaHandLb
import Derived.Test.YtlkemknhmfjdpaaLogL0
import Derived.Deep.Cut
import Derived.RegionCalls
import Derived.Deep.RegionWith
/- ParseItem, by hand. -/
namespace Go.Proofs.Ytlkemknhmfjdpaa.P
open Go.RowKit Go.Proofs.YtlkemknhmfjdpaaW.PrintWords Go.Proofs.YtlkemknhmfjdpaaW.PrintLast Go.Proofs.YtlkemknhmfjdpaaW.PrintMore
attribute [local go_sem] max2_int min2_int max_two min_two max_three min_three max_four min_four
set_option linter.unusedVariables false
set_option linter.unusedSimpArgs false

set_option maxHeartbeats 8000000 in
set_option maxRecDepth 100000 in
theorem back_e1 (a0 a1 n e0 rr m : Int) (A : Option Addr) (c : Nat) (l : List S27) (k : Int) (d : ByteArray) (inc holds : Int) (has dir : Bool) (rn re r3 rm : Int) (A2 : Option Addr) (c2 : Nat) (l2 : List S27) (vn ve vr vm nb ix tt : Int) (text : ByteArray) (w : World) (h1 : 300 < l.length) : Calls Try.prog 3 #[.agg #[.int .u64 a0, .int .u32 a1, .int .u64 n, .int .u64 e0, .int .i64 rr, .int .u64 m, .slice A l.length c], .agg #[.int .i64 k, .string d, .int .u32 inc, .int .u64 holds, .bool has, .bool dir, .int .u64 rn, .int .u64 re, .int .i64 r3, .int .u64 rm, .slice A2 l2.length c2, .int .u64 vn, .int .u64 ve, .int .i64 vr, .int .u64 vm, .int .u64 nb, .int .i64 ix, .int .i64 tt], .string text] w fun e w' => e = .returned (.bool true) ∧ Below w.heap.size w w' := by
  have b0 : decide (300 < (l.length : Int)) = true := decide_eq_true (by omega)
  clear h1
  go_enter Try.func3, Try.ntmps3
  go_wp2_with (first | (go_at_call 6; (with_reducible refine (consortlaw19_awake.calls true _ rfl).mono ?_); rintro e w1 ⟨rfl, hb⟩; have H1 := Aside0.mk ((LB.start w #[.int .u64 a0, .int .u32 a1, .int .u64 n, .int .u64 e0, .int .i64 rr, .int .u64 m, .slice A l.length c] #[.int .i64 k, .string d, .int .u32 inc, .int .u64 holds, .bool has, .bool dir, .int .u64 rn, .int .u64 re, .int .i64 r3, .int .u64 rm, .slice A2 l2.length c2, .int .u64 vn, .int .u64 ve, .int .i64 vr, .int .u64 vm, .int .u64 nb, .int .i64 ix, .int .i64 tt]).below hb); have s6 := cellAt (i := 6) H1.out.s_ rfl; have x10 := cellAt (i := 10) H1.out.x_ rfl; have x1 := cellAt (i := 1) H1.out.x_ rfl; clear hb))
  go_ret
  exact ⟨rfl, H1.out.bel⟩
set_option maxHeartbeats 8000000 in
set_option maxRecDepth 100000 in
theorem back_e2 (a0 a1 n e0 rr m : Int) (A : Option Addr) (c : Nat) (l : List S27) (k : Int) (d : ByteArray) (inc holds : Int) (has dir : Bool) (rn re r3 rm : Int) (A2 : Option Addr) (c2 : Nat) (l2 : List S27) (vn ve vr vm nb ix tt : Int) (text : ByteArray) (w : World) (h1 : l.length ≤ 300) (h2 : 300 < l2.length) : Calls Try.prog 3 #[.agg #[.int .u64 a0, .int .u32 a1, .int .u64 n, .int .u64 e0, .int .i64 rr, .int .u64 m, .slice A l.length c], .agg #[.int .i64 k, .string d, .int .u32 inc, .int .u64 holds, .bool has, .bool dir, .int .u64 rn, .int .u64 re, .int .i64 r3, .int .u64 rm, .slice A2 l2.length c2, .int .u64 vn, .int .u64 ve, .int .i64 vr, .int .u64 vm, .int .u64 nb, .int .i64 ix, .int .i64 tt], .string text] w fun e w' => e = .returned (.bool true) ∧ Below w.heap.size w w' := by
  have b0 : decide (300 < (l.length : Int)) = false := decide_eq_false (by omega)
  have b1 : decide (300 < (l2.length : Int)) = true := decide_eq_true (by omega)
  clear h1 h2
  go_enter Try.func3, Try.ntmps3
  go_wp2_with (first | (go_at_call 6; (with_reducible refine (consortlaw19_awake.calls true _ rfl).mono ?_); rintro e w1 ⟨rfl, hb⟩; have H1 := Aside0.mk ((LB.start w #[.int .u64 a0, .int .u32 a1, .int .u64 n, .int .u64 e0, .int .i64 rr, .int .u64 m, .slice A l.length c] #[.int .i64 k, .string d, .int .u32 inc, .int .u64 holds, .bool has, .bool dir, .int .u64 rn, .int .u64 re, .int .i64 r3, .int .u64 rm, .slice A2 l2.length c2, .int .u64 vn, .int .u64 ve, .int .i64 vr, .int .u64 vm, .int .u64 nb, .int .i64 ix, .int .i64 tt]).below hb); have s6 := cellAt (i := 6) H1.out.s_ rfl; have x10 := cellAt (i := 10) H1.out.x_ rfl; have x1 := cellAt (i := 1) H1.out.x_ rfl; clear hb))
  go_ret
  exact ⟨rfl, H1.out.bel⟩
set_option maxHeartbeats 8000000 in
set_option maxRecDepth 100000 in
theorem back_e3 (a0 a1 n e0 rr m : Int) (A : Option Addr) (c : Nat) (l : List S27) (k : Int) (d : ByteArray) (inc holds : Int) (has dir : Bool) (rn re r3 rm : Int) (A2 : Option Addr) (c2 : Nat) (l2 : List S27) (vn ve vr vm nb ix tt : Int) (text : ByteArray) (w : World) (h1 : l.length ≤ 300) (h2 : l2.length ≤ 300) (h3 : 5000 < d.size) : Calls Try.prog 3 #[.agg #[.int .u64 a0, .int .u32 a1, .int .u64 n, .int .u64 e0, .int .i64 rr, .int .u64 m, .slice A l.length c], .agg #[.int .i64 k, .string d, .int .u32 inc, .int .u64 holds, .bool has, .bool dir, .int .u64 rn, .int .u64 re, .int .i64 r3, .int .u64 rm, .slice A2 l2.length c2, .int .u64 vn, .int .u64 ve, .int .i64 vr, .int .u64 vm, .int .u64 nb, .int .i64 ix, .int .i64 tt], .string text] w fun e w' => e = .returned (.bool true) ∧ Below w.heap.size w w' := by
  have b0 : decide (300 < (l.length : Int)) = false := decide_eq_false (by omega)
  have b1 : decide (300 < (l2.length : Int)) = false := decide_eq_false (by omega)
  have b2 : decide (5000 < (d.size : Int)) = true := decide_eq_true (by omega)
  clear h1 h2 h3
  go_enter Try.func3, Try.ntmps3
  go_wp2_with (first | (go_at_call 6; (with_reducible refine (consortlaw19_awake.calls true _ rfl).mono ?_); rintro e w1 ⟨rfl, hb⟩; have H1 := Aside0.mk ((LB.start w #[.int .u64 a0, .int .u32 a1, .int .u64 n, .int .u64 e0, .int .i64 rr, .int .u64 m, .slice A l.length c] #[.int .i64 k, .string d, .int .u32 inc, .int .u64 holds, .bool has, .bool dir, .int .u64 rn, .int .u64 re, .int .i64 r3, .int .u64 rm, .slice A2 l2.length c2, .int .u64 vn, .int .u64 ve, .int .i64 vr, .int .u64 vm, .int .u64 nb, .int .i64 ix, .int .i64 tt]).below hb); have s6 := cellAt (i := 6) H1.out.s_ rfl; have x10 := cellAt (i := 10) H1.out.x_ rfl; have x1 := cellAt (i := 1) H1.out.x_ rfl; clear hb))
  go_ret
  exact ⟨rfl, H1.out.bel⟩
set_option maxHeartbeats 8000000 in
set_option maxRecDepth 100000 in
theorem back_e4 (a0 a1 n e0 rr m : Int) (A : Option Addr) (c : Nat) (l : List S27) (k : Int) (d : ByteArray) (inc holds : Int) (has dir : Bool) (rn re r3 rm : Int) (A2 : Option Addr) (c2 : Nat) (l2 : List S27) (vn ve vr vm nb ix tt : Int) (text : ByteArray) (w : World) (h1 : l.length ≤ 300) (h2 : l2.length ≤ 300) (h3 : d.size ≤ 5000) (h4 : 5000 < text.size) : Calls Try.prog 3 #[.agg #[.int .u64 a0, .int .u32 a1, .int .u64 n, .int .u64 e0, .int .i64 rr, .int .u64 m, .slice A l.length c], .agg #[.int .i64 k, .string d, .int .u32 inc, .int .u64 holds, .bool has, .bool dir, .int .u64 rn, .int .u64 re, .int .i64 r3, .int .u64 rm, .slice A2 l2.length c2, .int .u64 vn, .int .u64 ve, .int .i64 vr, .int .u64 vm, .int .u64 nb, .int .i64 ix, .int .i64 tt], .string text] w fun e w' => e = .returned (.bool true) ∧ Below w.heap.size w w' := by
  have b0 : decide (300 < (l.length : Int)) = false := decide_eq_false (by omega)
  have b1 : decide (300 < (l2.length : Int)) = false := decide_eq_false (by omega)
  have b2 : decide (5000 < (d.size : Int)) = false := decide_eq_false (by omega)
  have b3 : decide (5000 < (text.size : Int)) = true := decide_eq_true (by omega)
  clear h1 h2 h3 h4
  go_enter Try.func3, Try.ntmps3
  go_wp2_with (first | (go_at_call 6; (with_reducible refine (consortlaw19_awake.calls true _ rfl).mono ?_); rintro e w1 ⟨rfl, hb⟩; have H1 := Aside0.mk ((LB.start w #[.int .u64 a0, .int .u32 a1, .int .u64 n, .int .u64 e0, .int .i64 rr, .int .u64 m, .slice A l.length c] #[.int .i64 k, .string d, .int .u32 inc, .int .u64 holds, .bool has, .bool dir, .int .u64 rn, .int .u64 re, .int .i64 r3, .int .u64 rm, .slice A2 l2.length c2, .int .u64 vn, .int .u64 ve, .int .i64 vr, .int .u64 vm, .int .u64 nb, .int .i64 ix, .int .i64 tt]).below hb); have s6 := cellAt (i := 6) H1.out.s_ rfl; have x10 := cellAt (i := 10) H1.out.x_ rfl; have x1 := cellAt (i := 1) H1.out.x_ rfl; clear hb))
  go_ret
  exact ⟨rfl, H1.out.bel⟩
end Go.Proofs.Ytlkemknhmfjdpaa.P
/- ParseItem, by hand. -/
namespace Go.Proofs.Ytlkemknhmfjdpaa.P
open Go.RowKit Go.Proofs.YtlkemknhmfjdpaaW.PrintWords Go.Proofs.YtlkemknhmfjdpaaW.PrintLast Go.Proofs.YtlkemknhmfjdpaaW.PrintMore
attribute [local go_sem] max2_int min2_int max_two min_two max_three min_three max_four min_four
set_option linter.unusedVariables false
set_option linter.unusedSimpArgs false

set_option maxHeartbeats 16000000 in
set_option maxRecDepth 100000 in
theorem back_main (a0 a1 n e0 rr m : Int) (A : Option Addr) (c : Nat) (l : List S27) (k : Int) (d : ByteArray) (inc holds : Int) (has dir : Bool) (rn re r3 rm : Int) (A2 : Option Addr) (c2 : Nat) (l2 : List S27) (vn ve vr vm nb ix tt : Int) (text : ByteArray) (w : World) (h1 : l.length ≤ 300) (h2 : l2.length ≤ 300) (h3 : d.size ≤ 5000) (h4 : text.size ≤ 5000) (hC : Kd.C k27 w A l.length l) (hcc : l.length ≤ c) (hC2 : Kd.C k27 w A2 l2.length l2) (hcc2 : l2.length ≤ c2) (t t2 : ByteArray) (e e2 : Int) (hp : log_Print.f a0 a1 n e0 rr m l = some (t, e)) (hpi : log_PrintItem.f k d inc holds has dir rn re r3 rm l2 vn ve vr vm nb ix tt = some (t2, e2)) (hpa : e = 0 → log_Parse.f t = some (a0, a1, n, e0, rr, m, l, 0)) (hkk : e2 = 0 → 1 ≤ k ∧ k ≤ 4) (hk1 : e2 = 0 → k = 1 → log_ParseItem.f t2 = some (1, d, 0, 0, false, false, 0, 0, 0, 0, [], 0, 0, 0, 0, 0, 0, 0, 0) ∧ log_PrintItem.f 1 d 0 0 false false 0 0 0 0 [] 0 0 0 0 0 0 0 = some (t2, 0)) (hk2 : e2 = 0 → k = 2 → log_ParseItem.f t2 = some (2, ⟨#[]⟩, inc, holds, has, dir, rn, re, r3, rm, l2, 0, 0, 0, 0, 0, 0, 0, 0) ∧ log_PrintItem.f 2 ⟨#[]⟩ inc holds has dir rn re r3 rm l2 0 0 0 0 0 0 0 = some (t2, 0)) (hk3 : e2 = 0 → k = 3 → log_ParseItem.f t2 = some (3, ⟨#[]⟩, 0, 0, false, false, 0, 0, 0, 0, [], vn, ve, vr, vm, 0, 0, 0, 0) ∧ log_PrintItem.f 3 ⟨#[]⟩ 0 0 false false 0 0 0 0 [] vn ve vr vm 0 0 0 = some (t2, 0)) (hk4 : e2 = 0 → k = 4 → log_ParseItem.f t2 = some (4, d, 0, 0, false, false, 0, 0, 0, 0, [], 0, 0, 0, 0, nb, ix, tt, 0) ∧ log_PrintItem.f 4 d 0 0 false false 0 0 0 0 [] 0 0 0 0 nb ix tt = some (t2, 0)) (p0 p1 q0 q1 q2 q3 : Int) (lu : List S27) (eu : Int) (hpt : log_Parse.f text = some (p0, p1, q0, q1, q2, q3, lu, eu)) (hpu : eu = 0 → log_Print.f p0 p1 q0 q1 q2 q3 lu = some (text, 0)) (y0_ : Int) (y1_ : ByteArray) (y2_ : Int) (y3_ : Int) (y4_ : Bool) (y5_ : Bool) (y6_ : Int) (y7_ : Int) (y8_ : Int) (y9_ : Int) (ly : List S27) (y11_ : Int) (y12_ : Int) (y13_ : Int) (y14_ : Int) (y15_ : Int) (y16_ : Int) (y17_ : Int) (ey : Int) (hpi2 : log_ParseItem.f text = some (y0_, y1_, y2_, y3_, y4_, y5_, y6_, y7_, y8_, y9_, ly, y11_, y12_, y13_, y14_, y15_, y16_, y17_, ey)) (hpj : ey = 0 → log_PrintItem.f y0_ y1_ y2_ y3_ y4_ y5_ y6_ y7_ y8_ y9_ ly y11_ y12_ y13_ y14_ y15_ y16_ y17_ = some (text, 0)) : Calls Try.prog 3 #[.agg #[.int .u64 a0, .int .u32 a1, .int .u64 n, .int .u64 e0, .int .i64 rr, .int .u64 m, .slice A l.length c], .agg #[.int .i64 k, .string d, .int .u32 inc, .int .u64 holds, .bool has, .bool dir, .int .u64 rn, .int .u64 re, .int .i64 r3, .int .u64 rm, .slice A2 l2.length c2, .int .u64 vn, .int .u64 ve, .int .i64 vr, .int .u64 vm, .int .u64 nb, .int .i64 ix, .int .i64 tt], .string text] w fun e w' => e = .returned (.bool true) ∧ Below w.heap.size w w' := by
  have b0 : decide (300 < (l.length : Int)) = false := decide_eq_false (by omega)
  have b1 : decide (300 < (l2.length : Int)) = false := decide_eq_false (by omega)
  have b2 : decide (5000 < (d.size : Int)) = false := decide_eq_false (by omega)
  have b3 : decide (5000 < (text.size : Int)) = false := decide_eq_false (by omega)
  have HC := Aside0.mk hC
  have HCC := Aside0.mk hcc
  have HC2 := Aside0.mk hC2
  have HCC2 := Aside0.mk hcc2
  have HP := Aside0.mk hp
  have HPI := Aside0.mk hpi
  have HPB := Aside0.mk hpa
  have HKK := Aside0.mk hkk
  have HK1 := Aside0.mk hk1
  have HK2 := Aside0.mk hk2
  have HK3 := Aside0.mk hk3
  have HK4 := Aside0.mk hk4
  have HPT := Aside0.mk hpt
  have HPU := Aside0.mk hpu
  have HPI2 := Aside0.mk hpi2
  have HPJ := Aside0.mk hpj
  have HSS := Aside0.mk (Pure.stables_same l (by omega) a0 a1 n e0 rr m)
  have HS2 := Aside0.mk (Pure.same_same l2 (by omega) rn re r3 rm)
  clear hC hcc hC2 hcc2 hp hpi hpa h1 h2 h3 h4 hkk hk1 hk2 hk3 hk4 hpt hpu hpi2 hpj
  go_enter Try.func3, Try.ntmps3
  go_upto_if 56 with (first | (go_at_call 6; (with_reducible refine (consortlaw19_awake.calls true _ rfl).mono ?_); rintro e w1 ⟨rfl, hb⟩; have H1 := Aside0.mk ((LB.start w #[.int .u64 a0, .int .u32 a1, .int .u64 n, .int .u64 e0, .int .i64 rr, .int .u64 m, .slice A l.length c] #[.int .i64 k, .string d, .int .u32 inc, .int .u64 holds, .bool has, .bool dir, .int .u64 rn, .int .u64 re, .int .i64 r3, .int .u64 rm, .slice A2 l2.length c2, .int .u64 vn, .int .u64 ve, .int .i64 vr, .int .u64 vm, .int .u64 nb, .int .i64 ix, .int .i64 tt]).below hb); have s6 := cellAt (i := 6) H1.out.s_ rfl; have x10 := cellAt (i := 10) H1.out.x_ rfl; have x1 := cellAt (i := 1) H1.out.x_ rfl; have s0 := cellAt (i := 0) H1.out.s_ rfl; have s1 := cellAt (i := 1) H1.out.s_ rfl; have s2 := cellAt (i := 2) H1.out.s_ rfl; have s3 := cellAt (i := 3) H1.out.s_ rfl; have s4 := cellAt (i := 4) H1.out.s_ rfl; have s5 := cellAt (i := 5) H1.out.s_ rfl; clear hb) | (go_at_call 7; (with_reducible refine (log_Print.calls a0 a1 n e0 rr m A c l t e _ (H1.out.row HC.out) HCC.out HP.out).mono ?_); clear s0 s1 s2 s3 s4 s5 s6 x1 x10; rintro _ w2 ⟨rfl, hb⟩; have H2 := Aside0.mk (H1.out.below hb); clear hb))
  go_cut [57] from 50 to 71 (fun v57 wx => Aside0 (LB w wx #[.int .u64 a0, .int .u32 a1, .int .u64 n, .int .u64 e0, .int .i64 rr, .int .u64 m, .slice A l.length c] #[.int .i64 k, .string d, .int .u32 inc, .int .u64 holds, .bool has, .bool dir, .int .u64 rn, .int .u64 re, .int .i64 r3, .int .u64 rm, .slice A2 l2.length c2, .int .u64 vn, .int .u64 ve, .int .i64 vr, .int .u64 vm, .int .u64 nb, .int .i64 ix, .int .i64 tt]))
  case first =>
    by_cases he : e = 0
    · subst he
      have HPA := Aside0.mk (HPB.out rfl)
      go_wp2_with (first | (go_at_call 8; (with_reducible refine (log_Parse.calls t a0 a1 n e0 rr m l 0 _ HPA.out).mono ?_); rintro _ w3 ⟨v3, rfl, ho, hb⟩; obtain ⟨A7, c7, rfl⟩ := Kd.R_slice ho; have HR3 := Aside0.mk (Kd.R_reads' ho); have H3 := Aside0.mk (H2.out.below hb); clear ho hb) | ((with_reducible refine gate_store (t := 32) (p := 9) rfl ?_); refine store_row_event rfl (ty := 32) (p := 9) rfl rfl w3.heap.size #[.int .u64 a0, .int .u32 a1, .int .u64 n, .int .u64 e0, .int .i64 rr, .int .u64 m, .slice A7 l.length c7] rfl rfl 32 #[.int .u64 0, .int .u32 0, .int .u64 0, .int .u64 0, .int .i64 0, .int .u64 0, .slice none 0 0] (heap_alloc_new w3 _) (by kernel_rfl) rfl (by simp [Value.oneCell']) ?_; intro w4 h7; have HB4 := Aside0.mk (h7.bel w3 (below_alloc (Below.refl _ _) _) (Nat.le_refl _)); have H4 := Aside0.mk (H3.out.below HB4.out); have U4 := Aside0.mk h7.at_; have C4 := Aside0.mk (show Kd.C k27 w4 A7 l.length l from C27_keep HR3.out.2.2 HB4.out (KeepBut.refl _ w3.heap.size _) (Nat.le_refl _)); clear h7))
      refine start_ (n := 10) (S := fun w' : World => w'.heap[w3.heap.size]? = some (.cells #[.int .u64 a0, .int .u32 a1, .int .u64 n, .int .u64 e0, .int .i64 rr, .int .u64 m, .slice A7 l.length c7] 32 (0, 0)) ∧ w'.heap[w.heap.size]? = some (.cells #[.int .u64 a0, .int .u32 a1, .int .u64 n, .int .u64 e0, .int .i64 rr, .int .u64 m, .slice A l.length c] 32 (0, 0))) (ds := []) #[false, false, false, false, false, false, false, false, false, false] (by kernel_rfl) rfl rfl ⟨U4.out, H4.out.s_⟩ (fun hHeld => ?_)
      have H5 := Aside0.mk (H4.out.below (W1 := w4.drew) (below_drew (Below.refl _ _)))
      have C5 := Aside0.mk (show Kd.C k27 w4.drew A7 l.length l from C4.out)
      generalize w4.drew = wd at H5 C5 hHeld ⊢
      refine pure_ (i := 0) (N := some 62) (v := ?_) (a' := ?_) #[true, false, false, false, false, false, false, false, false, false] rfl rfl (by kernel_rfl) (fun _ _ _ h => h) (Or.inl ⟨by rfl, ?_⟩) ?_ ?_
      rotate_left
      · intro w'
        go_simp
        with_reducible rfl
      rotate_left
      · simp only [Act.put, List.setIfInBounds_toArray, List.set_cons_zero, List.set_cons_succ, i64_w, i32_w]
        rfl
      refine pure_ (i := 1) (N := some 63) (v := ?_) (a' := ?_) #[true, true, false, false, false, false, false, false, false, false] rfl rfl (by kernel_rfl) (fun _ _ _ h => h) (Or.inl ⟨by rfl, ?_⟩) ?_ ?_
      rotate_left
      · intro w'
        go_simp
        with_reducible rfl
      rotate_left
      · simp only [Act.put, List.setIfInBounds_toArray, List.set_cons_zero, List.set_cons_succ, i64_w, i32_w]
        rfl
      refine pure_ (i := 2) (N := some 64) (v := ?_) (a' := ?_) #[true, true, true, false, false, false, false, false, false, false] rfl rfl (by kernel_rfl) (fun _ _ _ h => h) (Or.inl ⟨by rfl, ?_⟩) ?_ ?_
      rotate_left
      · intro w'
        go_simp
        with_reducible rfl
      rotate_left
      · simp only [Act.put, List.setIfInBounds_toArray, List.set_cons_zero, List.set_cons_succ, i64_w, i32_w]
        rfl
      refine take_ (i := 3) (N := some 65) (v := ?_) (a' := ?_) #[true, true, true, true, false, false, false, false, false, false] rfl rfl (by kernel_rfl) (fun _ _ _ h => h) (Or.inl ⟨by rfl, ?_⟩) hHeld ?_ ?_
      rotate_left
      · rintro w' ⟨g9, g3⟩; have u0 := cellAt (i := 0) g9 rfl; have s0 := cellAt (i := 0) g3 rfl; have u1 := cellAt (i := 1) g9 rfl; have s1 := cellAt (i := 1) g3 rfl; have u2 := cellAt (i := 2) g9 rfl; have s2 := cellAt (i := 2) g3 rfl; have u3 := cellAt (i := 3) g9 rfl; have s3 := cellAt (i := 3) g3 rfl; have u4 := cellAt (i := 4) g9 rfl; have s4 := cellAt (i := 4) g3 rfl; have u5 := cellAt (i := 5) g9 rfl; have s5 := cellAt (i := 5) g3 rfl; have u6 := cellAt (i := 6) g9 rfl; have s6 := cellAt (i := 6) g3 rfl
        go_simp
        with_reducible rfl
      rotate_left
      · simp only [Act.put, List.setIfInBounds_toArray, List.set_cons_zero, List.set_cons_succ, i64_w, i32_w]
        rfl
      refine take_ (i := 5) (N := some 67) (v := ?_) (a' := ?_) #[true, true, true, true, false, true, false, false, false, false] rfl rfl (by kernel_rfl) (fun _ _ _ h => h) (Or.inl ⟨by rfl, ?_⟩) hHeld ?_ ?_
      rotate_left
      · rintro w' ⟨g9, g3⟩; have u0 := cellAt (i := 0) g9 rfl; have s0 := cellAt (i := 0) g3 rfl; have u1 := cellAt (i := 1) g9 rfl; have s1 := cellAt (i := 1) g3 rfl; have u2 := cellAt (i := 2) g9 rfl; have s2 := cellAt (i := 2) g3 rfl; have u3 := cellAt (i := 3) g9 rfl; have s3 := cellAt (i := 3) g3 rfl; have u4 := cellAt (i := 4) g9 rfl; have s4 := cellAt (i := 4) g3 rfl; have u5 := cellAt (i := 5) g9 rfl; have s5 := cellAt (i := 5) g3 rfl; have u6 := cellAt (i := 6) g9 rfl; have s6 := cellAt (i := 6) g3 rfl
        go_simp
        with_reducible rfl
      rotate_left
      · simp only [Act.put, List.setIfInBounds_toArray, List.set_cons_zero, List.set_cons_succ, i64_w, i32_w]
        rfl
      refine one_ (i := 4) (N := some 66) #[true, true, true, true, true, true, false, false, false, false] rfl rfl (by kernel_rfl) (by decide) (fun K hK => ?_)
      refine goes_ Try.func10 (by kernel_rfl) rfl #[.agg #[.int .u64 a0, .int .u32 a1, .int .u64 n, .int .u64 e0, .int .i64 rr, .int .u64 m, .slice A7 l.length c7]] (by rfl) rfl rfl (by (try simp only [List.map_toArray, List.map_cons, List.map_nil]); first | done | rfl) ?_
      with_reducible refine (stable_id a0 a1 n e0 rr m A7 l.length c7 wd).mono ?_
      rintro _ w5 ⟨rfl, hb⟩
      refine ⟨_, rfl, ?_⟩
      have H6 := Aside0.mk (H5.out.below hb)
      have C6 := Aside0.mk (show Kd.C k27 w5 A7 l.length l from C27_keep C5.out hb (KeepBut.refl _ wd.heap.size _) (Nat.le_refl _))
      have U6 := Aside0.mk (bk0 hHeld.1 hb)
      clear hb hHeld
      refine hK.out _ _ ⟨U6.out, H6.out.s_⟩ (fun hHeld => ?_)
      clear hK K
      refine norm_ (a' := ?_) ?_ ?_
      rotate_left
      · show Act.put _ (some 66) _ = _
        simp only [Act.put, List.setIfInBounds_toArray, List.set_cons_zero, List.set_cons_succ, i64_w, i32_w]
        rfl
      refine one_ (i := 6) (N := some 68) #[true, true, true, true, true, true, true, false, false, false] rfl rfl (by kernel_rfl) (by decide) (fun K hK => ?_)
      refine goes_ Try.func10 (by kernel_rfl) rfl #[.agg #[.int .u64 a0, .int .u32 a1, .int .u64 n, .int .u64 e0, .int .i64 rr, .int .u64 m, .slice A l.length c]] (by rfl) rfl rfl (by (try simp only [List.map_toArray, List.map_cons, List.map_nil]); first | done | rfl) ?_
      with_reducible refine (stable_id a0 a1 n e0 rr m A l.length c w5).mono ?_
      rintro _ w6 ⟨rfl, hb⟩
      refine ⟨_, rfl, ?_⟩
      have H7 := Aside0.mk (H6.out.below hb)
      have C7 := Aside0.mk (show Kd.C k27 w6 A7 l.length l from C27_keep C6.out hb (KeepBut.refl _ w5.heap.size _) (Nat.le_refl _))
      have U7 := Aside0.mk (bk0 hHeld.1 hb)
      clear hb hHeld
      refine hK.out _ _ ⟨U7.out, H7.out.s_⟩ (fun hHeld => ?_)
      clear hK K
      refine norm_ (a' := ?_) ?_ ?_
      rotate_left
      · show Act.put _ (some 68) _ = _
        simp only [Act.put, List.setIfInBounds_toArray, List.set_cons_zero, List.set_cons_succ, i64_w, i32_w]
        rfl
      refine one_ (i := 7) (N := some 69) #[true, true, true, true, true, true, true, true, false, false] rfl rfl (by kernel_rfl) (by decide) (fun K hK => ?_)
      refine goes_ Try.func9 (by kernel_rfl) rfl #[.agg #[.int .u64 a0, .int .u32 a1, .int .u64 n, .int .u64 e0, .int .i64 rr, .int .u64 m, .slice A7 l.length c7], .agg #[.int .u64 a0, .int .u32 a1, .int .u64 n, .int .u64 e0, .int .i64 rr, .int .u64 m, .slice A l.length c]] (by rfl) rfl rfl (by (try simp only [List.map_toArray, List.map_cons, List.map_nil]); first | done | rfl) ?_
      with_reducible refine (consortref19_Stables.calls 1002 a0 a1 n e0 rr m A7 c7 l a0 a1 n e0 rr m A c l true w6 C7.out HR3.out.2.1 (H7.out.row HC.out) HCC.out HSS.out).mono ?_
      rintro _ w7 ⟨rfl, hb⟩
      refine ⟨_, rfl, ?_⟩
      have H8 := Aside0.mk (H7.out.below hb)
      have U8 := Aside0.mk (bk0 hHeld.1 hb)
      clear hb hHeld
      refine hK.out _ _ ⟨U8.out, H8.out.s_⟩ (fun hHeld => ?_)
      clear hK K
      refine norm_ (a' := ?_) ?_ ?_
      rotate_left
      · show Act.put _ (some 69) _ = _
        simp only [Act.put, List.setIfInBounds_toArray, List.set_cons_zero, List.set_cons_succ, i64_w, i32_w]
        rfl
      refine pure_ (i := 8) (N := some 70) (v := ?_) (a' := ?_) #[true, true, true, true, true, true, true, true, true, false] rfl rfl (by kernel_rfl) (fun _ _ _ h => h) (Or.inl ⟨by rfl, ?_⟩) ?_ ?_
      rotate_left
      · intro w'
        go_simp
        with_reducible rfl
      rotate_left
      · simp only [Act.put, List.setIfInBounds_toArray, List.set_cons_zero, List.set_cons_succ, i64_w, i32_w]
        rfl
      refine pure_ (i := 9) (N := some 71) (v := ?_) (a' := ?_) #[true, true, true, true, true, true, true, true, true, true] rfl rfl (by kernel_rfl) (fun _ _ _ h => h) (Or.inl ⟨by rfl, ?_⟩) ?_ ?_
      rotate_left
      · intro w'
        go_simp
        with_reducible rfl
      rotate_left
      · simp only [Act.put, List.setIfInBounds_toArray, List.set_cons_zero, List.set_cons_succ, i64_w, i32_w]
        rfl
      refine done_ (by kernel_rfl) ?_
      go_wp2
      go_meet
      case rel => exact H8
    · have q : (e == 0) = false := beq_eq_false_iff_ne.mpr he
      clear he
      go_wp2
      go_meet
      case rel => exact H2
  case rest =>
    have HL := hcut
    go_upto_if 78 with (first | ((with_reducible refine gate_dst (N := 73) rfl ?_); refine load_event rfl (.tmp 4) 34 rfl rfl (load34 HL.out.x_) ?_) | (go_at_call 11; (with_reducible refine (log_PrintItem.calls k d inc holds has dir rn re r3 rm A2 c2 l2 vn ve vr vm nb ix tt t2 e2 _ (HL.out.row HC2.out) HCC2.out HPI.out).mono ?_); rintro _ w11 ⟨rfl, hb⟩; have H11 := Aside0.mk (HL.out.below hb); clear hb))
    go_cut [79] from 72 to 176 (fun v79 wx => Aside0 (LB w wx #[.int .u64 a0, .int .u32 a1, .int .u64 n, .int .u64 e0, .int .i64 rr, .int .u64 m, .slice A l.length c] #[.int .i64 k, .string d, .int .u32 inc, .int .u64 holds, .bool has, .bool dir, .int .u64 rn, .int .u64 re, .int .i64 r3, .int .u64 rm, .slice A2 l2.length c2, .int .u64 vn, .int .u64 ve, .int .i64 vr, .int .u64 vm, .int .u64 nb, .int .i64 ix, .int .i64 tt]))
    case first =>
      by_cases he : e2 = 0
      · subst he
        have hk := HKK.out
        obtain rfl | rfl | rfl | rfl : k = 1 ∨ k = 2 ∨ k = 3 ∨ k = 4 := by have := hk rfl; omega
        · obtain ⟨hq, hn⟩ := HK1.out rfl rfl
          have HQ := Aside0.mk hq
          have HN := Aside0.mk hn
          clear hq hn
          go_wp2_with (first | (go_at_call 12; (refine (log_ParseItem.calls t2 1 d 0 0 false false 0 0 0 0 ([] : List S27) 0 0 0 0 0 0 0 0 _ HQ.out).mono ?_); rintro _ w13 ⟨v13, rfl, ho, hb⟩; obtain ⟨A8, c8, rfl⟩ := Kd.R_slice ho; have HR13 := Aside0.mk (Kd.R_reads' ho); have H13 := Aside0.mk (H11.out.below hb); clear ho hb) | ((with_reducible refine gate_store (t := 34) (p := 13) rfl ?_); refine store_row_event rfl (ty := 34) (p := 13) rfl rfl w13.heap.size #[.int .i64 1, .string d, .int .u32 0, .int .u64 0, .bool false, .bool false, .int .u64 0, .int .u64 0, .int .i64 0, .int .u64 0, .slice A8 ([] : List S27).length c8, .int .u64 0, .int .u64 0, .int .i64 0, .int .u64 0, .int .u64 0, .int .i64 0, .int .i64 0] rfl rfl 34 #[.int .i64 0, .string ⟨#[]⟩, .int .u32 0, .int .u64 0, .bool false, .bool false, .int .u64 0, .int .u64 0, .int .i64 0, .int .u64 0, .slice none 0 0, .int .u64 0, .int .u64 0, .int .i64 0, .int .u64 0, .int .u64 0, .int .i64 0, .int .i64 0] (heap_alloc_new w13 _) (by kernel_rfl) rfl (by simp [Value.oneCell']) ?_; intro w14 h7; have HBx := Aside0.mk (h7.bel w13 (below_alloc (Below.refl _ _) _) (Nat.le_refl _)); have H14 := Aside0.mk (H13.out.below HBx.out); have Y14 := Aside0.mk h7.at_; have C14 := Aside0.mk (show Kd.C k27 w14 A8 ([] : List S27).length ([] : List S27) from C27_keep HR13.out.2.2 HBx.out (KeepBut.refl _ w13.heap.size _) (Nat.le_refl _)); clear h7 HBx) | ((with_reducible refine gate_dst (N := 85) rfl ?_); refine load_event rfl (.tmp 13) 34 rfl rfl (load34 Y14.out) ?_) | (go_at_call 11; (refine (log_PrintItem.calls 1 d 0 0 false false 0 0 0 0 A8 c8 ([] : List S27) 0 0 0 0 0 0 0 t2 0 _ C14.out HR13.out.2.1 HN.out).mono ?_); rintro _ w15 ⟨rfl, hb⟩; have H15 := Aside0.mk (H14.out.below hb); have Y15 := Aside0.mk (bk0 Y14.out hb); have C15 := Aside0.mk (show Kd.C k27 w15 A8 ([] : List S27).length ([] : List S27) from C27_keep C14.out hb (KeepBut.refl _ w14.heap.size _) (Nat.le_refl _)); have y0 := cellAt (i := 0) Y15.out rfl; have x0 := cellAt (i := 0) H15.out.x_ rfl; have y1 := cellAt (i := 1) Y15.out rfl; have x1 := cellAt (i := 1) H15.out.x_ rfl; clear hb))
          refine start_ (n := 41) (S := fun w' : World => w'.heap[w.heap.size + 1]? = some (.cells #[.int .i64 1, .string d, .int .u32 inc, .int .u64 holds, .bool has, .bool dir, .int .u64 rn, .int .u64 re, .int .i64 r3, .int .u64 rm, .slice A2 l2.length c2, .int .u64 vn, .int .u64 ve, .int .i64 vr, .int .u64 vm, .int .u64 nb, .int .i64 ix, .int .i64 tt] 34 (0, 0))) (ds := []) #[false, false, false, false, false, false, false, false, false, false, false, false, false, false, false, false, false, false, false, false, false, false, false, false, false, false, false, false, false, false, false, false, false, false, false, false, false, false, false, false, false] (by kernel_rfl) rfl rfl H15.out.x_ (fun hHeld => ?_)
          have H16 := Aside0.mk (H15.out.below (W1 := w15.drew) (below_drew (Below.refl _ _)))
          generalize w15.drew = wd at H16 hHeld ⊢
          refine pure_ (i := 0) (N := some 136) (v := ?_) (a' := ?_) #[true, false, false, false, false, false, false, false, false, false, false, false, false, false, false, false, false, false, false, false, false, false, false, false, false, false, false, false, false, false, false, false, false, false, false, false, false, false, false, false, false] rfl rfl (by kernel_rfl) (fun _ _ _ h => h) (Or.inl ⟨by rfl, ?_⟩) ?_ ?_
          rotate_left
          · intro w'
            go_simp
            with_reducible rfl
          rotate_left
          · simp only [Act.put, List.setIfInBounds_toArray, List.set_cons_zero, List.set_cons_succ, i64_w, i32_w]
            rfl
          refine take_ (i := 1) (N := some 137) (v := ?_) (a' := ?_) #[true, true, false, false, false, false, false, false, false, false, false, false, false, false, false, false, false, false, false, false, false, false, false, false, false, false, false, false, false, false, false, false, false, false, false, false, false, false, false, false, false] rfl rfl (by kernel_rfl) (fun _ _ _ h => h) (Or.inl ⟨by rfl, ?_⟩) hHeld ?_ ?_
          rotate_left
          · rintro w' g3; have s0 := cellAt (i := 0) g3 rfl
            go_simp
            with_reducible rfl
          rotate_left
          · simp only [Act.put, List.setIfInBounds_toArray, List.set_cons_zero, List.set_cons_succ, i64_w, i32_w]
            rfl
          refine pure_ (i := 2) (N := some 138) (v := ?_) (a' := ?_) #[true, true, true, false, false, false, false, false, false, false, false, false, false, false, false, false, false, false, false, false, false, false, false, false, false, false, false, false, false, false, false, false, false, false, false, false, false, false, false, false, false] rfl rfl (by kernel_rfl) (fun _ _ _ h => h) (Or.inl ⟨by rfl, ?_⟩) ?_ ?_
          rotate_left
          · intro w'
            go_simp
            with_reducible rfl
          rotate_left
          · simp only [Act.put, List.setIfInBounds_toArray, List.set_cons_zero, List.set_cons_succ, i64_w, i32_w]
            rfl
          refine pure_ (i := 3) (N := some 139) (v := ?_) (a' := ?_) #[true, true, true, true, false, false, false, false, false, false, false, false, false, false, false, false, false, false, false, false, false, false, false, false, false, false, false, false, false, false, false, false, false, false, false, false, false, false, false, false, false] rfl rfl (by kernel_rfl) (fun _ _ _ h => h) (Or.inl ⟨by rfl, ?_⟩) ?_ ?_
          rotate_left
          · intro w'
            go_simp
            with_reducible rfl
          rotate_left
          · simp only [Act.put, List.setIfInBounds_toArray, List.set_cons_zero, List.set_cons_succ, i64_w, i32_w]
            rfl
          refine pure_ (i := 4) (N := some 140) (v := undef) (a' := ?_) #[true, true, true, true, true, false, false, false, false, false, false, false, false, false, false, false, false, false, false, false, false, false, false, false, false, false, false, false, false, false, false, false, false, false, false, false, false, false, false, false, false] rfl rfl (by kernel_rfl) (fun _ _ _ h => h) (Or.inr ⟨by rfl, rfl⟩) ?_ ?_
          rotate_left
          · simp only [Act.put, List.setIfInBounds_toArray, List.set_cons_zero, List.set_cons_succ, i64_w, i32_w]
            rfl
          refine pure_ (i := 5) (N := some 141) (v := undef) (a' := ?_) #[true, true, true, true, true, true, false, false, false, false, false, false, false, false, false, false, false, false, false, false, false, false, false, false, false, false, false, false, false, false, false, false, false, false, false, false, false, false, false, false, false] rfl rfl (by kernel_rfl) (fun _ _ _ h => h) (Or.inr ⟨by rfl, rfl⟩) ?_ ?_
          rotate_left
          · simp only [Act.put, List.setIfInBounds_toArray, List.set_cons_zero, List.set_cons_succ, i64_w, i32_w]
            rfl
          refine pure_ (i := 6) (N := some 142) (v := undef) (a' := ?_) #[true, true, true, true, true, true, true, false, false, false, false, false, false, false, false, false, false, false, false, false, false, false, false, false, false, false, false, false, false, false, false, false, false, false, false, false, false, false, false, false, false] rfl rfl (by kernel_rfl) (fun _ _ _ h => h) (Or.inr ⟨by rfl, rfl⟩) ?_ ?_
          rotate_left
          · simp only [Act.put, List.setIfInBounds_toArray, List.set_cons_zero, List.set_cons_succ, i64_w, i32_w]
            rfl
          refine pure_ (i := 7) (N := some 143) (v := undef) (a' := ?_) #[true, true, true, true, true, true, true, true, false, false, false, false, false, false, false, false, false, false, false, false, false, false, false, false, false, false, false, false, false, false, false, false, false, false, false, false, false, false, false, false, false] rfl rfl (by kernel_rfl) (fun _ _ _ h => h) (Or.inr ⟨by rfl, rfl⟩) ?_ ?_
          rotate_left
          · simp only [Act.put, List.setIfInBounds_toArray, List.set_cons_zero, List.set_cons_succ, i64_w, i32_w]
            rfl
          refine pure_ (i := 8) (N := some 144) (v := undef) (a' := ?_) #[true, true, true, true, true, true, true, true, true, false, false, false, false, false, false, false, false, false, false, false, false, false, false, false, false, false, false, false, false, false, false, false, false, false, false, false, false, false, false, false, false] rfl rfl (by kernel_rfl) (fun _ _ _ h => h) (Or.inr ⟨by rfl, rfl⟩) ?_ ?_
          rotate_left
          · simp only [Act.put, List.setIfInBounds_toArray, List.set_cons_zero, List.set_cons_succ, i64_w, i32_w]
            rfl
          refine pure_ (i := 9) (N := some 145) (v := undef) (a' := ?_) #[true, true, true, true, true, true, true, true, true, true, false, false, false, false, false, false, false, false, false, false, false, false, false, false, false, false, false, false, false, false, false, false, false, false, false, false, false, false, false, false, false] rfl rfl (by kernel_rfl) (fun _ _ _ h => h) (Or.inr ⟨by rfl, rfl⟩) ?_ ?_
          rotate_left
          · simp only [Act.put, List.setIfInBounds_toArray, List.set_cons_zero, List.set_cons_succ, i64_w, i32_w]
            rfl
          refine pure_ (i := 10) (N := some 146) (v := undef) (a' := ?_) #[true, true, true, true, true, true, true, true, true, true, true, false, false, false, false, false, false, false, false, false, false, false, false, false, false, false, false, false, false, false, false, false, false, false, false, false, false, false, false, false, false] rfl rfl (by kernel_rfl) (fun _ _ _ h => h) (Or.inr ⟨by rfl, rfl⟩) ?_ ?_
          rotate_left
          · simp only [Act.put, List.setIfInBounds_toArray, List.set_cons_zero, List.set_cons_succ, i64_w, i32_w]
            rfl
          refine pure_ (i := 11) (N := some 147) (v := undef) (a' := ?_) #[true, true, true, true, true, true, true, true, true, true, true, true, false, false, false, false, false, false, false, false, false, false, false, false, false, false, false, false, false, false, false, false, false, false, false, false, false, false, false, false, false] rfl rfl (by kernel_rfl) (fun _ _ _ h => h) (Or.inr ⟨by rfl, rfl⟩) ?_ ?_
          rotate_left
          · simp only [Act.put, List.setIfInBounds_toArray, List.set_cons_zero, List.set_cons_succ, i64_w, i32_w]
            rfl
          refine pure_ (i := 12) (N := some 148) (v := undef) (a' := ?_) #[true, true, true, true, true, true, true, true, true, true, true, true, true, false, false, false, false, false, false, false, false, false, false, false, false, false, false, false, false, false, false, false, false, false, false, false, false, false, false, false, false] rfl rfl (by kernel_rfl) (fun _ _ _ h => h) (Or.inr ⟨by rfl, rfl⟩) ?_ ?_
          rotate_left
          · simp only [Act.put, List.setIfInBounds_toArray, List.set_cons_zero, List.set_cons_succ, i64_w, i32_w]
            rfl
          refine pure_ (i := 13) (N := some 149) (v := undef) (a' := ?_) #[true, true, true, true, true, true, true, true, true, true, true, true, true, true, false, false, false, false, false, false, false, false, false, false, false, false, false, false, false, false, false, false, false, false, false, false, false, false, false, false, false] rfl rfl (by kernel_rfl) (fun _ _ _ h => h) (Or.inr ⟨by rfl, rfl⟩) ?_ ?_
          rotate_left
          · simp only [Act.put, List.setIfInBounds_toArray, List.set_cons_zero, List.set_cons_succ, i64_w, i32_w]
            rfl
          refine pure_ (i := 14) (N := some 150) (v := undef) (a' := ?_) #[true, true, true, true, true, true, true, true, true, true, true, true, true, true, true, false, false, false, false, false, false, false, false, false, false, false, false, false, false, false, false, false, false, false, false, false, false, false, false, false, false] rfl rfl (by kernel_rfl) (fun _ _ _ h => h) (Or.inr ⟨by rfl, rfl⟩) ?_ ?_
          rotate_left
          · simp only [Act.put, List.setIfInBounds_toArray, List.set_cons_zero, List.set_cons_succ, i64_w, i32_w]
            rfl
          refine pure_ (i := 15) (N := some 151) (v := undef) (a' := ?_) #[true, true, true, true, true, true, true, true, true, true, true, true, true, true, true, true, false, false, false, false, false, false, false, false, false, false, false, false, false, false, false, false, false, false, false, false, false, false, false, false, false] rfl rfl (by kernel_rfl) (fun _ _ _ h => h) (Or.inr ⟨by rfl, rfl⟩) ?_ ?_
          rotate_left
          · simp only [Act.put, List.setIfInBounds_toArray, List.set_cons_zero, List.set_cons_succ, i64_w, i32_w]
            rfl
          refine pure_ (i := 16) (N := some 152) (v := undef) (a' := ?_) #[true, true, true, true, true, true, true, true, true, true, true, true, true, true, true, true, true, false, false, false, false, false, false, false, false, false, false, false, false, false, false, false, false, false, false, false, false, false, false, false, false] rfl rfl (by kernel_rfl) (fun _ _ _ h => h) (Or.inr ⟨by rfl, rfl⟩) ?_ ?_
          rotate_left
          · simp only [Act.put, List.setIfInBounds_toArray, List.set_cons_zero, List.set_cons_succ, i64_w, i32_w]
            rfl
          refine pure_ (i := 17) (N := some 153) (v := undef) (a' := ?_) #[true, true, true, true, true, true, true, true, true, true, true, true, true, true, true, true, true, true, false, false, false, false, false, false, false, false, false, false, false, false, false, false, false, false, false, false, false, false, false, false, false] rfl rfl (by kernel_rfl) (fun _ _ _ h => h) (Or.inr ⟨by rfl, rfl⟩) ?_ ?_
          rotate_left
          · simp only [Act.put, List.setIfInBounds_toArray, List.set_cons_zero, List.set_cons_succ, i64_w, i32_w]
            rfl
          refine pure_ (i := 18) (N := some 154) (v := undef) (a' := ?_) #[true, true, true, true, true, true, true, true, true, true, true, true, true, true, true, true, true, true, true, false, false, false, false, false, false, false, false, false, false, false, false, false, false, false, false, false, false, false, false, false, false] rfl rfl (by kernel_rfl) (fun _ _ _ h => h) (Or.inr ⟨by rfl, rfl⟩) ?_ ?_
          rotate_left
          · simp only [Act.put, List.setIfInBounds_toArray, List.set_cons_zero, List.set_cons_succ, i64_w, i32_w]
            rfl
          refine pure_ (i := 19) (N := some 155) (v := undef) (a' := ?_) #[true, true, true, true, true, true, true, true, true, true, true, true, true, true, true, true, true, true, true, true, false, false, false, false, false, false, false, false, false, false, false, false, false, false, false, false, false, false, false, false, false] rfl rfl (by kernel_rfl) (fun _ _ _ h => h) (Or.inr ⟨by rfl, rfl⟩) ?_ ?_
          rotate_left
          · simp only [Act.put, List.setIfInBounds_toArray, List.set_cons_zero, List.set_cons_succ, i64_w, i32_w]
            rfl
          refine pure_ (i := 20) (N := some 156) (v := undef) (a' := ?_) #[true, true, true, true, true, true, true, true, true, true, true, true, true, true, true, true, true, true, true, true, true, false, false, false, false, false, false, false, false, false, false, false, false, false, false, false, false, false, false, false, false] rfl rfl (by kernel_rfl) (fun _ _ _ h => h) (Or.inr ⟨by rfl, rfl⟩) ?_ ?_
          rotate_left
          · simp only [Act.put, List.setIfInBounds_toArray, List.set_cons_zero, List.set_cons_succ, i64_w, i32_w]
            rfl
          refine pure_ (i := 21) (N := some 157) (v := undef) (a' := ?_) #[true, true, true, true, true, true, true, true, true, true, true, true, true, true, true, true, true, true, true, true, true, true, false, false, false, false, false, false, false, false, false, false, false, false, false, false, false, false, false, false, false] rfl rfl (by kernel_rfl) (fun _ _ _ h => h) (Or.inr ⟨by rfl, rfl⟩) ?_ ?_
          rotate_left
          · simp only [Act.put, List.setIfInBounds_toArray, List.set_cons_zero, List.set_cons_succ, i64_w, i32_w]
            rfl
          refine pure_ (i := 22) (N := some 158) (v := undef) (a' := ?_) #[true, true, true, true, true, true, true, true, true, true, true, true, true, true, true, true, true, true, true, true, true, true, true, false, false, false, false, false, false, false, false, false, false, false, false, false, false, false, false, false, false] rfl rfl (by kernel_rfl) (fun _ _ _ h => h) (Or.inr ⟨by rfl, rfl⟩) ?_ ?_
          rotate_left
          · simp only [Act.put, List.setIfInBounds_toArray, List.set_cons_zero, List.set_cons_succ, i64_w, i32_w]
            rfl
          refine pure_ (i := 23) (N := some 159) (v := undef) (a' := ?_) #[true, true, true, true, true, true, true, true, true, true, true, true, true, true, true, true, true, true, true, true, true, true, true, true, false, false, false, false, false, false, false, false, false, false, false, false, false, false, false, false, false] rfl rfl (by kernel_rfl) (fun _ _ _ h => h) (Or.inr ⟨by rfl, rfl⟩) ?_ ?_
          rotate_left
          · simp only [Act.put, List.setIfInBounds_toArray, List.set_cons_zero, List.set_cons_succ, i64_w, i32_w]
            rfl
          refine pure_ (i := 24) (N := some 160) (v := undef) (a' := ?_) #[true, true, true, true, true, true, true, true, true, true, true, true, true, true, true, true, true, true, true, true, true, true, true, true, true, false, false, false, false, false, false, false, false, false, false, false, false, false, false, false, false] rfl rfl (by kernel_rfl) (fun _ _ _ h => h) (Or.inr ⟨by rfl, rfl⟩) ?_ ?_
          rotate_left
          · simp only [Act.put, List.setIfInBounds_toArray, List.set_cons_zero, List.set_cons_succ, i64_w, i32_w]
            rfl
          refine pure_ (i := 25) (N := some 161) (v := undef) (a' := ?_) #[true, true, true, true, true, true, true, true, true, true, true, true, true, true, true, true, true, true, true, true, true, true, true, true, true, true, false, false, false, false, false, false, false, false, false, false, false, false, false, false, false] rfl rfl (by kernel_rfl) (fun _ _ _ h => h) (Or.inr ⟨by rfl, rfl⟩) ?_ ?_
          rotate_left
          · simp only [Act.put, List.setIfInBounds_toArray, List.set_cons_zero, List.set_cons_succ, i64_w, i32_w]
            rfl
          refine pure_ (i := 26) (N := some 162) (v := undef) (a' := ?_) #[true, true, true, true, true, true, true, true, true, true, true, true, true, true, true, true, true, true, true, true, true, true, true, true, true, true, true, false, false, false, false, false, false, false, false, false, false, false, false, false, false] rfl rfl (by kernel_rfl) (fun _ _ _ h => h) (Or.inr ⟨by rfl, rfl⟩) ?_ ?_
          rotate_left
          · simp only [Act.put, List.setIfInBounds_toArray, List.set_cons_zero, List.set_cons_succ, i64_w, i32_w]
            rfl
          refine pure_ (i := 27) (N := some 163) (v := undef) (a' := ?_) #[true, true, true, true, true, true, true, true, true, true, true, true, true, true, true, true, true, true, true, true, true, true, true, true, true, true, true, true, false, false, false, false, false, false, false, false, false, false, false, false, false] rfl rfl (by kernel_rfl) (fun _ _ _ h => h) (Or.inr ⟨by rfl, rfl⟩) ?_ ?_
          rotate_left
          · simp only [Act.put, List.setIfInBounds_toArray, List.set_cons_zero, List.set_cons_succ, i64_w, i32_w]
            rfl
          refine pure_ (i := 28) (N := some 164) (v := undef) (a' := ?_) #[true, true, true, true, true, true, true, true, true, true, true, true, true, true, true, true, true, true, true, true, true, true, true, true, true, true, true, true, true, false, false, false, false, false, false, false, false, false, false, false, false] rfl rfl (by kernel_rfl) (fun _ _ _ h => h) (Or.inr ⟨by rfl, rfl⟩) ?_ ?_
          rotate_left
          · simp only [Act.put, List.setIfInBounds_toArray, List.set_cons_zero, List.set_cons_succ, i64_w, i32_w]
            rfl
          refine pure_ (i := 29) (N := some 165) (v := undef) (a' := ?_) #[true, true, true, true, true, true, true, true, true, true, true, true, true, true, true, true, true, true, true, true, true, true, true, true, true, true, true, true, true, true, false, false, false, false, false, false, false, false, false, false, false] rfl rfl (by kernel_rfl) (fun _ _ _ h => h) (Or.inr ⟨by rfl, rfl⟩) ?_ ?_
          rotate_left
          · simp only [Act.put, List.setIfInBounds_toArray, List.set_cons_zero, List.set_cons_succ, i64_w, i32_w]
            rfl
          refine pure_ (i := 30) (N := some 166) (v := undef) (a' := ?_) #[true, true, true, true, true, true, true, true, true, true, true, true, true, true, true, true, true, true, true, true, true, true, true, true, true, true, true, true, true, true, true, false, false, false, false, false, false, false, false, false, false] rfl rfl (by kernel_rfl) (fun _ _ _ h => h) (Or.inr ⟨by rfl, rfl⟩) ?_ ?_
          rotate_left
          · simp only [Act.put, List.setIfInBounds_toArray, List.set_cons_zero, List.set_cons_succ, i64_w, i32_w]
            rfl
          refine pure_ (i := 31) (N := some 167) (v := undef) (a' := ?_) #[true, true, true, true, true, true, true, true, true, true, true, true, true, true, true, true, true, true, true, true, true, true, true, true, true, true, true, true, true, true, true, true, false, false, false, false, false, false, false, false, false] rfl rfl (by kernel_rfl) (fun _ _ _ h => h) (Or.inr ⟨by rfl, rfl⟩) ?_ ?_
          rotate_left
          · simp only [Act.put, List.setIfInBounds_toArray, List.set_cons_zero, List.set_cons_succ, i64_w, i32_w]
            rfl
          refine pure_ (i := 32) (N := some 168) (v := undef) (a' := ?_) #[true, true, true, true, true, true, true, true, true, true, true, true, true, true, true, true, true, true, true, true, true, true, true, true, true, true, true, true, true, true, true, true, true, false, false, false, false, false, false, false, false] rfl rfl (by kernel_rfl) (fun _ _ _ h => h) (Or.inr ⟨by rfl, rfl⟩) ?_ ?_
          rotate_left
          · simp only [Act.put, List.setIfInBounds_toArray, List.set_cons_zero, List.set_cons_succ, i64_w, i32_w]
            rfl
          refine pure_ (i := 33) (N := some 169) (v := undef) (a' := ?_) #[true, true, true, true, true, true, true, true, true, true, true, true, true, true, true, true, true, true, true, true, true, true, true, true, true, true, true, true, true, true, true, true, true, true, false, false, false, false, false, false, false] rfl rfl (by kernel_rfl) (fun _ _ _ h => h) (Or.inr ⟨by rfl, rfl⟩) ?_ ?_
          rotate_left
          · simp only [Act.put, List.setIfInBounds_toArray, List.set_cons_zero, List.set_cons_succ, i64_w, i32_w]
            rfl
          refine pure_ (i := 34) (N := some 170) (v := undef) (a' := ?_) #[true, true, true, true, true, true, true, true, true, true, true, true, true, true, true, true, true, true, true, true, true, true, true, true, true, true, true, true, true, true, true, true, true, true, true, false, false, false, false, false, false] rfl rfl (by kernel_rfl) (fun _ _ _ h => h) (Or.inr ⟨by rfl, rfl⟩) ?_ ?_
          rotate_left
          · simp only [Act.put, List.setIfInBounds_toArray, List.set_cons_zero, List.set_cons_succ, i64_w, i32_w]
            rfl
          refine pure_ (i := 35) (N := some 171) (v := undef) (a' := ?_) #[true, true, true, true, true, true, true, true, true, true, true, true, true, true, true, true, true, true, true, true, true, true, true, true, true, true, true, true, true, true, true, true, true, true, true, true, false, false, false, false, false] rfl rfl (by kernel_rfl) (fun _ _ _ h => h) (Or.inr ⟨by rfl, rfl⟩) ?_ ?_
          rotate_left
          · simp only [Act.put, List.setIfInBounds_toArray, List.set_cons_zero, List.set_cons_succ, i64_w, i32_w]
            rfl
          refine pure_ (i := 36) (N := some 172) (v := undef) (a' := ?_) #[true, true, true, true, true, true, true, true, true, true, true, true, true, true, true, true, true, true, true, true, true, true, true, true, true, true, true, true, true, true, true, true, true, true, true, true, true, false, false, false, false] rfl rfl (by kernel_rfl) (fun _ _ _ h => h) (Or.inr ⟨by rfl, rfl⟩) ?_ ?_
          rotate_left
          · simp only [Act.put, List.setIfInBounds_toArray, List.set_cons_zero, List.set_cons_succ, i64_w, i32_w]
            rfl
          refine pure_ (i := 37) (N := some 173) (v := undef) (a' := ?_) #[true, true, true, true, true, true, true, true, true, true, true, true, true, true, true, true, true, true, true, true, true, true, true, true, true, true, true, true, true, true, true, true, true, true, true, true, true, true, false, false, false] rfl rfl (by kernel_rfl) (fun _ _ _ h => h) (Or.inr ⟨by rfl, rfl⟩) ?_ ?_
          rotate_left
          · simp only [Act.put, List.setIfInBounds_toArray, List.set_cons_zero, List.set_cons_succ, i64_w, i32_w]
            rfl
          refine pure_ (i := 38) (N := some 174) (v := undef) (a' := ?_) #[true, true, true, true, true, true, true, true, true, true, true, true, true, true, true, true, true, true, true, true, true, true, true, true, true, true, true, true, true, true, true, true, true, true, true, true, true, true, true, false, false] rfl rfl (by kernel_rfl) (fun _ _ _ h => h) (Or.inr ⟨by rfl, rfl⟩) ?_ ?_
          rotate_left
          · simp only [Act.put, List.setIfInBounds_toArray, List.set_cons_zero, List.set_cons_succ, i64_w, i32_w]
            rfl
          refine pure_ (i := 39) (N := some 175) (v := undef) (a' := ?_) #[true, true, true, true, true, true, true, true, true, true, true, true, true, true, true, true, true, true, true, true, true, true, true, true, true, true, true, true, true, true, true, true, true, true, true, true, true, true, true, true, false] rfl rfl (by kernel_rfl) (fun _ _ _ h => h) (Or.inr ⟨by rfl, rfl⟩) ?_ ?_
          rotate_left
          · simp only [Act.put, List.setIfInBounds_toArray, List.set_cons_zero, List.set_cons_succ, i64_w, i32_w]
            rfl
          refine pure_ (i := 40) (N := some 176) (v := ?_) (a' := ?_) #[true, true, true, true, true, true, true, true, true, true, true, true, true, true, true, true, true, true, true, true, true, true, true, true, true, true, true, true, true, true, true, true, true, true, true, true, true, true, true, true, true] rfl rfl (by kernel_rfl) (fun _ _ _ h => h) (Or.inl ⟨by rfl, ?_⟩) ?_ ?_
          rotate_left
          · intro w'
            go_simp
            with_reducible rfl
          rotate_left
          · simp only [Act.put, List.setIfInBounds_toArray, List.set_cons_zero, List.set_cons_succ, i64_w, i32_w]
            rfl
          refine done_ (by kernel_rfl) ?_
          go_wp2
          go_meet
          case rel => exact H16
        · obtain ⟨hq, hn⟩ := HK2.out rfl rfl
          have HQ := Aside0.mk hq
          have HN := Aside0.mk hn
          clear hq hn
          go_wp2_with (first | (go_at_call 12; (with_reducible refine (log_ParseItem.calls t2 2 ⟨#[]⟩ inc holds has dir rn re r3 rm l2 0 0 0 0 0 0 0 0 _ HQ.out).mono ?_); rintro _ w13 ⟨v13, rfl, ho, hb⟩; obtain ⟨A8, c8, rfl⟩ := Kd.R_slice ho; have HR13 := Aside0.mk (Kd.R_reads' ho); have H13 := Aside0.mk (H11.out.below hb); clear ho hb) | ((with_reducible refine gate_store (t := 34) (p := 13) rfl ?_); refine store_row_event rfl (ty := 34) (p := 13) rfl rfl w13.heap.size #[.int .i64 2, .string ⟨#[]⟩, .int .u32 inc, .int .u64 holds, .bool has, .bool dir, .int .u64 rn, .int .u64 re, .int .i64 r3, .int .u64 rm, .slice A8 l2.length c8, .int .u64 0, .int .u64 0, .int .i64 0, .int .u64 0, .int .u64 0, .int .i64 0, .int .i64 0] rfl rfl 34 #[.int .i64 0, .string ⟨#[]⟩, .int .u32 0, .int .u64 0, .bool false, .bool false, .int .u64 0, .int .u64 0, .int .i64 0, .int .u64 0, .slice none 0 0, .int .u64 0, .int .u64 0, .int .i64 0, .int .u64 0, .int .u64 0, .int .i64 0, .int .i64 0] (heap_alloc_new w13 _) (by kernel_rfl) rfl (by simp [Value.oneCell']) ?_; intro w14 h7; have HBx := Aside0.mk (h7.bel w13 (below_alloc (Below.refl _ _) _) (Nat.le_refl _)); have H14 := Aside0.mk (H13.out.below HBx.out); have Y14 := Aside0.mk h7.at_; have C14 := Aside0.mk (show Kd.C k27 w14 A8 l2.length l2 from C27_keep HR13.out.2.2 HBx.out (KeepBut.refl _ w13.heap.size _) (Nat.le_refl _)); clear h7 HBx) | ((with_reducible refine gate_dst (N := 85) rfl ?_); refine load_event rfl (.tmp 13) 34 rfl rfl (load34 Y14.out) ?_) | (go_at_call 11; (with_reducible refine (log_PrintItem.calls 2 ⟨#[]⟩ inc holds has dir rn re r3 rm A8 c8 l2 0 0 0 0 0 0 0 t2 0 _ C14.out HR13.out.2.1 HN.out).mono ?_); rintro _ w15 ⟨rfl, hb⟩; have H15 := Aside0.mk (H14.out.below hb); have Y15 := Aside0.mk (bk0 Y14.out hb); have C15 := Aside0.mk (show Kd.C k27 w15 A8 l2.length l2 from C27_keep C14.out hb (KeepBut.refl _ w14.heap.size _) (Nat.le_refl _)); have y0 := cellAt (i := 0) Y15.out rfl; have x0 := cellAt (i := 0) H15.out.x_ rfl; clear hb))
          refine start_ (n := 41) (S := fun w' : World => w'.heap[w13.heap.size]? = some (.cells #[.int .i64 2, .string ⟨#[]⟩, .int .u32 inc, .int .u64 holds, .bool has, .bool dir, .int .u64 rn, .int .u64 re, .int .i64 r3, .int .u64 rm, .slice A8 l2.length c8, .int .u64 0, .int .u64 0, .int .i64 0, .int .u64 0, .int .u64 0, .int .i64 0, .int .i64 0] 34 (0, 0)) ∧ w'.heap[w.heap.size + 1]? = some (.cells #[.int .i64 2, .string d, .int .u32 inc, .int .u64 holds, .bool has, .bool dir, .int .u64 rn, .int .u64 re, .int .i64 r3, .int .u64 rm, .slice A2 l2.length c2, .int .u64 vn, .int .u64 ve, .int .i64 vr, .int .u64 vm, .int .u64 nb, .int .i64 ix, .int .i64 tt] 34 (0, 0))) (ds := []) #[false, false, false, false, false, false, false, false, false, false, false, false, false, false, false, false, false, false, false, false, false, false, false, false, false, false, false, false, false, false, false, false, false, false, false, false, false, false, false, false, false] (by kernel_rfl) rfl rfl ⟨Y15.out, H15.out.x_⟩ (fun hHeld => ?_)
          have H16 := Aside0.mk (H15.out.below (W1 := w15.drew) (below_drew (Below.refl _ _)))
          have C16 := Aside0.mk (show Kd.C k27 w15.drew A8 l2.length l2 from C15.out)
          generalize w15.drew = wd at H16 C16 hHeld ⊢
          refine pure_ (i := 0) (N := some 136) (v := ?_) (a' := ?_) #[true, false, false, false, false, false, false, false, false, false, false, false, false, false, false, false, false, false, false, false, false, false, false, false, false, false, false, false, false, false, false, false, false, false, false, false, false, false, false, false, false] rfl rfl (by kernel_rfl) (fun _ _ _ h => h) (Or.inl ⟨by rfl, ?_⟩) ?_ ?_
          rotate_left
          · intro w'
            go_simp
            with_reducible rfl
          rotate_left
          · simp only [Act.put, List.setIfInBounds_toArray, List.set_cons_zero, List.set_cons_succ, i64_w, i32_w]
            rfl
          refine take_ (i := 1) (N := some 137) (v := ?_) (a' := ?_) #[true, true, false, false, false, false, false, false, false, false, false, false, false, false, false, false, false, false, false, false, false, false, false, false, false, false, false, false, false, false, false, false, false, false, false, false, false, false, false, false, false] rfl rfl (by kernel_rfl) (fun _ _ _ h => h) (Or.inl ⟨by rfl, ?_⟩) hHeld ?_ ?_
          rotate_left
          · rintro w' ⟨g9, g3⟩; have u0 := cellAt (i := 0) g9 rfl; have s0 := cellAt (i := 0) g3 rfl; have u2 := cellAt (i := 2) g9 rfl; have s2 := cellAt (i := 2) g3 rfl; have u3 := cellAt (i := 3) g9 rfl; have s3 := cellAt (i := 3) g3 rfl; have u4 := cellAt (i := 4) g9 rfl; have s4 := cellAt (i := 4) g3 rfl; have u5 := cellAt (i := 5) g9 rfl; have s5 := cellAt (i := 5) g3 rfl; have u6 := cellAt (i := 6) g9 rfl; have s6 := cellAt (i := 6) g3 rfl; have u7 := cellAt (i := 7) g9 rfl; have s7 := cellAt (i := 7) g3 rfl; have u8 := cellAt (i := 8) g9 rfl; have s8 := cellAt (i := 8) g3 rfl; have u9 := cellAt (i := 9) g9 rfl; have s9 := cellAt (i := 9) g3 rfl; have u10 := cellAt (i := 10) g9 rfl; have s10 := cellAt (i := 10) g3 rfl
            go_simp
            with_reducible rfl
          rotate_left
          · simp only [Act.put, List.setIfInBounds_toArray, List.set_cons_zero, List.set_cons_succ, i64_w, i32_w]
            rfl
          refine pure_ (i := 2) (N := some 138) (v := ?_) (a' := ?_) #[true, true, true, false, false, false, false, false, false, false, false, false, false, false, false, false, false, false, false, false, false, false, false, false, false, false, false, false, false, false, false, false, false, false, false, false, false, false, false, false, false] rfl rfl (by kernel_rfl) (fun _ _ _ h => h) (Or.inl ⟨by rfl, ?_⟩) ?_ ?_
          rotate_left
          · intro w'
            go_simp
            with_reducible rfl
          rotate_left
          · simp only [Act.put, List.setIfInBounds_toArray, List.set_cons_zero, List.set_cons_succ, i64_w, i32_w]
            rfl
          refine pure_ (i := 3) (N := some 139) (v := ?_) (a' := ?_) #[true, true, true, true, false, false, false, false, false, false, false, false, false, false, false, false, false, false, false, false, false, false, false, false, false, false, false, false, false, false, false, false, false, false, false, false, false, false, false, false, false] rfl rfl (by kernel_rfl) (fun _ _ _ h => h) (Or.inl ⟨by rfl, ?_⟩) ?_ ?_
          rotate_left
          · intro w'
            go_simp
            with_reducible rfl
          rotate_left
          · simp only [Act.put, List.setIfInBounds_toArray, List.set_cons_zero, List.set_cons_succ, i64_w, i32_w]
            rfl
          refine pure_ (i := 4) (N := some 140) (v := ?_) (a' := ?_) #[true, true, true, true, true, false, false, false, false, false, false, false, false, false, false, false, false, false, false, false, false, false, false, false, false, false, false, false, false, false, false, false, false, false, false, false, false, false, false, false, false] rfl rfl (by kernel_rfl) (fun _ _ _ h => h) (Or.inl ⟨by rfl, ?_⟩) ?_ ?_
          rotate_left
          · intro w'
            go_simp
            with_reducible rfl
          rotate_left
          · simp only [Act.put, List.setIfInBounds_toArray, List.set_cons_zero, List.set_cons_succ, i64_w, i32_w]
            rfl
          refine take_ (i := 5) (N := some 141) (v := ?_) (a' := ?_) #[true, true, true, true, true, true, false, false, false, false, false, false, false, false, false, false, false, false, false, false, false, false, false, false, false, false, false, false, false, false, false, false, false, false, false, false, false, false, false, false, false] rfl rfl (by kernel_rfl) (fun _ _ _ h => h) (Or.inl ⟨by rfl, ?_⟩) hHeld ?_ ?_
          rotate_left
          · rintro w' ⟨g9, g3⟩; have u0 := cellAt (i := 0) g9 rfl; have s0 := cellAt (i := 0) g3 rfl; have u2 := cellAt (i := 2) g9 rfl; have s2 := cellAt (i := 2) g3 rfl; have u3 := cellAt (i := 3) g9 rfl; have s3 := cellAt (i := 3) g3 rfl; have u4 := cellAt (i := 4) g9 rfl; have s4 := cellAt (i := 4) g3 rfl; have u5 := cellAt (i := 5) g9 rfl; have s5 := cellAt (i := 5) g3 rfl; have u6 := cellAt (i := 6) g9 rfl; have s6 := cellAt (i := 6) g3 rfl; have u7 := cellAt (i := 7) g9 rfl; have s7 := cellAt (i := 7) g3 rfl; have u8 := cellAt (i := 8) g9 rfl; have s8 := cellAt (i := 8) g3 rfl; have u9 := cellAt (i := 9) g9 rfl; have s9 := cellAt (i := 9) g3 rfl; have u10 := cellAt (i := 10) g9 rfl; have s10 := cellAt (i := 10) g3 rfl
            go_simp
            with_reducible rfl
          rotate_left
          · simp only [Act.put, List.setIfInBounds_toArray, List.set_cons_zero, List.set_cons_succ, i64_w, i32_w]
            rfl
          refine pure_ (i := 6) (N := some 142) (v := ?_) (a' := ?_) #[true, true, true, true, true, true, true, false, false, false, false, false, false, false, false, false, false, false, false, false, false, false, false, false, false, false, false, false, false, false, false, false, false, false, false, false, false, false, false, false, false] rfl rfl (by kernel_rfl) (fun _ _ _ h => h) (Or.inl ⟨by rfl, ?_⟩) ?_ ?_
          rotate_left
          · intro w'
            go_simp
            with_reducible rfl
          rotate_left
          · simp only [Act.put, List.setIfInBounds_toArray, List.set_cons_zero, List.set_cons_succ, i64_w, i32_w]
            rfl
          refine take_ (i := 7) (N := some 143) (v := ?_) (a' := ?_) #[true, true, true, true, true, true, true, true, false, false, false, false, false, false, false, false, false, false, false, false, false, false, false, false, false, false, false, false, false, false, false, false, false, false, false, false, false, false, false, false, false] rfl rfl (by kernel_rfl) (fun _ _ _ h => h) (Or.inl ⟨by rfl, ?_⟩) hHeld ?_ ?_
          rotate_left
          · rintro w' ⟨g9, g3⟩; have u0 := cellAt (i := 0) g9 rfl; have s0 := cellAt (i := 0) g3 rfl; have u2 := cellAt (i := 2) g9 rfl; have s2 := cellAt (i := 2) g3 rfl; have u3 := cellAt (i := 3) g9 rfl; have s3 := cellAt (i := 3) g3 rfl; have u4 := cellAt (i := 4) g9 rfl; have s4 := cellAt (i := 4) g3 rfl; have u5 := cellAt (i := 5) g9 rfl; have s5 := cellAt (i := 5) g3 rfl; have u6 := cellAt (i := 6) g9 rfl; have s6 := cellAt (i := 6) g3 rfl; have u7 := cellAt (i := 7) g9 rfl; have s7 := cellAt (i := 7) g3 rfl; have u8 := cellAt (i := 8) g9 rfl; have s8 := cellAt (i := 8) g3 rfl; have u9 := cellAt (i := 9) g9 rfl; have s9 := cellAt (i := 9) g3 rfl; have u10 := cellAt (i := 10) g9 rfl; have s10 := cellAt (i := 10) g3 rfl
            go_simp
            with_reducible rfl
          rotate_left
          · simp only [Act.put, List.setIfInBounds_toArray, List.set_cons_zero, List.set_cons_succ, i64_w, i32_w]
            rfl
          refine pure_ (i := 8) (N := some 144) (v := ?_) (a' := ?_) #[true, true, true, true, true, true, true, true, true, false, false, false, false, false, false, false, false, false, false, false, false, false, false, false, false, false, false, false, false, false, false, false, false, false, false, false, false, false, false, false, false] rfl rfl (by kernel_rfl) (fun _ _ _ h => h) (Or.inl ⟨by rfl, ?_⟩) ?_ ?_
          rotate_left
          · intro w'
            go_simp
            with_reducible rfl
          rotate_left
          · simp only [Act.put, List.setIfInBounds_toArray, List.set_cons_zero, List.set_cons_succ, i64_w, i32_w]
            rfl
          refine pure_ (i := 9) (N := some 145) (v := ?_) (a' := ?_) #[true, true, true, true, true, true, true, true, true, true, false, false, false, false, false, false, false, false, false, false, false, false, false, false, false, false, false, false, false, false, false, false, false, false, false, false, false, false, false, false, false] rfl rfl (by kernel_rfl) (fun _ _ _ h => h) (Or.inl ⟨by rfl, ?_⟩) ?_ ?_
          rotate_left
          · intro w'
            go_simp
            with_reducible rfl
          rotate_left
          · simp only [Act.put, List.setIfInBounds_toArray, List.set_cons_zero, List.set_cons_succ, i64_w, i32_w]
            rfl
          refine pure_ (i := 10) (N := some 146) (v := ?_) (a' := ?_) #[true, true, true, true, true, true, true, true, true, true, true, false, false, false, false, false, false, false, false, false, false, false, false, false, false, false, false, false, false, false, false, false, false, false, false, false, false, false, false, false, false] rfl rfl (by kernel_rfl) (fun _ _ _ h => h) (Or.inl ⟨by rfl, ?_⟩) ?_ ?_
          rotate_left
          · intro w'
            go_simp
            with_reducible rfl
          rotate_left
          · simp only [Act.put, List.setIfInBounds_toArray, List.set_cons_zero, List.set_cons_succ, i64_w, i32_w]
            rfl
          refine take_ (i := 11) (N := some 147) (v := ?_) (a' := ?_) #[true, true, true, true, true, true, true, true, true, true, true, true, false, false, false, false, false, false, false, false, false, false, false, false, false, false, false, false, false, false, false, false, false, false, false, false, false, false, false, false, false] rfl rfl (by kernel_rfl) (fun _ _ _ h => h) (Or.inl ⟨by rfl, ?_⟩) hHeld ?_ ?_
          rotate_left
          · rintro w' ⟨g9, g3⟩; have u0 := cellAt (i := 0) g9 rfl; have s0 := cellAt (i := 0) g3 rfl; have u2 := cellAt (i := 2) g9 rfl; have s2 := cellAt (i := 2) g3 rfl; have u3 := cellAt (i := 3) g9 rfl; have s3 := cellAt (i := 3) g3 rfl; have u4 := cellAt (i := 4) g9 rfl; have s4 := cellAt (i := 4) g3 rfl; have u5 := cellAt (i := 5) g9 rfl; have s5 := cellAt (i := 5) g3 rfl; have u6 := cellAt (i := 6) g9 rfl; have s6 := cellAt (i := 6) g3 rfl; have u7 := cellAt (i := 7) g9 rfl; have s7 := cellAt (i := 7) g3 rfl; have u8 := cellAt (i := 8) g9 rfl; have s8 := cellAt (i := 8) g3 rfl; have u9 := cellAt (i := 9) g9 rfl; have s9 := cellAt (i := 9) g3 rfl; have u10 := cellAt (i := 10) g9 rfl; have s10 := cellAt (i := 10) g3 rfl
            go_simp
            with_reducible rfl
          rotate_left
          · simp only [Act.put, List.setIfInBounds_toArray, List.set_cons_zero, List.set_cons_succ, i64_w, i32_w]
            rfl
          refine pure_ (i := 12) (N := some 148) (v := ?_) (a' := ?_) #[true, true, true, true, true, true, true, true, true, true, true, true, true, false, false, false, false, false, false, false, false, false, false, false, false, false, false, false, false, false, false, false, false, false, false, false, false, false, false, false, false] rfl rfl (by kernel_rfl) (fun _ _ _ h => h) (Or.inl ⟨by rfl, ?_⟩) ?_ ?_
          rotate_left
          · intro w'
            go_simp
            with_reducible rfl
          rotate_left
          · simp only [Act.put, List.setIfInBounds_toArray, List.set_cons_zero, List.set_cons_succ, i64_w, i32_w]
            rfl
          refine take_ (i := 13) (N := some 149) (v := ?_) (a' := ?_) #[true, true, true, true, true, true, true, true, true, true, true, true, true, true, false, false, false, false, false, false, false, false, false, false, false, false, false, false, false, false, false, false, false, false, false, false, false, false, false, false, false] rfl rfl (by kernel_rfl) (fun _ _ _ h => h) (Or.inl ⟨by rfl, ?_⟩) hHeld ?_ ?_
          rotate_left
          · rintro w' ⟨g9, g3⟩; have u0 := cellAt (i := 0) g9 rfl; have s0 := cellAt (i := 0) g3 rfl; have u2 := cellAt (i := 2) g9 rfl; have s2 := cellAt (i := 2) g3 rfl; have u3 := cellAt (i := 3) g9 rfl; have s3 := cellAt (i := 3) g3 rfl; have u4 := cellAt (i := 4) g9 rfl; have s4 := cellAt (i := 4) g3 rfl; have u5 := cellAt (i := 5) g9 rfl; have s5 := cellAt (i := 5) g3 rfl; have u6 := cellAt (i := 6) g9 rfl; have s6 := cellAt (i := 6) g3 rfl; have u7 := cellAt (i := 7) g9 rfl; have s7 := cellAt (i := 7) g3 rfl; have u8 := cellAt (i := 8) g9 rfl; have s8 := cellAt (i := 8) g3 rfl; have u9 := cellAt (i := 9) g9 rfl; have s9 := cellAt (i := 9) g3 rfl; have u10 := cellAt (i := 10) g9 rfl; have s10 := cellAt (i := 10) g3 rfl
            go_simp
            with_reducible rfl
          rotate_left
          · simp only [Act.put, List.setIfInBounds_toArray, List.set_cons_zero, List.set_cons_succ, i64_w, i32_w]
            rfl
          refine pure_ (i := 14) (N := some 150) (v := ?_) (a' := ?_) #[true, true, true, true, true, true, true, true, true, true, true, true, true, true, true, false, false, false, false, false, false, false, false, false, false, false, false, false, false, false, false, false, false, false, false, false, false, false, false, false, false] rfl rfl (by kernel_rfl) (fun _ _ _ h => h) (Or.inl ⟨by rfl, ?_⟩) ?_ ?_
          rotate_left
          · intro w'
            go_simp
            with_reducible rfl
          rotate_left
          · simp only [Act.put, List.setIfInBounds_toArray, List.set_cons_zero, List.set_cons_succ, i64_w, i32_w]
            rfl
          refine pure_ (i := 15) (N := some 151) (v := ?_) (a' := ?_) #[true, true, true, true, true, true, true, true, true, true, true, true, true, true, true, true, false, false, false, false, false, false, false, false, false, false, false, false, false, false, false, false, false, false, false, false, false, false, false, false, false] rfl rfl (by kernel_rfl) (fun _ _ _ h => h) (Or.inl ⟨by rfl, ?_⟩) ?_ ?_
          rotate_left
          · intro w'
            go_simp
            with_reducible rfl
          rotate_left
          · simp only [Act.put, List.setIfInBounds_toArray, List.set_cons_zero, List.set_cons_succ, i64_w, i32_w]
            rfl
          refine pure_ (i := 16) (N := some 152) (v := ?_) (a' := ?_) #[true, true, true, true, true, true, true, true, true, true, true, true, true, true, true, true, true, false, false, false, false, false, false, false, false, false, false, false, false, false, false, false, false, false, false, false, false, false, false, false, false] rfl rfl (by kernel_rfl) (fun _ _ _ h => h) (Or.inl ⟨by rfl, ?_⟩) ?_ ?_
          rotate_left
          · intro w'
            go_simp
            with_reducible rfl
          rotate_left
          · simp only [Act.put, List.setIfInBounds_toArray, List.set_cons_zero, List.set_cons_succ, i64_w, i32_w]
            rfl
          refine pure_ (i := 17) (N := some 153) (v := ?_) (a' := ?_) #[true, true, true, true, true, true, true, true, true, true, true, true, true, true, true, true, true, true, false, false, false, false, false, false, false, false, false, false, false, false, false, false, false, false, false, false, false, false, false, false, false] rfl rfl (by kernel_rfl) (fun _ _ _ h => h) (Or.inl ⟨by rfl, ?_⟩) ?_ ?_
          rotate_left
          · intro w'
            go_simp
            with_reducible rfl
          rotate_left
          · simp only [Act.put, List.setIfInBounds_toArray, List.set_cons_zero, List.set_cons_succ, i64_w, i32_w]
            rfl
          refine take_ (i := 18) (N := some 154) (v := ?_) (a' := ?_) #[true, true, true, true, true, true, true, true, true, true, true, true, true, true, true, true, true, true, true, false, false, false, false, false, false, false, false, false, false, false, false, false, false, false, false, false, false, false, false, false, false] rfl rfl (by kernel_rfl) (fun _ _ _ h => h) (Or.inl ⟨by rfl, ?_⟩) hHeld ?_ ?_
          rotate_left
          · rintro w' ⟨g9, g3⟩; have u0 := cellAt (i := 0) g9 rfl; have s0 := cellAt (i := 0) g3 rfl; have u2 := cellAt (i := 2) g9 rfl; have s2 := cellAt (i := 2) g3 rfl; have u3 := cellAt (i := 3) g9 rfl; have s3 := cellAt (i := 3) g3 rfl; have u4 := cellAt (i := 4) g9 rfl; have s4 := cellAt (i := 4) g3 rfl; have u5 := cellAt (i := 5) g9 rfl; have s5 := cellAt (i := 5) g3 rfl; have u6 := cellAt (i := 6) g9 rfl; have s6 := cellAt (i := 6) g3 rfl; have u7 := cellAt (i := 7) g9 rfl; have s7 := cellAt (i := 7) g3 rfl; have u8 := cellAt (i := 8) g9 rfl; have s8 := cellAt (i := 8) g3 rfl; have u9 := cellAt (i := 9) g9 rfl; have s9 := cellAt (i := 9) g3 rfl; have u10 := cellAt (i := 10) g9 rfl; have s10 := cellAt (i := 10) g3 rfl
            go_simp
            with_reducible rfl
          rotate_left
          · simp only [Act.put, List.setIfInBounds_toArray, List.set_cons_zero, List.set_cons_succ, i64_w, i32_w]
            rfl
          refine pure_ (i := 19) (N := some 155) (v := ?_) (a' := ?_) #[true, true, true, true, true, true, true, true, true, true, true, true, true, true, true, true, true, true, true, true, false, false, false, false, false, false, false, false, false, false, false, false, false, false, false, false, false, false, false, false, false] rfl rfl (by kernel_rfl) (fun _ _ _ h => h) (Or.inl ⟨by rfl, ?_⟩) ?_ ?_
          rotate_left
          · intro w'
            go_simp
            with_reducible rfl
          rotate_left
          · simp only [Act.put, List.setIfInBounds_toArray, List.set_cons_zero, List.set_cons_succ, i64_w, i32_w]
            rfl
          refine take_ (i := 20) (N := some 156) (v := ?_) (a' := ?_) #[true, true, true, true, true, true, true, true, true, true, true, true, true, true, true, true, true, true, true, true, true, false, false, false, false, false, false, false, false, false, false, false, false, false, false, false, false, false, false, false, false] rfl rfl (by kernel_rfl) (fun _ _ _ h => h) (Or.inl ⟨by rfl, ?_⟩) hHeld ?_ ?_
          rotate_left
          · rintro w' ⟨g9, g3⟩; have u0 := cellAt (i := 0) g9 rfl; have s0 := cellAt (i := 0) g3 rfl; have u2 := cellAt (i := 2) g9 rfl; have s2 := cellAt (i := 2) g3 rfl; have u3 := cellAt (i := 3) g9 rfl; have s3 := cellAt (i := 3) g3 rfl; have u4 := cellAt (i := 4) g9 rfl; have s4 := cellAt (i := 4) g3 rfl; have u5 := cellAt (i := 5) g9 rfl; have s5 := cellAt (i := 5) g3 rfl; have u6 := cellAt (i := 6) g9 rfl; have s6 := cellAt (i := 6) g3 rfl; have u7 := cellAt (i := 7) g9 rfl; have s7 := cellAt (i := 7) g3 rfl; have u8 := cellAt (i := 8) g9 rfl; have s8 := cellAt (i := 8) g3 rfl; have u9 := cellAt (i := 9) g9 rfl; have s9 := cellAt (i := 9) g3 rfl; have u10 := cellAt (i := 10) g9 rfl; have s10 := cellAt (i := 10) g3 rfl
            go_simp
            with_reducible rfl
          rotate_left
          · simp only [Act.put, List.setIfInBounds_toArray, List.set_cons_zero, List.set_cons_succ, i64_w, i32_w]
            rfl
          refine pure_ (i := 21) (N := some 157) (v := ?_) (a' := ?_) #[true, true, true, true, true, true, true, true, true, true, true, true, true, true, true, true, true, true, true, true, true, true, false, false, false, false, false, false, false, false, false, false, false, false, false, false, false, false, false, false, false] rfl rfl (by kernel_rfl) (fun _ _ _ h => h) (Or.inl ⟨by rfl, ?_⟩) ?_ ?_
          rotate_left
          · intro w'
            go_simp
            with_reducible rfl
          rotate_left
          · simp only [Act.put, List.setIfInBounds_toArray, List.set_cons_zero, List.set_cons_succ, i64_w, i32_w]
            rfl
          refine pure_ (i := 22) (N := some 158) (v := ?_) (a' := ?_) #[true, true, true, true, true, true, true, true, true, true, true, true, true, true, true, true, true, true, true, true, true, true, true, false, false, false, false, false, false, false, false, false, false, false, false, false, false, false, false, false, false] rfl rfl (by kernel_rfl) (fun _ _ _ h => h) (Or.inl ⟨by rfl, ?_⟩) ?_ ?_
          rotate_left
          · intro w'
            go_simp
            with_reducible rfl
          rotate_left
          · simp only [Act.put, List.setIfInBounds_toArray, List.set_cons_zero, List.set_cons_succ, i64_w, i32_w]
            rfl
          refine pure_ (i := 23) (N := some 159) (v := ?_) (a' := ?_) #[true, true, true, true, true, true, true, true, true, true, true, true, true, true, true, true, true, true, true, true, true, true, true, true, false, false, false, false, false, false, false, false, false, false, false, false, false, false, false, false, false] rfl rfl (by kernel_rfl) (fun _ _ _ h => h) (Or.inl ⟨by rfl, ?_⟩) ?_ ?_
          rotate_left
          · intro w'
            go_simp
            with_reducible rfl
          rotate_left
          · simp only [Act.put, List.setIfInBounds_toArray, List.set_cons_zero, List.set_cons_succ, i64_w, i32_w]
            rfl
          refine pure_ (i := 24) (N := some 160) (v := ?_) (a' := ?_) #[true, true, true, true, true, true, true, true, true, true, true, true, true, true, true, true, true, true, true, true, true, true, true, true, true, false, false, false, false, false, false, false, false, false, false, false, false, false, false, false, false] rfl rfl (by kernel_rfl) (fun _ _ _ h => h) (Or.inl ⟨by rfl, ?_⟩) ?_ ?_
          rotate_left
          · intro w'
            go_simp
            with_reducible rfl
          rotate_left
          · simp only [Act.put, List.setIfInBounds_toArray, List.set_cons_zero, List.set_cons_succ, i64_w, i32_w]
            rfl
          refine take_ (i := 25) (N := some 161) (v := ?_) (a' := ?_) #[true, true, true, true, true, true, true, true, true, true, true, true, true, true, true, true, true, true, true, true, true, true, true, true, true, true, false, false, false, false, false, false, false, false, false, false, false, false, false, false, false] rfl rfl (by kernel_rfl) (fun _ _ _ h => h) (Or.inl ⟨by rfl, ?_⟩) hHeld ?_ ?_
          rotate_left
          · rintro w' ⟨g9, g3⟩; have u0 := cellAt (i := 0) g9 rfl; have s0 := cellAt (i := 0) g3 rfl; have u2 := cellAt (i := 2) g9 rfl; have s2 := cellAt (i := 2) g3 rfl; have u3 := cellAt (i := 3) g9 rfl; have s3 := cellAt (i := 3) g3 rfl; have u4 := cellAt (i := 4) g9 rfl; have s4 := cellAt (i := 4) g3 rfl; have u5 := cellAt (i := 5) g9 rfl; have s5 := cellAt (i := 5) g3 rfl; have u6 := cellAt (i := 6) g9 rfl; have s6 := cellAt (i := 6) g3 rfl; have u7 := cellAt (i := 7) g9 rfl; have s7 := cellAt (i := 7) g3 rfl; have u8 := cellAt (i := 8) g9 rfl; have s8 := cellAt (i := 8) g3 rfl; have u9 := cellAt (i := 9) g9 rfl; have s9 := cellAt (i := 9) g3 rfl; have u10 := cellAt (i := 10) g9 rfl; have s10 := cellAt (i := 10) g3 rfl
            go_simp
            with_reducible rfl
          rotate_left
          · simp only [Act.put, List.setIfInBounds_toArray, List.set_cons_zero, List.set_cons_succ, i64_w, i32_w]
            rfl
          refine pure_ (i := 26) (N := some 162) (v := ?_) (a' := ?_) #[true, true, true, true, true, true, true, true, true, true, true, true, true, true, true, true, true, true, true, true, true, true, true, true, true, true, true, false, false, false, false, false, false, false, false, false, false, false, false, false, false] rfl rfl (by kernel_rfl) (fun _ _ _ h => h) (Or.inl ⟨by rfl, ?_⟩) ?_ ?_
          rotate_left
          · intro w'
            go_simp
            with_reducible rfl
          rotate_left
          · simp only [Act.put, List.setIfInBounds_toArray, List.set_cons_zero, List.set_cons_succ, i64_w, i32_w]
            rfl
          refine take_ (i := 27) (N := some 163) (v := ?_) (a' := ?_) #[true, true, true, true, true, true, true, true, true, true, true, true, true, true, true, true, true, true, true, true, true, true, true, true, true, true, true, true, false, false, false, false, false, false, false, false, false, false, false, false, false] rfl rfl (by kernel_rfl) (fun _ _ _ h => h) (Or.inl ⟨by rfl, ?_⟩) hHeld ?_ ?_
          rotate_left
          · rintro w' ⟨g9, g3⟩; have u0 := cellAt (i := 0) g9 rfl; have s0 := cellAt (i := 0) g3 rfl; have u2 := cellAt (i := 2) g9 rfl; have s2 := cellAt (i := 2) g3 rfl; have u3 := cellAt (i := 3) g9 rfl; have s3 := cellAt (i := 3) g3 rfl; have u4 := cellAt (i := 4) g9 rfl; have s4 := cellAt (i := 4) g3 rfl; have u5 := cellAt (i := 5) g9 rfl; have s5 := cellAt (i := 5) g3 rfl; have u6 := cellAt (i := 6) g9 rfl; have s6 := cellAt (i := 6) g3 rfl; have u7 := cellAt (i := 7) g9 rfl; have s7 := cellAt (i := 7) g3 rfl; have u8 := cellAt (i := 8) g9 rfl; have s8 := cellAt (i := 8) g3 rfl; have u9 := cellAt (i := 9) g9 rfl; have s9 := cellAt (i := 9) g3 rfl; have u10 := cellAt (i := 10) g9 rfl; have s10 := cellAt (i := 10) g3 rfl
            go_simp
            with_reducible rfl
          rotate_left
          · simp only [Act.put, List.setIfInBounds_toArray, List.set_cons_zero, List.set_cons_succ, i64_w, i32_w]
            rfl
          refine pure_ (i := 28) (N := some 164) (v := ?_) (a' := ?_) #[true, true, true, true, true, true, true, true, true, true, true, true, true, true, true, true, true, true, true, true, true, true, true, true, true, true, true, true, true, false, false, false, false, false, false, false, false, false, false, false, false] rfl rfl (by kernel_rfl) (fun _ _ _ h => h) (Or.inl ⟨by rfl, ?_⟩) ?_ ?_
          rotate_left
          · intro w'
            go_simp
            with_reducible rfl
          rotate_left
          · simp only [Act.put, List.setIfInBounds_toArray, List.set_cons_zero, List.set_cons_succ, i64_w, i32_w]
            rfl
          refine pure_ (i := 29) (N := some 165) (v := ?_) (a' := ?_) #[true, true, true, true, true, true, true, true, true, true, true, true, true, true, true, true, true, true, true, true, true, true, true, true, true, true, true, true, true, true, false, false, false, false, false, false, false, false, false, false, false] rfl rfl (by kernel_rfl) (fun _ _ _ h => h) (Or.inl ⟨by rfl, ?_⟩) ?_ ?_
          rotate_left
          · intro w'
            go_simp
            with_reducible rfl
          rotate_left
          · simp only [Act.put, List.setIfInBounds_toArray, List.set_cons_zero, List.set_cons_succ, i64_w, i32_w]
            rfl
          refine pure_ (i := 30) (N := some 166) (v := ?_) (a' := ?_) #[true, true, true, true, true, true, true, true, true, true, true, true, true, true, true, true, true, true, true, true, true, true, true, true, true, true, true, true, true, true, true, false, false, false, false, false, false, false, false, false, false] rfl rfl (by kernel_rfl) (fun _ _ _ h => h) (Or.inl ⟨by rfl, ?_⟩) ?_ ?_
          rotate_left
          · intro w'
            go_simp
            with_reducible rfl
          rotate_left
          · simp only [Act.put, List.setIfInBounds_toArray, List.set_cons_zero, List.set_cons_succ, i64_w, i32_w]
            rfl
          refine pure_ (i := 31) (N := some 167) (v := ?_) (a' := ?_) #[true, true, true, true, true, true, true, true, true, true, true, true, true, true, true, true, true, true, true, true, true, true, true, true, true, true, true, true, true, true, true, true, false, false, false, false, false, false, false, false, false] rfl rfl (by kernel_rfl) (fun _ _ _ h => h) (Or.inl ⟨by rfl, ?_⟩) ?_ ?_
          rotate_left
          · intro w'
            go_simp
            with_reducible rfl
          rotate_left
          · simp only [Act.put, List.setIfInBounds_toArray, List.set_cons_zero, List.set_cons_succ, i64_w, i32_w]
            rfl
          refine take_ (i := 32) (N := some 168) (v := ?_) (a' := ?_) #[true, true, true, true, true, true, true, true, true, true, true, true, true, true, true, true, true, true, true, true, true, true, true, true, true, true, true, true, true, true, true, true, true, false, false, false, false, false, false, false, false] rfl rfl (by kernel_rfl) (fun _ _ _ h => h) (Or.inl ⟨by rfl, ?_⟩) hHeld ?_ ?_
          rotate_left
          · rintro w' ⟨g9, g3⟩; have u0 := cellAt (i := 0) g9 rfl; have s0 := cellAt (i := 0) g3 rfl; have u2 := cellAt (i := 2) g9 rfl; have s2 := cellAt (i := 2) g3 rfl; have u3 := cellAt (i := 3) g9 rfl; have s3 := cellAt (i := 3) g3 rfl; have u4 := cellAt (i := 4) g9 rfl; have s4 := cellAt (i := 4) g3 rfl; have u5 := cellAt (i := 5) g9 rfl; have s5 := cellAt (i := 5) g3 rfl; have u6 := cellAt (i := 6) g9 rfl; have s6 := cellAt (i := 6) g3 rfl; have u7 := cellAt (i := 7) g9 rfl; have s7 := cellAt (i := 7) g3 rfl; have u8 := cellAt (i := 8) g9 rfl; have s8 := cellAt (i := 8) g3 rfl; have u9 := cellAt (i := 9) g9 rfl; have s9 := cellAt (i := 9) g3 rfl; have u10 := cellAt (i := 10) g9 rfl; have s10 := cellAt (i := 10) g3 rfl
            go_simp
            with_reducible rfl
          rotate_left
          · simp only [Act.put, List.setIfInBounds_toArray, List.set_cons_zero, List.set_cons_succ, i64_w, i32_w]
            rfl
          refine pure_ (i := 34) (N := some 170) (v := ?_) (a' := ?_) #[true, true, true, true, true, true, true, true, true, true, true, true, true, true, true, true, true, true, true, true, true, true, true, true, true, true, true, true, true, true, true, true, true, false, true, false, false, false, false, false, false] rfl rfl (by kernel_rfl) (fun _ _ _ h => h) (Or.inl ⟨by rfl, ?_⟩) ?_ ?_
          rotate_left
          · intro w'
            go_simp
            with_reducible rfl
          rotate_left
          · simp only [Act.put, List.setIfInBounds_toArray, List.set_cons_zero, List.set_cons_succ, i64_w, i32_w]
            rfl
          refine take_ (i := 35) (N := some 171) (v := ?_) (a' := ?_) #[true, true, true, true, true, true, true, true, true, true, true, true, true, true, true, true, true, true, true, true, true, true, true, true, true, true, true, true, true, true, true, true, true, false, true, true, false, false, false, false, false] rfl rfl (by kernel_rfl) (fun _ _ _ h => h) (Or.inl ⟨by rfl, ?_⟩) hHeld ?_ ?_
          rotate_left
          · rintro w' ⟨g9, g3⟩; have u0 := cellAt (i := 0) g9 rfl; have s0 := cellAt (i := 0) g3 rfl; have u2 := cellAt (i := 2) g9 rfl; have s2 := cellAt (i := 2) g3 rfl; have u3 := cellAt (i := 3) g9 rfl; have s3 := cellAt (i := 3) g3 rfl; have u4 := cellAt (i := 4) g9 rfl; have s4 := cellAt (i := 4) g3 rfl; have u5 := cellAt (i := 5) g9 rfl; have s5 := cellAt (i := 5) g3 rfl; have u6 := cellAt (i := 6) g9 rfl; have s6 := cellAt (i := 6) g3 rfl; have u7 := cellAt (i := 7) g9 rfl; have s7 := cellAt (i := 7) g3 rfl; have u8 := cellAt (i := 8) g9 rfl; have s8 := cellAt (i := 8) g3 rfl; have u9 := cellAt (i := 9) g9 rfl; have s9 := cellAt (i := 9) g3 rfl; have u10 := cellAt (i := 10) g9 rfl; have s10 := cellAt (i := 10) g3 rfl
            go_simp
            with_reducible rfl
          rotate_left
          · simp only [Act.put, List.setIfInBounds_toArray, List.set_cons_zero, List.set_cons_succ, i64_w, i32_w]
            rfl
          refine one_ (i := 33) (N := some 169) #[true, true, true, true, true, true, true, true, true, true, true, true, true, true, true, true, true, true, true, true, true, true, true, true, true, true, true, true, true, true, true, true, true, true, true, true, false, false, false, false, false] rfl rfl (by kernel_rfl) (by decide) (fun K hK => ?_)
          refine goes_ Try.func14 (by kernel_rfl) rfl #[.agg #[.int .u64 rn, .int .u64 re, .int .i64 r3, .int .u64 rm, .slice A8 l2.length c8]] (by rfl) rfl rfl (by (try simp only [List.map_toArray, List.map_cons, List.map_nil]); first | done | rfl) ?_
          with_reducible refine (rec_id rn re r3 rm A8 l2.length c8 wd).mono ?_
          rintro _ w17 ⟨rfl, hb⟩
          refine ⟨_, rfl, ?_⟩
          have H17 := Aside0.mk (H16.out.below hb)
          have C17 := Aside0.mk (show Kd.C k27 w17 A8 l2.length l2 from C27_keep C16.out hb (KeepBut.refl _ wd.heap.size _) (Nat.le_refl _))
          have UH17 := Aside0.mk (bk0 hHeld.1 hb)
          clear hb hHeld
          refine hK.out _ _ ⟨UH17.out, H17.out.x_⟩ (fun hHeld => ?_)
          clear hK K
          refine norm_ (a' := ?_) ?_ ?_
          rotate_left
          · show Act.put _ (some 169) _ = _
            simp only [Act.put, List.setIfInBounds_toArray, List.set_cons_zero, List.set_cons_succ, i64_w, i32_w]
            rfl
          refine one_ (i := 36) (N := some 172) #[true, true, true, true, true, true, true, true, true, true, true, true, true, true, true, true, true, true, true, true, true, true, true, true, true, true, true, true, true, true, true, true, true, true, true, true, true, false, false, false, false] rfl rfl (by kernel_rfl) (by decide) (fun K hK => ?_)
          refine goes_ Try.func14 (by kernel_rfl) rfl #[.agg #[.int .u64 rn, .int .u64 re, .int .i64 r3, .int .u64 rm, .slice A2 l2.length c2]] (by rfl) rfl rfl (by (try simp only [List.map_toArray, List.map_cons, List.map_nil]); first | done | rfl) ?_
          with_reducible refine (rec_id rn re r3 rm A2 l2.length c2 w17).mono ?_
          rintro _ w18 ⟨rfl, hb⟩
          refine ⟨_, rfl, ?_⟩
          have H18 := Aside0.mk (H17.out.below hb)
          have C18 := Aside0.mk (show Kd.C k27 w18 A8 l2.length l2 from C27_keep C17.out hb (KeepBut.refl _ w17.heap.size _) (Nat.le_refl _))
          have UH18 := Aside0.mk (bk0 hHeld.1 hb)
          clear hb hHeld
          refine hK.out _ _ ⟨UH18.out, H18.out.x_⟩ (fun hHeld => ?_)
          clear hK K
          refine norm_ (a' := ?_) ?_ ?_
          rotate_left
          · show Act.put _ (some 172) _ = _
            simp only [Act.put, List.setIfInBounds_toArray, List.set_cons_zero, List.set_cons_succ, i64_w, i32_w]
            rfl
          refine one_ (i := 37) (N := some 173) #[true, true, true, true, true, true, true, true, true, true, true, true, true, true, true, true, true, true, true, true, true, true, true, true, true, true, true, true, true, true, true, true, true, true, true, true, true, true, false, false, false] rfl rfl (by kernel_rfl) (by decide) (fun K hK => ?_)
          refine goes_ Try.func13 (by kernel_rfl) rfl #[.agg #[.int .u64 rn, .int .u64 re, .int .i64 r3, .int .u64 rm, .slice A8 l2.length c8], .agg #[.int .u64 rn, .int .u64 re, .int .i64 r3, .int .u64 rm, .slice A2 l2.length c2]] (by rfl) rfl rfl (by (try simp only [List.map_toArray, List.map_cons, List.map_nil]); first | done | rfl) ?_
          with_reducible refine (consortref18_Same.calls 1002 rn re r3 rm A8 c8 l2 rn re r3 rm A2 c2 l2 true w18 C18.out HR13.out.2.1 (H18.out.row HC2.out) HCC2.out HS2.out).mono ?_
          rintro _ w19 ⟨rfl, hb⟩
          refine ⟨_, rfl, ?_⟩
          have H19 := Aside0.mk (H18.out.below hb)
          have C19 := Aside0.mk (show Kd.C k27 w19 A8 l2.length l2 from C27_keep C18.out hb (KeepBut.refl _ w18.heap.size _) (Nat.le_refl _))
          have UH19 := Aside0.mk (bk0 hHeld.1 hb)
          clear hb hHeld
          refine hK.out _ _ ⟨UH19.out, H19.out.x_⟩ (fun hHeld => ?_)
          clear hK K
          refine norm_ (a' := ?_) ?_ ?_
          rotate_left
          · show Act.put _ (some 173) _ = _
            simp only [Act.put, List.setIfInBounds_toArray, List.set_cons_zero, List.set_cons_succ, i64_w, i32_w]
            rfl
          refine pure_ (i := 38) (N := some 174) (v := ?_) (a' := ?_) #[true, true, true, true, true, true, true, true, true, true, true, true, true, true, true, true, true, true, true, true, true, true, true, true, true, true, true, true, true, true, true, true, true, true, true, true, true, true, true, false, false] rfl rfl (by kernel_rfl) (fun _ _ _ h => h) (Or.inl ⟨by rfl, ?_⟩) ?_ ?_
          rotate_left
          · intro w'
            go_simp
            with_reducible rfl
          rotate_left
          · simp only [Act.put, List.setIfInBounds_toArray, List.set_cons_zero, List.set_cons_succ, i64_w, i32_w]
            rfl
          refine pure_ (i := 39) (N := some 175) (v := ?_) (a' := ?_) #[true, true, true, true, true, true, true, true, true, true, true, true, true, true, true, true, true, true, true, true, true, true, true, true, true, true, true, true, true, true, true, true, true, true, true, true, true, true, true, true, false] rfl rfl (by kernel_rfl) (fun _ _ _ h => h) (Or.inl ⟨by rfl, ?_⟩) ?_ ?_
          rotate_left
          · intro w'
            go_simp
            with_reducible rfl
          rotate_left
          · simp only [Act.put, List.setIfInBounds_toArray, List.set_cons_zero, List.set_cons_succ, i64_w, i32_w]
            rfl
          refine pure_ (i := 40) (N := some 176) (v := ?_) (a' := ?_) #[true, true, true, true, true, true, true, true, true, true, true, true, true, true, true, true, true, true, true, true, true, true, true, true, true, true, true, true, true, true, true, true, true, true, true, true, true, true, true, true, true] rfl rfl (by kernel_rfl) (fun _ _ _ h => h) (Or.inl ⟨by rfl, ?_⟩) ?_ ?_
          rotate_left
          · intro w'
            go_simp
            with_reducible rfl
          rotate_left
          · simp only [Act.put, List.setIfInBounds_toArray, List.set_cons_zero, List.set_cons_succ, i64_w, i32_w]
            rfl
          refine done_ (by kernel_rfl) ?_
          go_wp2
          go_meet
          case rel => exact H19
        · obtain ⟨hq, hn⟩ := HK3.out rfl rfl
          have HQ := Aside0.mk hq
          have HN := Aside0.mk hn
          clear hq hn
          go_wp2_with (first | (go_at_call 12; (refine (log_ParseItem.calls t2 3 ⟨#[]⟩ 0 0 false false 0 0 0 0 ([] : List S27) vn ve vr vm 0 0 0 0 _ HQ.out).mono ?_); rintro _ w13 ⟨v13, rfl, ho, hb⟩; obtain ⟨A8, c8, rfl⟩ := Kd.R_slice ho; have HR13 := Aside0.mk (Kd.R_reads' ho); have H13 := Aside0.mk (H11.out.below hb); clear ho hb) | ((with_reducible refine gate_store (t := 34) (p := 13) rfl ?_); refine store_row_event rfl (ty := 34) (p := 13) rfl rfl w13.heap.size #[.int .i64 3, .string ⟨#[]⟩, .int .u32 0, .int .u64 0, .bool false, .bool false, .int .u64 0, .int .u64 0, .int .i64 0, .int .u64 0, .slice A8 ([] : List S27).length c8, .int .u64 vn, .int .u64 ve, .int .i64 vr, .int .u64 vm, .int .u64 0, .int .i64 0, .int .i64 0] rfl rfl 34 #[.int .i64 0, .string ⟨#[]⟩, .int .u32 0, .int .u64 0, .bool false, .bool false, .int .u64 0, .int .u64 0, .int .i64 0, .int .u64 0, .slice none 0 0, .int .u64 0, .int .u64 0, .int .i64 0, .int .u64 0, .int .u64 0, .int .i64 0, .int .i64 0] (heap_alloc_new w13 _) (by kernel_rfl) rfl (by simp [Value.oneCell']) ?_; intro w14 h7; have HBx := Aside0.mk (h7.bel w13 (below_alloc (Below.refl _ _) _) (Nat.le_refl _)); have H14 := Aside0.mk (H13.out.below HBx.out); have Y14 := Aside0.mk h7.at_; have C14 := Aside0.mk (show Kd.C k27 w14 A8 ([] : List S27).length ([] : List S27) from C27_keep HR13.out.2.2 HBx.out (KeepBut.refl _ w13.heap.size _) (Nat.le_refl _)); clear h7 HBx) | ((with_reducible refine gate_dst (N := 85) rfl ?_); refine load_event rfl (.tmp 13) 34 rfl rfl (load34 Y14.out) ?_) | (go_at_call 11; (refine (log_PrintItem.calls 3 ⟨#[]⟩ 0 0 false false 0 0 0 0 A8 c8 ([] : List S27) vn ve vr vm 0 0 0 t2 0 _ C14.out HR13.out.2.1 HN.out).mono ?_); rintro _ w15 ⟨rfl, hb⟩; have H15 := Aside0.mk (H14.out.below hb); have Y15 := Aside0.mk (bk0 Y14.out hb); have C15 := Aside0.mk (show Kd.C k27 w15 A8 ([] : List S27).length ([] : List S27) from C27_keep C14.out hb (KeepBut.refl _ w14.heap.size _) (Nat.le_refl _)); have y0 := cellAt (i := 0) Y15.out rfl; have x0 := cellAt (i := 0) H15.out.x_ rfl; have y11 := cellAt (i := 11) Y15.out rfl; have x11 := cellAt (i := 11) H15.out.x_ rfl; have y12 := cellAt (i := 12) Y15.out rfl; have x12 := cellAt (i := 12) H15.out.x_ rfl; have y13 := cellAt (i := 13) Y15.out rfl; have x13 := cellAt (i := 13) H15.out.x_ rfl; have y14 := cellAt (i := 14) Y15.out rfl; have x14 := cellAt (i := 14) H15.out.x_ rfl; clear hb))
          refine start_ (n := 41) (S := fun w' : World => w'.heap[w.heap.size + 1]? = some (.cells #[.int .i64 3, .string d, .int .u32 inc, .int .u64 holds, .bool has, .bool dir, .int .u64 rn, .int .u64 re, .int .i64 r3, .int .u64 rm, .slice A2 l2.length c2, .int .u64 vn, .int .u64 ve, .int .i64 vr, .int .u64 vm, .int .u64 nb, .int .i64 ix, .int .i64 tt] 34 (0, 0))) (ds := []) #[false, false, false, false, false, false, false, false, false, false, false, false, false, false, false, false, false, false, false, false, false, false, false, false, false, false, false, false, false, false, false, false, false, false, false, false, false, false, false, false, false] (by kernel_rfl) rfl rfl H15.out.x_ (fun hHeld => ?_)
          have H16 := Aside0.mk (H15.out.below (W1 := w15.drew) (below_drew (Below.refl _ _)))
          generalize w15.drew = wd at H16 hHeld ⊢
          refine pure_ (i := 0) (N := some 136) (v := ?_) (a' := ?_) #[true, false, false, false, false, false, false, false, false, false, false, false, false, false, false, false, false, false, false, false, false, false, false, false, false, false, false, false, false, false, false, false, false, false, false, false, false, false, false, false, false] rfl rfl (by kernel_rfl) (fun _ _ _ h => h) (Or.inl ⟨by rfl, ?_⟩) ?_ ?_
          rotate_left
          · intro w'
            go_simp
            with_reducible rfl
          rotate_left
          · simp only [Act.put, List.setIfInBounds_toArray, List.set_cons_zero, List.set_cons_succ, i64_w, i32_w]
            rfl
          refine take_ (i := 1) (N := some 137) (v := ?_) (a' := ?_) #[true, true, false, false, false, false, false, false, false, false, false, false, false, false, false, false, false, false, false, false, false, false, false, false, false, false, false, false, false, false, false, false, false, false, false, false, false, false, false, false, false] rfl rfl (by kernel_rfl) (fun _ _ _ h => h) (Or.inl ⟨by rfl, ?_⟩) hHeld ?_ ?_
          rotate_left
          · rintro w' g3; have s0 := cellAt (i := 0) g3 rfl
            go_simp
            with_reducible rfl
          rotate_left
          · simp only [Act.put, List.setIfInBounds_toArray, List.set_cons_zero, List.set_cons_succ, i64_w, i32_w]
            rfl
          refine pure_ (i := 2) (N := some 138) (v := ?_) (a' := ?_) #[true, true, true, false, false, false, false, false, false, false, false, false, false, false, false, false, false, false, false, false, false, false, false, false, false, false, false, false, false, false, false, false, false, false, false, false, false, false, false, false, false] rfl rfl (by kernel_rfl) (fun _ _ _ h => h) (Or.inl ⟨by rfl, ?_⟩) ?_ ?_
          rotate_left
          · intro w'
            go_simp
            with_reducible rfl
          rotate_left
          · simp only [Act.put, List.setIfInBounds_toArray, List.set_cons_zero, List.set_cons_succ, i64_w, i32_w]
            rfl
          refine pure_ (i := 3) (N := some 139) (v := ?_) (a' := ?_) #[true, true, true, true, false, false, false, false, false, false, false, false, false, false, false, false, false, false, false, false, false, false, false, false, false, false, false, false, false, false, false, false, false, false, false, false, false, false, false, false, false] rfl rfl (by kernel_rfl) (fun _ _ _ h => h) (Or.inl ⟨by rfl, ?_⟩) ?_ ?_
          rotate_left
          · intro w'
            go_simp
            with_reducible rfl
          rotate_left
          · simp only [Act.put, List.setIfInBounds_toArray, List.set_cons_zero, List.set_cons_succ, i64_w, i32_w]
            rfl
          refine pure_ (i := 4) (N := some 140) (v := undef) (a' := ?_) #[true, true, true, true, true, false, false, false, false, false, false, false, false, false, false, false, false, false, false, false, false, false, false, false, false, false, false, false, false, false, false, false, false, false, false, false, false, false, false, false, false] rfl rfl (by kernel_rfl) (fun _ _ _ h => h) (Or.inr ⟨by rfl, rfl⟩) ?_ ?_
          rotate_left
          · simp only [Act.put, List.setIfInBounds_toArray, List.set_cons_zero, List.set_cons_succ, i64_w, i32_w]
            rfl
          refine pure_ (i := 5) (N := some 141) (v := undef) (a' := ?_) #[true, true, true, true, true, true, false, false, false, false, false, false, false, false, false, false, false, false, false, false, false, false, false, false, false, false, false, false, false, false, false, false, false, false, false, false, false, false, false, false, false] rfl rfl (by kernel_rfl) (fun _ _ _ h => h) (Or.inr ⟨by rfl, rfl⟩) ?_ ?_
          rotate_left
          · simp only [Act.put, List.setIfInBounds_toArray, List.set_cons_zero, List.set_cons_succ, i64_w, i32_w]
            rfl
          refine pure_ (i := 6) (N := some 142) (v := undef) (a' := ?_) #[true, true, true, true, true, true, true, false, false, false, false, false, false, false, false, false, false, false, false, false, false, false, false, false, false, false, false, false, false, false, false, false, false, false, false, false, false, false, false, false, false] rfl rfl (by kernel_rfl) (fun _ _ _ h => h) (Or.inr ⟨by rfl, rfl⟩) ?_ ?_
          rotate_left
          · simp only [Act.put, List.setIfInBounds_toArray, List.set_cons_zero, List.set_cons_succ, i64_w, i32_w]
            rfl
          refine pure_ (i := 7) (N := some 143) (v := undef) (a' := ?_) #[true, true, true, true, true, true, true, true, false, false, false, false, false, false, false, false, false, false, false, false, false, false, false, false, false, false, false, false, false, false, false, false, false, false, false, false, false, false, false, false, false] rfl rfl (by kernel_rfl) (fun _ _ _ h => h) (Or.inr ⟨by rfl, rfl⟩) ?_ ?_
          rotate_left
          · simp only [Act.put, List.setIfInBounds_toArray, List.set_cons_zero, List.set_cons_succ, i64_w, i32_w]
            rfl
          refine pure_ (i := 8) (N := some 144) (v := undef) (a' := ?_) #[true, true, true, true, true, true, true, true, true, false, false, false, false, false, false, false, false, false, false, false, false, false, false, false, false, false, false, false, false, false, false, false, false, false, false, false, false, false, false, false, false] rfl rfl (by kernel_rfl) (fun _ _ _ h => h) (Or.inr ⟨by rfl, rfl⟩) ?_ ?_
          rotate_left
          · simp only [Act.put, List.setIfInBounds_toArray, List.set_cons_zero, List.set_cons_succ, i64_w, i32_w]
            rfl
          refine pure_ (i := 9) (N := some 145) (v := undef) (a' := ?_) #[true, true, true, true, true, true, true, true, true, true, false, false, false, false, false, false, false, false, false, false, false, false, false, false, false, false, false, false, false, false, false, false, false, false, false, false, false, false, false, false, false] rfl rfl (by kernel_rfl) (fun _ _ _ h => h) (Or.inr ⟨by rfl, rfl⟩) ?_ ?_
          rotate_left
          · simp only [Act.put, List.setIfInBounds_toArray, List.set_cons_zero, List.set_cons_succ, i64_w, i32_w]
            rfl
          refine pure_ (i := 10) (N := some 146) (v := undef) (a' := ?_) #[true, true, true, true, true, true, true, true, true, true, true, false, false, false, false, false, false, false, false, false, false, false, false, false, false, false, false, false, false, false, false, false, false, false, false, false, false, false, false, false, false] rfl rfl (by kernel_rfl) (fun _ _ _ h => h) (Or.inr ⟨by rfl, rfl⟩) ?_ ?_
          rotate_left
          · simp only [Act.put, List.setIfInBounds_toArray, List.set_cons_zero, List.set_cons_succ, i64_w, i32_w]
            rfl
          refine pure_ (i := 11) (N := some 147) (v := undef) (a' := ?_) #[true, true, true, true, true, true, true, true, true, true, true, true, false, false, false, false, false, false, false, false, false, false, false, false, false, false, false, false, false, false, false, false, false, false, false, false, false, false, false, false, false] rfl rfl (by kernel_rfl) (fun _ _ _ h => h) (Or.inr ⟨by rfl, rfl⟩) ?_ ?_
          rotate_left
          · simp only [Act.put, List.setIfInBounds_toArray, List.set_cons_zero, List.set_cons_succ, i64_w, i32_w]
            rfl
          refine pure_ (i := 12) (N := some 148) (v := undef) (a' := ?_) #[true, true, true, true, true, true, true, true, true, true, true, true, true, false, false, false, false, false, false, false, false, false, false, false, false, false, false, false, false, false, false, false, false, false, false, false, false, false, false, false, false] rfl rfl (by kernel_rfl) (fun _ _ _ h => h) (Or.inr ⟨by rfl, rfl⟩) ?_ ?_
          rotate_left
          · simp only [Act.put, List.setIfInBounds_toArray, List.set_cons_zero, List.set_cons_succ, i64_w, i32_w]
            rfl
          refine pure_ (i := 13) (N := some 149) (v := undef) (a' := ?_) #[true, true, true, true, true, true, true, true, true, true, true, true, true, true, false, false, false, false, false, false, false, false, false, false, false, false, false, false, false, false, false, false, false, false, false, false, false, false, false, false, false] rfl rfl (by kernel_rfl) (fun _ _ _ h => h) (Or.inr ⟨by rfl, rfl⟩) ?_ ?_
          rotate_left
          · simp only [Act.put, List.setIfInBounds_toArray, List.set_cons_zero, List.set_cons_succ, i64_w, i32_w]
            rfl
          refine pure_ (i := 14) (N := some 150) (v := undef) (a' := ?_) #[true, true, true, true, true, true, true, true, true, true, true, true, true, true, true, false, false, false, false, false, false, false, false, false, false, false, false, false, false, false, false, false, false, false, false, false, false, false, false, false, false] rfl rfl (by kernel_rfl) (fun _ _ _ h => h) (Or.inr ⟨by rfl, rfl⟩) ?_ ?_
          rotate_left
          · simp only [Act.put, List.setIfInBounds_toArray, List.set_cons_zero, List.set_cons_succ, i64_w, i32_w]
            rfl
          refine pure_ (i := 15) (N := some 151) (v := undef) (a' := ?_) #[true, true, true, true, true, true, true, true, true, true, true, true, true, true, true, true, false, false, false, false, false, false, false, false, false, false, false, false, false, false, false, false, false, false, false, false, false, false, false, false, false] rfl rfl (by kernel_rfl) (fun _ _ _ h => h) (Or.inr ⟨by rfl, rfl⟩) ?_ ?_
          rotate_left
          · simp only [Act.put, List.setIfInBounds_toArray, List.set_cons_zero, List.set_cons_succ, i64_w, i32_w]
            rfl
          refine pure_ (i := 16) (N := some 152) (v := undef) (a' := ?_) #[true, true, true, true, true, true, true, true, true, true, true, true, true, true, true, true, true, false, false, false, false, false, false, false, false, false, false, false, false, false, false, false, false, false, false, false, false, false, false, false, false] rfl rfl (by kernel_rfl) (fun _ _ _ h => h) (Or.inr ⟨by rfl, rfl⟩) ?_ ?_
          rotate_left
          · simp only [Act.put, List.setIfInBounds_toArray, List.set_cons_zero, List.set_cons_succ, i64_w, i32_w]
            rfl
          refine pure_ (i := 17) (N := some 153) (v := undef) (a' := ?_) #[true, true, true, true, true, true, true, true, true, true, true, true, true, true, true, true, true, true, false, false, false, false, false, false, false, false, false, false, false, false, false, false, false, false, false, false, false, false, false, false, false] rfl rfl (by kernel_rfl) (fun _ _ _ h => h) (Or.inr ⟨by rfl, rfl⟩) ?_ ?_
          rotate_left
          · simp only [Act.put, List.setIfInBounds_toArray, List.set_cons_zero, List.set_cons_succ, i64_w, i32_w]
            rfl
          refine pure_ (i := 18) (N := some 154) (v := undef) (a' := ?_) #[true, true, true, true, true, true, true, true, true, true, true, true, true, true, true, true, true, true, true, false, false, false, false, false, false, false, false, false, false, false, false, false, false, false, false, false, false, false, false, false, false] rfl rfl (by kernel_rfl) (fun _ _ _ h => h) (Or.inr ⟨by rfl, rfl⟩) ?_ ?_
          rotate_left
          · simp only [Act.put, List.setIfInBounds_toArray, List.set_cons_zero, List.set_cons_succ, i64_w, i32_w]
            rfl
          refine pure_ (i := 19) (N := some 155) (v := undef) (a' := ?_) #[true, true, true, true, true, true, true, true, true, true, true, true, true, true, true, true, true, true, true, true, false, false, false, false, false, false, false, false, false, false, false, false, false, false, false, false, false, false, false, false, false] rfl rfl (by kernel_rfl) (fun _ _ _ h => h) (Or.inr ⟨by rfl, rfl⟩) ?_ ?_
          rotate_left
          · simp only [Act.put, List.setIfInBounds_toArray, List.set_cons_zero, List.set_cons_succ, i64_w, i32_w]
            rfl
          refine pure_ (i := 20) (N := some 156) (v := undef) (a' := ?_) #[true, true, true, true, true, true, true, true, true, true, true, true, true, true, true, true, true, true, true, true, true, false, false, false, false, false, false, false, false, false, false, false, false, false, false, false, false, false, false, false, false] rfl rfl (by kernel_rfl) (fun _ _ _ h => h) (Or.inr ⟨by rfl, rfl⟩) ?_ ?_
          rotate_left
          · simp only [Act.put, List.setIfInBounds_toArray, List.set_cons_zero, List.set_cons_succ, i64_w, i32_w]
            rfl
          refine pure_ (i := 21) (N := some 157) (v := undef) (a' := ?_) #[true, true, true, true, true, true, true, true, true, true, true, true, true, true, true, true, true, true, true, true, true, true, false, false, false, false, false, false, false, false, false, false, false, false, false, false, false, false, false, false, false] rfl rfl (by kernel_rfl) (fun _ _ _ h => h) (Or.inr ⟨by rfl, rfl⟩) ?_ ?_
          rotate_left
          · simp only [Act.put, List.setIfInBounds_toArray, List.set_cons_zero, List.set_cons_succ, i64_w, i32_w]
            rfl
          refine pure_ (i := 22) (N := some 158) (v := undef) (a' := ?_) #[true, true, true, true, true, true, true, true, true, true, true, true, true, true, true, true, true, true, true, true, true, true, true, false, false, false, false, false, false, false, false, false, false, false, false, false, false, false, false, false, false] rfl rfl (by kernel_rfl) (fun _ _ _ h => h) (Or.inr ⟨by rfl, rfl⟩) ?_ ?_
          rotate_left
          · simp only [Act.put, List.setIfInBounds_toArray, List.set_cons_zero, List.set_cons_succ, i64_w, i32_w]
            rfl
          refine pure_ (i := 23) (N := some 159) (v := undef) (a' := ?_) #[true, true, true, true, true, true, true, true, true, true, true, true, true, true, true, true, true, true, true, true, true, true, true, true, false, false, false, false, false, false, false, false, false, false, false, false, false, false, false, false, false] rfl rfl (by kernel_rfl) (fun _ _ _ h => h) (Or.inr ⟨by rfl, rfl⟩) ?_ ?_
          rotate_left
          · simp only [Act.put, List.setIfInBounds_toArray, List.set_cons_zero, List.set_cons_succ, i64_w, i32_w]
            rfl
          refine pure_ (i := 24) (N := some 160) (v := undef) (a' := ?_) #[true, true, true, true, true, true, true, true, true, true, true, true, true, true, true, true, true, true, true, true, true, true, true, true, true, false, false, false, false, false, false, false, false, false, false, false, false, false, false, false, false] rfl rfl (by kernel_rfl) (fun _ _ _ h => h) (Or.inr ⟨by rfl, rfl⟩) ?_ ?_
          rotate_left
          · simp only [Act.put, List.setIfInBounds_toArray, List.set_cons_zero, List.set_cons_succ, i64_w, i32_w]
            rfl
          refine pure_ (i := 25) (N := some 161) (v := undef) (a' := ?_) #[true, true, true, true, true, true, true, true, true, true, true, true, true, true, true, true, true, true, true, true, true, true, true, true, true, true, false, false, false, false, false, false, false, false, false, false, false, false, false, false, false] rfl rfl (by kernel_rfl) (fun _ _ _ h => h) (Or.inr ⟨by rfl, rfl⟩) ?_ ?_
          rotate_left
          · simp only [Act.put, List.setIfInBounds_toArray, List.set_cons_zero, List.set_cons_succ, i64_w, i32_w]
            rfl
          refine pure_ (i := 26) (N := some 162) (v := undef) (a' := ?_) #[true, true, true, true, true, true, true, true, true, true, true, true, true, true, true, true, true, true, true, true, true, true, true, true, true, true, true, false, false, false, false, false, false, false, false, false, false, false, false, false, false] rfl rfl (by kernel_rfl) (fun _ _ _ h => h) (Or.inr ⟨by rfl, rfl⟩) ?_ ?_
          rotate_left
          · simp only [Act.put, List.setIfInBounds_toArray, List.set_cons_zero, List.set_cons_succ, i64_w, i32_w]
            rfl
          refine pure_ (i := 27) (N := some 163) (v := undef) (a' := ?_) #[true, true, true, true, true, true, true, true, true, true, true, true, true, true, true, true, true, true, true, true, true, true, true, true, true, true, true, true, false, false, false, false, false, false, false, false, false, false, false, false, false] rfl rfl (by kernel_rfl) (fun _ _ _ h => h) (Or.inr ⟨by rfl, rfl⟩) ?_ ?_
          rotate_left
          · simp only [Act.put, List.setIfInBounds_toArray, List.set_cons_zero, List.set_cons_succ, i64_w, i32_w]
            rfl
          refine pure_ (i := 28) (N := some 164) (v := undef) (a' := ?_) #[true, true, true, true, true, true, true, true, true, true, true, true, true, true, true, true, true, true, true, true, true, true, true, true, true, true, true, true, true, false, false, false, false, false, false, false, false, false, false, false, false] rfl rfl (by kernel_rfl) (fun _ _ _ h => h) (Or.inr ⟨by rfl, rfl⟩) ?_ ?_
          rotate_left
          · simp only [Act.put, List.setIfInBounds_toArray, List.set_cons_zero, List.set_cons_succ, i64_w, i32_w]
            rfl
          refine pure_ (i := 29) (N := some 165) (v := undef) (a' := ?_) #[true, true, true, true, true, true, true, true, true, true, true, true, true, true, true, true, true, true, true, true, true, true, true, true, true, true, true, true, true, true, false, false, false, false, false, false, false, false, false, false, false] rfl rfl (by kernel_rfl) (fun _ _ _ h => h) (Or.inr ⟨by rfl, rfl⟩) ?_ ?_
          rotate_left
          · simp only [Act.put, List.setIfInBounds_toArray, List.set_cons_zero, List.set_cons_succ, i64_w, i32_w]
            rfl
          refine pure_ (i := 30) (N := some 166) (v := undef) (a' := ?_) #[true, true, true, true, true, true, true, true, true, true, true, true, true, true, true, true, true, true, true, true, true, true, true, true, true, true, true, true, true, true, true, false, false, false, false, false, false, false, false, false, false] rfl rfl (by kernel_rfl) (fun _ _ _ h => h) (Or.inr ⟨by rfl, rfl⟩) ?_ ?_
          rotate_left
          · simp only [Act.put, List.setIfInBounds_toArray, List.set_cons_zero, List.set_cons_succ, i64_w, i32_w]
            rfl
          refine pure_ (i := 31) (N := some 167) (v := undef) (a' := ?_) #[true, true, true, true, true, true, true, true, true, true, true, true, true, true, true, true, true, true, true, true, true, true, true, true, true, true, true, true, true, true, true, true, false, false, false, false, false, false, false, false, false] rfl rfl (by kernel_rfl) (fun _ _ _ h => h) (Or.inr ⟨by rfl, rfl⟩) ?_ ?_
          rotate_left
          · simp only [Act.put, List.setIfInBounds_toArray, List.set_cons_zero, List.set_cons_succ, i64_w, i32_w]
            rfl
          refine pure_ (i := 32) (N := some 168) (v := undef) (a' := ?_) #[true, true, true, true, true, true, true, true, true, true, true, true, true, true, true, true, true, true, true, true, true, true, true, true, true, true, true, true, true, true, true, true, true, false, false, false, false, false, false, false, false] rfl rfl (by kernel_rfl) (fun _ _ _ h => h) (Or.inr ⟨by rfl, rfl⟩) ?_ ?_
          rotate_left
          · simp only [Act.put, List.setIfInBounds_toArray, List.set_cons_zero, List.set_cons_succ, i64_w, i32_w]
            rfl
          refine pure_ (i := 33) (N := some 169) (v := undef) (a' := ?_) #[true, true, true, true, true, true, true, true, true, true, true, true, true, true, true, true, true, true, true, true, true, true, true, true, true, true, true, true, true, true, true, true, true, true, false, false, false, false, false, false, false] rfl rfl (by kernel_rfl) (fun _ _ _ h => h) (Or.inr ⟨by rfl, rfl⟩) ?_ ?_
          rotate_left
          · simp only [Act.put, List.setIfInBounds_toArray, List.set_cons_zero, List.set_cons_succ, i64_w, i32_w]
            rfl
          refine pure_ (i := 34) (N := some 170) (v := undef) (a' := ?_) #[true, true, true, true, true, true, true, true, true, true, true, true, true, true, true, true, true, true, true, true, true, true, true, true, true, true, true, true, true, true, true, true, true, true, true, false, false, false, false, false, false] rfl rfl (by kernel_rfl) (fun _ _ _ h => h) (Or.inr ⟨by rfl, rfl⟩) ?_ ?_
          rotate_left
          · simp only [Act.put, List.setIfInBounds_toArray, List.set_cons_zero, List.set_cons_succ, i64_w, i32_w]
            rfl
          refine pure_ (i := 35) (N := some 171) (v := undef) (a' := ?_) #[true, true, true, true, true, true, true, true, true, true, true, true, true, true, true, true, true, true, true, true, true, true, true, true, true, true, true, true, true, true, true, true, true, true, true, true, false, false, false, false, false] rfl rfl (by kernel_rfl) (fun _ _ _ h => h) (Or.inr ⟨by rfl, rfl⟩) ?_ ?_
          rotate_left
          · simp only [Act.put, List.setIfInBounds_toArray, List.set_cons_zero, List.set_cons_succ, i64_w, i32_w]
            rfl
          refine pure_ (i := 36) (N := some 172) (v := undef) (a' := ?_) #[true, true, true, true, true, true, true, true, true, true, true, true, true, true, true, true, true, true, true, true, true, true, true, true, true, true, true, true, true, true, true, true, true, true, true, true, true, false, false, false, false] rfl rfl (by kernel_rfl) (fun _ _ _ h => h) (Or.inr ⟨by rfl, rfl⟩) ?_ ?_
          rotate_left
          · simp only [Act.put, List.setIfInBounds_toArray, List.set_cons_zero, List.set_cons_succ, i64_w, i32_w]
            rfl
          refine pure_ (i := 37) (N := some 173) (v := undef) (a' := ?_) #[true, true, true, true, true, true, true, true, true, true, true, true, true, true, true, true, true, true, true, true, true, true, true, true, true, true, true, true, true, true, true, true, true, true, true, true, true, true, false, false, false] rfl rfl (by kernel_rfl) (fun _ _ _ h => h) (Or.inr ⟨by rfl, rfl⟩) ?_ ?_
          rotate_left
          · simp only [Act.put, List.setIfInBounds_toArray, List.set_cons_zero, List.set_cons_succ, i64_w, i32_w]
            rfl
          refine pure_ (i := 38) (N := some 174) (v := undef) (a' := ?_) #[true, true, true, true, true, true, true, true, true, true, true, true, true, true, true, true, true, true, true, true, true, true, true, true, true, true, true, true, true, true, true, true, true, true, true, true, true, true, true, false, false] rfl rfl (by kernel_rfl) (fun _ _ _ h => h) (Or.inr ⟨by rfl, rfl⟩) ?_ ?_
          rotate_left
          · simp only [Act.put, List.setIfInBounds_toArray, List.set_cons_zero, List.set_cons_succ, i64_w, i32_w]
            rfl
          refine pure_ (i := 39) (N := some 175) (v := undef) (a' := ?_) #[true, true, true, true, true, true, true, true, true, true, true, true, true, true, true, true, true, true, true, true, true, true, true, true, true, true, true, true, true, true, true, true, true, true, true, true, true, true, true, true, false] rfl rfl (by kernel_rfl) (fun _ _ _ h => h) (Or.inr ⟨by rfl, rfl⟩) ?_ ?_
          rotate_left
          · simp only [Act.put, List.setIfInBounds_toArray, List.set_cons_zero, List.set_cons_succ, i64_w, i32_w]
            rfl
          refine pure_ (i := 40) (N := some 176) (v := ?_) (a' := ?_) #[true, true, true, true, true, true, true, true, true, true, true, true, true, true, true, true, true, true, true, true, true, true, true, true, true, true, true, true, true, true, true, true, true, true, true, true, true, true, true, true, true] rfl rfl (by kernel_rfl) (fun _ _ _ h => h) (Or.inl ⟨by rfl, ?_⟩) ?_ ?_
          rotate_left
          · intro w'
            go_simp
            with_reducible rfl
          rotate_left
          · simp only [Act.put, List.setIfInBounds_toArray, List.set_cons_zero, List.set_cons_succ, i64_w, i32_w]
            rfl
          refine done_ (by kernel_rfl) ?_
          go_wp2
          go_meet
          case rel => exact H16
        · obtain ⟨hq, hn⟩ := HK4.out rfl rfl
          have HQ := Aside0.mk hq
          have HN := Aside0.mk hn
          clear hq hn
          go_wp2_with (first | (go_at_call 12; (refine (log_ParseItem.calls t2 4 d 0 0 false false 0 0 0 0 ([] : List S27) 0 0 0 0 nb ix tt 0 _ HQ.out).mono ?_); rintro _ w13 ⟨v13, rfl, ho, hb⟩; obtain ⟨A8, c8, rfl⟩ := Kd.R_slice ho; have HR13 := Aside0.mk (Kd.R_reads' ho); have H13 := Aside0.mk (H11.out.below hb); clear ho hb) | ((with_reducible refine gate_store (t := 34) (p := 13) rfl ?_); refine store_row_event rfl (ty := 34) (p := 13) rfl rfl w13.heap.size #[.int .i64 4, .string d, .int .u32 0, .int .u64 0, .bool false, .bool false, .int .u64 0, .int .u64 0, .int .i64 0, .int .u64 0, .slice A8 ([] : List S27).length c8, .int .u64 0, .int .u64 0, .int .i64 0, .int .u64 0, .int .u64 nb, .int .i64 ix, .int .i64 tt] rfl rfl 34 #[.int .i64 0, .string ⟨#[]⟩, .int .u32 0, .int .u64 0, .bool false, .bool false, .int .u64 0, .int .u64 0, .int .i64 0, .int .u64 0, .slice none 0 0, .int .u64 0, .int .u64 0, .int .i64 0, .int .u64 0, .int .u64 0, .int .i64 0, .int .i64 0] (heap_alloc_new w13 _) (by kernel_rfl) rfl (by simp [Value.oneCell']) ?_; intro w14 h7; have HBx := Aside0.mk (h7.bel w13 (below_alloc (Below.refl _ _) _) (Nat.le_refl _)); have H14 := Aside0.mk (H13.out.below HBx.out); have Y14 := Aside0.mk h7.at_; have C14 := Aside0.mk (show Kd.C k27 w14 A8 ([] : List S27).length ([] : List S27) from C27_keep HR13.out.2.2 HBx.out (KeepBut.refl _ w13.heap.size _) (Nat.le_refl _)); clear h7 HBx) | ((with_reducible refine gate_dst (N := 85) rfl ?_); refine load_event rfl (.tmp 13) 34 rfl rfl (load34 Y14.out) ?_) | (go_at_call 11; (refine (log_PrintItem.calls 4 d 0 0 false false 0 0 0 0 A8 c8 ([] : List S27) 0 0 0 0 nb ix tt t2 0 _ C14.out HR13.out.2.1 HN.out).mono ?_); rintro _ w15 ⟨rfl, hb⟩; have H15 := Aside0.mk (H14.out.below hb); have Y15 := Aside0.mk (bk0 Y14.out hb); have C15 := Aside0.mk (show Kd.C k27 w15 A8 ([] : List S27).length ([] : List S27) from C27_keep C14.out hb (KeepBut.refl _ w14.heap.size _) (Nat.le_refl _)); have y0 := cellAt (i := 0) Y15.out rfl; have x0 := cellAt (i := 0) H15.out.x_ rfl; have y1 := cellAt (i := 1) Y15.out rfl; have x1 := cellAt (i := 1) H15.out.x_ rfl; clear hb))
          refine start_ (n := 41) (S := fun w' : World => w'.heap[w.heap.size + 1]? = some (.cells #[.int .i64 4, .string d, .int .u32 inc, .int .u64 holds, .bool has, .bool dir, .int .u64 rn, .int .u64 re, .int .i64 r3, .int .u64 rm, .slice A2 l2.length c2, .int .u64 vn, .int .u64 ve, .int .i64 vr, .int .u64 vm, .int .u64 nb, .int .i64 ix, .int .i64 tt] 34 (0, 0))) (ds := []) #[false, false, false, false, false, false, false, false, false, false, false, false, false, false, false, false, false, false, false, false, false, false, false, false, false, false, false, false, false, false, false, false, false, false, false, false, false, false, false, false, false] (by kernel_rfl) rfl rfl H15.out.x_ (fun hHeld => ?_)
          have H16 := Aside0.mk (H15.out.below (W1 := w15.drew) (below_drew (Below.refl _ _)))
          generalize w15.drew = wd at H16 hHeld ⊢
          refine pure_ (i := 0) (N := some 136) (v := ?_) (a' := ?_) #[true, false, false, false, false, false, false, false, false, false, false, false, false, false, false, false, false, false, false, false, false, false, false, false, false, false, false, false, false, false, false, false, false, false, false, false, false, false, false, false, false] rfl rfl (by kernel_rfl) (fun _ _ _ h => h) (Or.inl ⟨by rfl, ?_⟩) ?_ ?_
          rotate_left
          · intro w'
            go_simp
            with_reducible rfl
          rotate_left
          · simp only [Act.put, List.setIfInBounds_toArray, List.set_cons_zero, List.set_cons_succ, i64_w, i32_w]
            rfl
          refine take_ (i := 1) (N := some 137) (v := ?_) (a' := ?_) #[true, true, false, false, false, false, false, false, false, false, false, false, false, false, false, false, false, false, false, false, false, false, false, false, false, false, false, false, false, false, false, false, false, false, false, false, false, false, false, false, false] rfl rfl (by kernel_rfl) (fun _ _ _ h => h) (Or.inl ⟨by rfl, ?_⟩) hHeld ?_ ?_
          rotate_left
          · rintro w' g3; have s0 := cellAt (i := 0) g3 rfl
            go_simp
            with_reducible rfl
          rotate_left
          · simp only [Act.put, List.setIfInBounds_toArray, List.set_cons_zero, List.set_cons_succ, i64_w, i32_w]
            rfl
          refine pure_ (i := 2) (N := some 138) (v := ?_) (a' := ?_) #[true, true, true, false, false, false, false, false, false, false, false, false, false, false, false, false, false, false, false, false, false, false, false, false, false, false, false, false, false, false, false, false, false, false, false, false, false, false, false, false, false] rfl rfl (by kernel_rfl) (fun _ _ _ h => h) (Or.inl ⟨by rfl, ?_⟩) ?_ ?_
          rotate_left
          · intro w'
            go_simp
            with_reducible rfl
          rotate_left
          · simp only [Act.put, List.setIfInBounds_toArray, List.set_cons_zero, List.set_cons_succ, i64_w, i32_w]
            rfl
          refine pure_ (i := 3) (N := some 139) (v := ?_) (a' := ?_) #[true, true, true, true, false, false, false, false, false, false, false, false, false, false, false, false, false, false, false, false, false, false, false, false, false, false, false, false, false, false, false, false, false, false, false, false, false, false, false, false, false] rfl rfl (by kernel_rfl) (fun _ _ _ h => h) (Or.inl ⟨by rfl, ?_⟩) ?_ ?_
          rotate_left
          · intro w'
            go_simp
            with_reducible rfl
          rotate_left
          · simp only [Act.put, List.setIfInBounds_toArray, List.set_cons_zero, List.set_cons_succ, i64_w, i32_w]
            rfl
          refine pure_ (i := 4) (N := some 140) (v := undef) (a' := ?_) #[true, true, true, true, true, false, false, false, false, false, false, false, false, false, false, false, false, false, false, false, false, false, false, false, false, false, false, false, false, false, false, false, false, false, false, false, false, false, false, false, false] rfl rfl (by kernel_rfl) (fun _ _ _ h => h) (Or.inr ⟨by rfl, rfl⟩) ?_ ?_
          rotate_left
          · simp only [Act.put, List.setIfInBounds_toArray, List.set_cons_zero, List.set_cons_succ, i64_w, i32_w]
            rfl
          refine pure_ (i := 5) (N := some 141) (v := undef) (a' := ?_) #[true, true, true, true, true, true, false, false, false, false, false, false, false, false, false, false, false, false, false, false, false, false, false, false, false, false, false, false, false, false, false, false, false, false, false, false, false, false, false, false, false] rfl rfl (by kernel_rfl) (fun _ _ _ h => h) (Or.inr ⟨by rfl, rfl⟩) ?_ ?_
          rotate_left
          · simp only [Act.put, List.setIfInBounds_toArray, List.set_cons_zero, List.set_cons_succ, i64_w, i32_w]
            rfl
          refine pure_ (i := 6) (N := some 142) (v := undef) (a' := ?_) #[true, true, true, true, true, true, true, false, false, false, false, false, false, false, false, false, false, false, false, false, false, false, false, false, false, false, false, false, false, false, false, false, false, false, false, false, false, false, false, false, false] rfl rfl (by kernel_rfl) (fun _ _ _ h => h) (Or.inr ⟨by rfl, rfl⟩) ?_ ?_
          rotate_left
          · simp only [Act.put, List.setIfInBounds_toArray, List.set_cons_zero, List.set_cons_succ, i64_w, i32_w]
            rfl
          refine pure_ (i := 7) (N := some 143) (v := undef) (a' := ?_) #[true, true, true, true, true, true, true, true, false, false, false, false, false, false, false, false, false, false, false, false, false, false, false, false, false, false, false, false, false, false, false, false, false, false, false, false, false, false, false, false, false] rfl rfl (by kernel_rfl) (fun _ _ _ h => h) (Or.inr ⟨by rfl, rfl⟩) ?_ ?_
          rotate_left
          · simp only [Act.put, List.setIfInBounds_toArray, List.set_cons_zero, List.set_cons_succ, i64_w, i32_w]
            rfl
          refine pure_ (i := 8) (N := some 144) (v := undef) (a' := ?_) #[true, true, true, true, true, true, true, true, true, false, false, false, false, false, false, false, false, false, false, false, false, false, false, false, false, false, false, false, false, false, false, false, false, false, false, false, false, false, false, false, false] rfl rfl (by kernel_rfl) (fun _ _ _ h => h) (Or.inr ⟨by rfl, rfl⟩) ?_ ?_
          rotate_left
          · simp only [Act.put, List.setIfInBounds_toArray, List.set_cons_zero, List.set_cons_succ, i64_w, i32_w]
            rfl
          refine pure_ (i := 9) (N := some 145) (v := undef) (a' := ?_) #[true, true, true, true, true, true, true, true, true, true, false, false, false, false, false, false, false, false, false, false, false, false, false, false, false, false, false, false, false, false, false, false, false, false, false, false, false, false, false, false, false] rfl rfl (by kernel_rfl) (fun _ _ _ h => h) (Or.inr ⟨by rfl, rfl⟩) ?_ ?_
          rotate_left
          · simp only [Act.put, List.setIfInBounds_toArray, List.set_cons_zero, List.set_cons_succ, i64_w, i32_w]
            rfl
          refine pure_ (i := 10) (N := some 146) (v := undef) (a' := ?_) #[true, true, true, true, true, true, true, true, true, true, true, false, false, false, false, false, false, false, false, false, false, false, false, false, false, false, false, false, false, false, false, false, false, false, false, false, false, false, false, false, false] rfl rfl (by kernel_rfl) (fun _ _ _ h => h) (Or.inr ⟨by rfl, rfl⟩) ?_ ?_
          rotate_left
          · simp only [Act.put, List.setIfInBounds_toArray, List.set_cons_zero, List.set_cons_succ, i64_w, i32_w]
            rfl
          refine pure_ (i := 11) (N := some 147) (v := undef) (a' := ?_) #[true, true, true, true, true, true, true, true, true, true, true, true, false, false, false, false, false, false, false, false, false, false, false, false, false, false, false, false, false, false, false, false, false, false, false, false, false, false, false, false, false] rfl rfl (by kernel_rfl) (fun _ _ _ h => h) (Or.inr ⟨by rfl, rfl⟩) ?_ ?_
          rotate_left
          · simp only [Act.put, List.setIfInBounds_toArray, List.set_cons_zero, List.set_cons_succ, i64_w, i32_w]
            rfl
          refine pure_ (i := 12) (N := some 148) (v := undef) (a' := ?_) #[true, true, true, true, true, true, true, true, true, true, true, true, true, false, false, false, false, false, false, false, false, false, false, false, false, false, false, false, false, false, false, false, false, false, false, false, false, false, false, false, false] rfl rfl (by kernel_rfl) (fun _ _ _ h => h) (Or.inr ⟨by rfl, rfl⟩) ?_ ?_
          rotate_left
          · simp only [Act.put, List.setIfInBounds_toArray, List.set_cons_zero, List.set_cons_succ, i64_w, i32_w]
            rfl
          refine pure_ (i := 13) (N := some 149) (v := undef) (a' := ?_) #[true, true, true, true, true, true, true, true, true, true, true, true, true, true, false, false, false, false, false, false, false, false, false, false, false, false, false, false, false, false, false, false, false, false, false, false, false, false, false, false, false] rfl rfl (by kernel_rfl) (fun _ _ _ h => h) (Or.inr ⟨by rfl, rfl⟩) ?_ ?_
          rotate_left
          · simp only [Act.put, List.setIfInBounds_toArray, List.set_cons_zero, List.set_cons_succ, i64_w, i32_w]
            rfl
          refine pure_ (i := 14) (N := some 150) (v := undef) (a' := ?_) #[true, true, true, true, true, true, true, true, true, true, true, true, true, true, true, false, false, false, false, false, false, false, false, false, false, false, false, false, false, false, false, false, false, false, false, false, false, false, false, false, false] rfl rfl (by kernel_rfl) (fun _ _ _ h => h) (Or.inr ⟨by rfl, rfl⟩) ?_ ?_
          rotate_left
          · simp only [Act.put, List.setIfInBounds_toArray, List.set_cons_zero, List.set_cons_succ, i64_w, i32_w]
            rfl
          refine pure_ (i := 15) (N := some 151) (v := undef) (a' := ?_) #[true, true, true, true, true, true, true, true, true, true, true, true, true, true, true, true, false, false, false, false, false, false, false, false, false, false, false, false, false, false, false, false, false, false, false, false, false, false, false, false, false] rfl rfl (by kernel_rfl) (fun _ _ _ h => h) (Or.inr ⟨by rfl, rfl⟩) ?_ ?_
          rotate_left
          · simp only [Act.put, List.setIfInBounds_toArray, List.set_cons_zero, List.set_cons_succ, i64_w, i32_w]
            rfl
          refine pure_ (i := 16) (N := some 152) (v := undef) (a' := ?_) #[true, true, true, true, true, true, true, true, true, true, true, true, true, true, true, true, true, false, false, false, false, false, false, false, false, false, false, false, false, false, false, false, false, false, false, false, false, false, false, false, false] rfl rfl (by kernel_rfl) (fun _ _ _ h => h) (Or.inr ⟨by rfl, rfl⟩) ?_ ?_
          rotate_left
          · simp only [Act.put, List.setIfInBounds_toArray, List.set_cons_zero, List.set_cons_succ, i64_w, i32_w]
            rfl
          refine pure_ (i := 17) (N := some 153) (v := undef) (a' := ?_) #[true, true, true, true, true, true, true, true, true, true, true, true, true, true, true, true, true, true, false, false, false, false, false, false, false, false, false, false, false, false, false, false, false, false, false, false, false, false, false, false, false] rfl rfl (by kernel_rfl) (fun _ _ _ h => h) (Or.inr ⟨by rfl, rfl⟩) ?_ ?_
          rotate_left
          · simp only [Act.put, List.setIfInBounds_toArray, List.set_cons_zero, List.set_cons_succ, i64_w, i32_w]
            rfl
          refine pure_ (i := 18) (N := some 154) (v := undef) (a' := ?_) #[true, true, true, true, true, true, true, true, true, true, true, true, true, true, true, true, true, true, true, false, false, false, false, false, false, false, false, false, false, false, false, false, false, false, false, false, false, false, false, false, false] rfl rfl (by kernel_rfl) (fun _ _ _ h => h) (Or.inr ⟨by rfl, rfl⟩) ?_ ?_
          rotate_left
          · simp only [Act.put, List.setIfInBounds_toArray, List.set_cons_zero, List.set_cons_succ, i64_w, i32_w]
            rfl
          refine pure_ (i := 19) (N := some 155) (v := undef) (a' := ?_) #[true, true, true, true, true, true, true, true, true, true, true, true, true, true, true, true, true, true, true, true, false, false, false, false, false, false, false, false, false, false, false, false, false, false, false, false, false, false, false, false, false] rfl rfl (by kernel_rfl) (fun _ _ _ h => h) (Or.inr ⟨by rfl, rfl⟩) ?_ ?_
          rotate_left
          · simp only [Act.put, List.setIfInBounds_toArray, List.set_cons_zero, List.set_cons_succ, i64_w, i32_w]
            rfl
          refine pure_ (i := 20) (N := some 156) (v := undef) (a' := ?_) #[true, true, true, true, true, true, true, true, true, true, true, true, true, true, true, true, true, true, true, true, true, false, false, false, false, false, false, false, false, false, false, false, false, false, false, false, false, false, false, false, false] rfl rfl (by kernel_rfl) (fun _ _ _ h => h) (Or.inr ⟨by rfl, rfl⟩) ?_ ?_
          rotate_left
          · simp only [Act.put, List.setIfInBounds_toArray, List.set_cons_zero, List.set_cons_succ, i64_w, i32_w]
            rfl
          refine pure_ (i := 21) (N := some 157) (v := undef) (a' := ?_) #[true, true, true, true, true, true, true, true, true, true, true, true, true, true, true, true, true, true, true, true, true, true, false, false, false, false, false, false, false, false, false, false, false, false, false, false, false, false, false, false, false] rfl rfl (by kernel_rfl) (fun _ _ _ h => h) (Or.inr ⟨by rfl, rfl⟩) ?_ ?_
          rotate_left
          · simp only [Act.put, List.setIfInBounds_toArray, List.set_cons_zero, List.set_cons_succ, i64_w, i32_w]
            rfl
          refine pure_ (i := 22) (N := some 158) (v := undef) (a' := ?_) #[true, true, true, true, true, true, true, true, true, true, true, true, true, true, true, true, true, true, true, true, true, true, true, false, false, false, false, false, false, false, false, false, false, false, false, false, false, false, false, false, false] rfl rfl (by kernel_rfl) (fun _ _ _ h => h) (Or.inr ⟨by rfl, rfl⟩) ?_ ?_
          rotate_left
          · simp only [Act.put, List.setIfInBounds_toArray, List.set_cons_zero, List.set_cons_succ, i64_w, i32_w]
            rfl
          refine pure_ (i := 23) (N := some 159) (v := undef) (a' := ?_) #[true, true, true, true, true, true, true, true, true, true, true, true, true, true, true, true, true, true, true, true, true, true, true, true, false, false, false, false, false, false, false, false, false, false, false, false, false, false, false, false, false] rfl rfl (by kernel_rfl) (fun _ _ _ h => h) (Or.inr ⟨by rfl, rfl⟩) ?_ ?_
          rotate_left
          · simp only [Act.put, List.setIfInBounds_toArray, List.set_cons_zero, List.set_cons_succ, i64_w, i32_w]
            rfl
          refine pure_ (i := 24) (N := some 160) (v := undef) (a' := ?_) #[true, true, true, true, true, true, true, true, true, true, true, true, true, true, true, true, true, true, true, true, true, true, true, true, true, false, false, false, false, false, false, false, false, false, false, false, false, false, false, false, false] rfl rfl (by kernel_rfl) (fun _ _ _ h => h) (Or.inr ⟨by rfl, rfl⟩) ?_ ?_
          rotate_left
          · simp only [Act.put, List.setIfInBounds_toArray, List.set_cons_zero, List.set_cons_succ, i64_w, i32_w]
            rfl
          refine pure_ (i := 25) (N := some 161) (v := undef) (a' := ?_) #[true, true, true, true, true, true, true, true, true, true, true, true, true, true, true, true, true, true, true, true, true, true, true, true, true, true, false, false, false, false, false, false, false, false, false, false, false, false, false, false, false] rfl rfl (by kernel_rfl) (fun _ _ _ h => h) (Or.inr ⟨by rfl, rfl⟩) ?_ ?_
          rotate_left
          · simp only [Act.put, List.setIfInBounds_toArray, List.set_cons_zero, List.set_cons_succ, i64_w, i32_w]
            rfl
          refine pure_ (i := 26) (N := some 162) (v := undef) (a' := ?_) #[true, true, true, true, true, true, true, true, true, true, true, true, true, true, true, true, true, true, true, true, true, true, true, true, true, true, true, false, false, false, false, false, false, false, false, false, false, false, false, false, false] rfl rfl (by kernel_rfl) (fun _ _ _ h => h) (Or.inr ⟨by rfl, rfl⟩) ?_ ?_
          rotate_left
          · simp only [Act.put, List.setIfInBounds_toArray, List.set_cons_zero, List.set_cons_succ, i64_w, i32_w]
            rfl
          refine pure_ (i := 27) (N := some 163) (v := undef) (a' := ?_) #[true, true, true, true, true, true, true, true, true, true, true, true, true, true, true, true, true, true, true, true, true, true, true, true, true, true, true, true, false, false, false, false, false, false, false, false, false, false, false, false, false] rfl rfl (by kernel_rfl) (fun _ _ _ h => h) (Or.inr ⟨by rfl, rfl⟩) ?_ ?_
          rotate_left
          · simp only [Act.put, List.setIfInBounds_toArray, List.set_cons_zero, List.set_cons_succ, i64_w, i32_w]
            rfl
          refine pure_ (i := 28) (N := some 164) (v := undef) (a' := ?_) #[true, true, true, true, true, true, true, true, true, true, true, true, true, true, true, true, true, true, true, true, true, true, true, true, true, true, true, true, true, false, false, false, false, false, false, false, false, false, false, false, false] rfl rfl (by kernel_rfl) (fun _ _ _ h => h) (Or.inr ⟨by rfl, rfl⟩) ?_ ?_
          rotate_left
          · simp only [Act.put, List.setIfInBounds_toArray, List.set_cons_zero, List.set_cons_succ, i64_w, i32_w]
            rfl
          refine pure_ (i := 29) (N := some 165) (v := undef) (a' := ?_) #[true, true, true, true, true, true, true, true, true, true, true, true, true, true, true, true, true, true, true, true, true, true, true, true, true, true, true, true, true, true, false, false, false, false, false, false, false, false, false, false, false] rfl rfl (by kernel_rfl) (fun _ _ _ h => h) (Or.inr ⟨by rfl, rfl⟩) ?_ ?_
          rotate_left
          · simp only [Act.put, List.setIfInBounds_toArray, List.set_cons_zero, List.set_cons_succ, i64_w, i32_w]
            rfl
          refine pure_ (i := 30) (N := some 166) (v := undef) (a' := ?_) #[true, true, true, true, true, true, true, true, true, true, true, true, true, true, true, true, true, true, true, true, true, true, true, true, true, true, true, true, true, true, true, false, false, false, false, false, false, false, false, false, false] rfl rfl (by kernel_rfl) (fun _ _ _ h => h) (Or.inr ⟨by rfl, rfl⟩) ?_ ?_
          rotate_left
          · simp only [Act.put, List.setIfInBounds_toArray, List.set_cons_zero, List.set_cons_succ, i64_w, i32_w]
            rfl
          refine pure_ (i := 31) (N := some 167) (v := undef) (a' := ?_) #[true, true, true, true, true, true, true, true, true, true, true, true, true, true, true, true, true, true, true, true, true, true, true, true, true, true, true, true, true, true, true, true, false, false, false, false, false, false, false, false, false] rfl rfl (by kernel_rfl) (fun _ _ _ h => h) (Or.inr ⟨by rfl, rfl⟩) ?_ ?_
          rotate_left
          · simp only [Act.put, List.setIfInBounds_toArray, List.set_cons_zero, List.set_cons_succ, i64_w, i32_w]
            rfl
          refine pure_ (i := 32) (N := some 168) (v := undef) (a' := ?_) #[true, true, true, true, true, true, true, true, true, true, true, true, true, true, true, true, true, true, true, true, true, true, true, true, true, true, true, true, true, true, true, true, true, false, false, false, false, false, false, false, false] rfl rfl (by kernel_rfl) (fun _ _ _ h => h) (Or.inr ⟨by rfl, rfl⟩) ?_ ?_
          rotate_left
          · simp only [Act.put, List.setIfInBounds_toArray, List.set_cons_zero, List.set_cons_succ, i64_w, i32_w]
            rfl
          refine pure_ (i := 33) (N := some 169) (v := undef) (a' := ?_) #[true, true, true, true, true, true, true, true, true, true, true, true, true, true, true, true, true, true, true, true, true, true, true, true, true, true, true, true, true, true, true, true, true, true, false, false, false, false, false, false, false] rfl rfl (by kernel_rfl) (fun _ _ _ h => h) (Or.inr ⟨by rfl, rfl⟩) ?_ ?_
          rotate_left
          · simp only [Act.put, List.setIfInBounds_toArray, List.set_cons_zero, List.set_cons_succ, i64_w, i32_w]
            rfl
          refine pure_ (i := 34) (N := some 170) (v := undef) (a' := ?_) #[true, true, true, true, true, true, true, true, true, true, true, true, true, true, true, true, true, true, true, true, true, true, true, true, true, true, true, true, true, true, true, true, true, true, true, false, false, false, false, false, false] rfl rfl (by kernel_rfl) (fun _ _ _ h => h) (Or.inr ⟨by rfl, rfl⟩) ?_ ?_
          rotate_left
          · simp only [Act.put, List.setIfInBounds_toArray, List.set_cons_zero, List.set_cons_succ, i64_w, i32_w]
            rfl
          refine pure_ (i := 35) (N := some 171) (v := undef) (a' := ?_) #[true, true, true, true, true, true, true, true, true, true, true, true, true, true, true, true, true, true, true, true, true, true, true, true, true, true, true, true, true, true, true, true, true, true, true, true, false, false, false, false, false] rfl rfl (by kernel_rfl) (fun _ _ _ h => h) (Or.inr ⟨by rfl, rfl⟩) ?_ ?_
          rotate_left
          · simp only [Act.put, List.setIfInBounds_toArray, List.set_cons_zero, List.set_cons_succ, i64_w, i32_w]
            rfl
          refine pure_ (i := 36) (N := some 172) (v := undef) (a' := ?_) #[true, true, true, true, true, true, true, true, true, true, true, true, true, true, true, true, true, true, true, true, true, true, true, true, true, true, true, true, true, true, true, true, true, true, true, true, true, false, false, false, false] rfl rfl (by kernel_rfl) (fun _ _ _ h => h) (Or.inr ⟨by rfl, rfl⟩) ?_ ?_
          rotate_left
          · simp only [Act.put, List.setIfInBounds_toArray, List.set_cons_zero, List.set_cons_succ, i64_w, i32_w]
            rfl
          refine pure_ (i := 37) (N := some 173) (v := undef) (a' := ?_) #[true, true, true, true, true, true, true, true, true, true, true, true, true, true, true, true, true, true, true, true, true, true, true, true, true, true, true, true, true, true, true, true, true, true, true, true, true, true, false, false, false] rfl rfl (by kernel_rfl) (fun _ _ _ h => h) (Or.inr ⟨by rfl, rfl⟩) ?_ ?_
          rotate_left
          · simp only [Act.put, List.setIfInBounds_toArray, List.set_cons_zero, List.set_cons_succ, i64_w, i32_w]
            rfl
          refine pure_ (i := 38) (N := some 174) (v := undef) (a' := ?_) #[true, true, true, true, true, true, true, true, true, true, true, true, true, true, true, true, true, true, true, true, true, true, true, true, true, true, true, true, true, true, true, true, true, true, true, true, true, true, true, false, false] rfl rfl (by kernel_rfl) (fun _ _ _ h => h) (Or.inr ⟨by rfl, rfl⟩) ?_ ?_
          rotate_left
          · simp only [Act.put, List.setIfInBounds_toArray, List.set_cons_zero, List.set_cons_succ, i64_w, i32_w]
            rfl
          refine pure_ (i := 39) (N := some 175) (v := undef) (a' := ?_) #[true, true, true, true, true, true, true, true, true, true, true, true, true, true, true, true, true, true, true, true, true, true, true, true, true, true, true, true, true, true, true, true, true, true, true, true, true, true, true, true, false] rfl rfl (by kernel_rfl) (fun _ _ _ h => h) (Or.inr ⟨by rfl, rfl⟩) ?_ ?_
          rotate_left
          · simp only [Act.put, List.setIfInBounds_toArray, List.set_cons_zero, List.set_cons_succ, i64_w, i32_w]
            rfl
          refine pure_ (i := 40) (N := some 176) (v := ?_) (a' := ?_) #[true, true, true, true, true, true, true, true, true, true, true, true, true, true, true, true, true, true, true, true, true, true, true, true, true, true, true, true, true, true, true, true, true, true, true, true, true, true, true, true, true] rfl rfl (by kernel_rfl) (fun _ _ _ h => h) (Or.inl ⟨by rfl, ?_⟩) ?_ ?_
          rotate_left
          · intro w'
            go_simp
            with_reducible rfl
          rotate_left
          · simp only [Act.put, List.setIfInBounds_toArray, List.set_cons_zero, List.set_cons_succ, i64_w, i32_w]
            rfl
          refine done_ (by kernel_rfl) ?_
          go_wp2
          go_meet
          case rel => exact H16
      · have q : (e2 == 0) = false := beq_eq_false_iff_ne.mpr he
        clear he
        go_wp2
        go_meet
        case rel => exact H11
    case rest =>
      have HL2 := hcut
      go_upto_if 183 with (first | (go_at_call 8; (with_reducible refine (log_Parse.calls text p0 p1 q0 q1 q2 q3 lu eu _ HPT.out).mono ?_); rintro _ w20 ⟨v20, rfl, ho, hb⟩; obtain ⟨A20, c20, rfl⟩ := Kd.R_slice ho; have HR20 := Aside0.mk (Kd.R_reads' ho); have H20 := Aside0.mk (HL2.out.below hb); clear ho hb) | ((with_reducible refine gate_store (t := 32) (p := 17) rfl ?_); refine store_row_event rfl (ty := 32) (p := 17) rfl rfl w20.heap.size #[.int .u64 p0, .int .u32 p1, .int .u64 q0, .int .u64 q1, .int .i64 q2, .int .u64 q3, .slice A20 lu.length c20] rfl rfl 32 #[.int .u64 0, .int .u32 0, .int .u64 0, .int .u64 0, .int .i64 0, .int .u64 0, .slice none 0 0] (heap_alloc_new w20 _) (by kernel_rfl) rfl (by simp [Value.oneCell']) ?_; intro w21 h7; have HBx := Aside0.mk (h7.bel w20 (below_alloc (Below.refl _ _) _) (Nat.le_refl _)); have H21 := Aside0.mk (H20.out.below HBx.out); have U21 := Aside0.mk h7.at_; have C21 := Aside0.mk (show Kd.C k27 w21 A20 lu.length lu from C27_keep HR20.out.2.2 HBx.out (KeepBut.refl _ w20.heap.size _) (Nat.le_refl _)); clear h7 HBx))
      go_cut [184] from 177 to 195 (fun v184 wx => Aside0 (LB w wx #[.int .u64 a0, .int .u32 a1, .int .u64 n, .int .u64 e0, .int .i64 rr, .int .u64 m, .slice A l.length c] #[.int .i64 k, .string d, .int .u32 inc, .int .u64 holds, .bool has, .bool dir, .int .u64 rn, .int .u64 re, .int .i64 r3, .int .u64 rm, .slice A2 l2.length c2, .int .u64 vn, .int .u64 ve, .int .i64 vr, .int .u64 vm, .int .u64 nb, .int .i64 ix, .int .i64 tt]))
      case first =>
        by_cases he : eu = 0
        · subst he
          have HPP := Aside0.mk (HPU.out rfl)
          have u0 := cellAt (i := 0) U21.out rfl; have u1 := cellAt (i := 1) U21.out rfl; have u2 := cellAt (i := 2) U21.out rfl; have u3 := cellAt (i := 3) U21.out rfl; have u4 := cellAt (i := 4) U21.out rfl; have u5 := cellAt (i := 5) U21.out rfl; have u6 := cellAt (i := 6) U21.out rfl
          go_wp2_with (go_at_call 7; (with_reducible refine (log_Print.calls p0 p1 q0 q1 q2 q3 A20 c20 lu text 0 _ C21.out HR20.out.2.1 HPP.out).mono ?_); rintro _ w22 ⟨rfl, hb⟩; have H22 := Aside0.mk (H21.out.below hb); clear hb)
          go_meet
          case rel => exact H22
        · have q : (eu == 0) = false := beq_eq_false_iff_ne.mpr he
          clear he
          go_wp2
          go_meet
          case rel => exact H21
      case rest =>
        have HL3 := hcut
        by_cases he : ey = 0
        · subst he
          have HPY := Aside0.mk (HPJ.out rfl)
          go_wp2_with (first | (go_at_call 12; (with_reducible refine (log_ParseItem.calls text y0_ y1_ y2_ y3_ y4_ y5_ y6_ y7_ y8_ y9_ ly y11_ y12_ y13_ y14_ y15_ y16_ y17_ 0 _ HPI2.out).mono ?_); rintro _ w30 ⟨v30, rfl, ho, hb⟩; obtain ⟨A30, c30, rfl⟩ := Kd.R_slice ho; have HR30 := Aside0.mk (Kd.R_reads' ho); have H30 := Aside0.mk (HL3.out.below hb); clear ho hb) | ((with_reducible refine gate_store (t := 34) (p := 21) rfl ?_); refine store_row_event rfl (ty := 34) (p := 21) rfl rfl w30.heap.size #[.int .i64 y0_, .string y1_, .int .u32 y2_, .int .u64 y3_, .bool y4_, .bool y5_, .int .u64 y6_, .int .u64 y7_, .int .i64 y8_, .int .u64 y9_, .slice A30 ly.length c30, .int .u64 y11_, .int .u64 y12_, .int .i64 y13_, .int .u64 y14_, .int .u64 y15_, .int .i64 y16_, .int .i64 y17_] rfl rfl 34 #[.int .i64 0, .string ⟨#[]⟩, .int .u32 0, .int .u64 0, .bool false, .bool false, .int .u64 0, .int .u64 0, .int .i64 0, .int .u64 0, .slice none 0 0, .int .u64 0, .int .u64 0, .int .i64 0, .int .u64 0, .int .u64 0, .int .i64 0, .int .i64 0] (heap_alloc_new w30 _) (by kernel_rfl) rfl (by simp [Value.oneCell']) ?_; intro w31 h7; have HBx := Aside0.mk (h7.bel w30 (below_alloc (Below.refl _ _) _) (Nat.le_refl _)); have H31 := Aside0.mk (H30.out.below HBx.out); have Y31 := Aside0.mk h7.at_; have C31 := Aside0.mk (show Kd.C k27 w31 A30 ly.length ly from C27_keep HR30.out.2.2 HBx.out (KeepBut.refl _ w30.heap.size _) (Nat.le_refl _)); clear h7 HBx) | ((with_reducible refine gate_dst (N := 204) rfl ?_); refine load_event rfl (.tmp 21) 34 rfl rfl (load34 Y31.out) ?_) | (go_at_call 11; (with_reducible refine (log_PrintItem.calls y0_ y1_ y2_ y3_ y4_ y5_ y6_ y7_ y8_ y9_ A30 c30 ly y11_ y12_ y13_ y14_ y15_ y16_ y17_ text 0 _ C31.out HR30.out.2.1 HPY.out).mono ?_); rintro _ w32 ⟨rfl, hb⟩; have H32 := Aside0.mk (H31.out.below hb); clear hb))
          go_ret
          exact ⟨rfl, H32.out.bel⟩
        · have q : (ey == 0) = false := beq_eq_false_iff_ne.mpr he
          clear he
          go_wp2_with (first | (go_at_call 12; (with_reducible refine (log_ParseItem.calls text y0_ y1_ y2_ y3_ y4_ y5_ y6_ y7_ y8_ y9_ ly y11_ y12_ y13_ y14_ y15_ y16_ y17_ ey _ HPI2.out).mono ?_); rintro _ w30 ⟨v30, rfl, ho, hb⟩; obtain ⟨A30, c30, rfl⟩ := Kd.R_slice ho; have HR30 := Aside0.mk (Kd.R_reads' ho); have H30 := Aside0.mk (HL3.out.below hb); clear ho hb) | ((with_reducible refine gate_store (t := 34) (p := 21) rfl ?_); refine store_row_event rfl (ty := 34) (p := 21) rfl rfl w30.heap.size #[.int .i64 y0_, .string y1_, .int .u32 y2_, .int .u64 y3_, .bool y4_, .bool y5_, .int .u64 y6_, .int .u64 y7_, .int .i64 y8_, .int .u64 y9_, .slice A30 ly.length c30, .int .u64 y11_, .int .u64 y12_, .int .i64 y13_, .int .u64 y14_, .int .u64 y15_, .int .i64 y16_, .int .i64 y17_] rfl rfl 34 #[.int .i64 0, .string ⟨#[]⟩, .int .u32 0, .int .u64 0, .bool false, .bool false, .int .u64 0, .int .u64 0, .int .i64 0, .int .u64 0, .slice none 0 0, .int .u64 0, .int .u64 0, .int .i64 0, .int .u64 0, .int .u64 0, .int .i64 0, .int .i64 0] (heap_alloc_new w30 _) (by kernel_rfl) rfl (by simp [Value.oneCell']) ?_; intro w31 h7; have HBx := Aside0.mk (h7.bel w30 (below_alloc (Below.refl _ _) _) (Nat.le_refl _)); have H31 := Aside0.mk (H30.out.below HBx.out); have Y31 := Aside0.mk h7.at_; have C31 := Aside0.mk (show Kd.C k27 w31 A30 ly.length ly from C27_keep HR30.out.2.2 HBx.out (KeepBut.refl _ w30.heap.size _) (Nat.le_refl _)); clear h7 HBx))
          go_ret
          exact ⟨rfl, H31.out.bel⟩
end Go.Proofs.Ytlkemknhmfjdpaa.P
/- LogBack's contract, by hand. -/
namespace Go.Proofs.Ytlkemknhmfjdpaa.P
open Go.RowKit Go.Proofs.YtlkemknhmfjdpaaW.PrintWords Go.Proofs.YtlkemknhmfjdpaaW.PrintLast Go.Proofs.YtlkemknhmfjdpaaW.PrintMore
set_option linter.unusedVariables false
set_option linter.unusedSimpArgs false

theorem parse_of (text : ByteArray) (hs : text.size ≤ 1000000) : ∃ (p0 p1 q0 q1 q2 q3 : Int) (lu : List S27) (eu : Int), log_Parse.f text = some (p0, p1, q0, q1, q2, q3, lu, eu) ∧ (eu = 0 → log_Print.f p0 p1 q0 q1 q2 q3 lu = some (text, 0)) := by
  by_cases h : parseE text = 0
  · exact ⟨_, _, _, _, _, _, _, _, by rw [log_Parse.f, if_pos hs, if_pos h], fun _ => Pure.parse_print text h hs⟩
  · exact ⟨0, 0, 0, 0, 0, 0, [], parseE text, by rw [log_Parse.f, if_pos hs, if_neg h], fun h2 => absurd h2 h⟩
theorem item_of (text : ByteArray) (hs : text.size ≤ 1000000) : ∃ (y0 : Int) (y1 : ByteArray) (y2 y3 : Int) (y4 y5 : Bool) (y6 y7 y8 y9 : Int) (ly : List S27) (y11 y12 y13 y14 y15 y16 y17 ey : Int),
    log_ParseItem.f text = some (y0, y1, y2, y3, y4, y5, y6, y7, y8, y9, ly, y11, y12, y13, y14, y15, y16, y17, ey) ∧ (ey = 0 → log_PrintItem.f y0 y1 y2 y3 y4 y5 y6 y7 y8 y9 ly y11 y12 y13 y14 y15 y16 y17 = some (text, 0)) := by
  by_cases h : itemE text = 0
  · obtain ⟨x, hx⟩ : ∃ x, x = itemAt text := ⟨_, rfl⟩
    have hp := Pure.item_print text h
    have hf : log_ParseItem.f text = some x := by rw [log_ParseItem.f, if_pos hs, if_pos h, hx]
    rw [← hx] at hp
    obtain ⟨y0, y1, y2, y3, y4, y5, y6, y7, y8, y9, ly, y11, y12, y13, y14, y15, y16, y17, ey⟩ := x
    simp only [Pure.printOf] at hp
    exact ⟨_, _, _, _, _, _, _, _, _, _, _, _, _, _, _, _, _, _, _, hf, fun _ => hp⟩
  · exact ⟨0, ⟨#[]⟩, 0, 0, false, false, 0, 0, 0, 0, [], 0, 0, 0, 0, 0, 0, 0, itemE text, by rw [log_ParseItem.f, if_pos hs, if_neg h], fun h2 => absurd h2 h⟩
/-- What the bounds of the types give. -/
def backB (a0 a1 n e0 rr m : Int) (l : List S27) (inc holds rn re r3 rm : Int) (l2 : List S27) (vn ve vr vm nb : Int) : Prop :=
  (0 ≤ a0 ∧ a0 < 18446744073709551616) ∧ (0 ≤ a1 ∧ a1 ≤ 4294967295) ∧ Pure.sW ⟨n, ⟨e0, rr⟩, m⟩ ∧ (∀ x ∈ l, Pure.sW x) ∧ (0 ≤ inc ∧ inc ≤ 4294967295) ∧ (0 ≤ holds ∧ holds < 18446744073709551616) ∧ Pure.sW ⟨rn, ⟨re, r3⟩, rm⟩ ∧ (∀ x ∈ l2, Pure.sW x) ∧ Pure.sW ⟨vn, ⟨ve, vr⟩, vm⟩ ∧ (0 ≤ nb ∧ nb < 18446744073709551616)
open Classical in
noncomputable def consortlaw19_LogBack.f (a0 a1 n e0 rr m : Int) (l : List S27) (k : Int) (d : ByteArray) (inc holds : Int) (has dir : Bool) (rn re r3 rm : Int) (l2 : List S27) (vn ve vr vm nb ix tt : Int) (text : ByteArray) : Option Bool :=
  if backB a0 a1 n e0 rr m l inc holds rn re r3 rm l2 vn ve vr vm nb then some true else none
theorem consortlaw19_LogBack.calls (a0 a1 n e0 rr m : Int) (A : Option Addr) (c : Nat) (l : List S27) (k : Int) (d : ByteArray) (inc holds : Int) (has dir : Bool) (rn re r3 rm : Int) (A2 : Option Addr) (c2 : Nat) (l2 : List S27) (vn ve vr vm nb ix tt : Int) (text : ByteArray) (w : World)
    (hC : Kd.C k27 w A l.length l) (hcc : l.length ≤ c) (hC2 : Kd.C k27 w A2 l2.length l2) (hcc2 : l2.length ≤ c2) (h : consortlaw19_LogBack.f a0 a1 n e0 rr m l k d inc holds has dir rn re r3 rm l2 vn ve vr vm nb ix tt text = some true) :
    Calls Try.prog 3 #[.agg #[.int .u64 a0, .int .u32 a1, .int .u64 n, .int .u64 e0, .int .i64 rr, .int .u64 m, .slice A l.length c], .agg #[.int .i64 k, .string d, .int .u32 inc, .int .u64 holds, .bool has, .bool dir, .int .u64 rn, .int .u64 re, .int .i64 r3, .int .u64 rm, .slice A2 l2.length c2, .int .u64 vn, .int .u64 ve, .int .i64 vr, .int .u64 vm, .int .u64 nb, .int .i64 ix, .int .i64 tt], .string text] w fun e w' => e = .returned (.bool true) ∧ Below w.heap.size w w' := by
  unfold consortlaw19_LogBack.f at h
  by_cases hb : backB a0 a1 n e0 rr m l inc holds rn re r3 rm l2 vn ve vr vm nb
  rotate_left
  · rw [if_neg hb] at h
    cases h
  clear h
  obtain ⟨g0, g1, g2, g3, g4, g5, g6, g7, g8, g9⟩ := hb
  by_cases h1 : 300 < l.length
  · exact back_e1 a0 a1 n e0 rr m A c l k d inc holds has dir rn re r3 rm A2 c2 l2 vn ve vr vm nb ix tt text w h1
  by_cases h2 : 300 < l2.length
  · exact back_e2 a0 a1 n e0 rr m A c l k d inc holds has dir rn re r3 rm A2 c2 l2 vn ve vr vm nb ix tt text w (by omega) h2
  by_cases h3 : 5000 < d.size
  · exact back_e3 a0 a1 n e0 rr m A c l k d inc holds has dir rn re r3 rm A2 c2 l2 vn ve vr vm nb ix tt text w (by omega) (by omega) h3
  by_cases h4 : 5000 < text.size
  · exact back_e4 a0 a1 n e0 rr m A c l k d inc holds has dir rn re r3 rm A2 c2 l2 vn ve vr vm nb ix tt text w (by omega) (by omega) (by omega) h4
  obtain ⟨t, e, hte⟩ : ∃ t e, logPrint a0 a1 n e0 rr m l = (t, e) := ⟨_, _, rfl⟩
  obtain ⟨t2, e2, hte2⟩ : ∃ t e, logItem k d inc holds has dir rn re r3 rm l2 vn ve vr vm nb ix tt = (t, e) := ⟨_, _, rfl⟩
  have hp : log_Print.f a0 a1 n e0 rr m l = some (t, e) := by rw [log_Print.f, if_pos g1, hte]
  have hpi : log_PrintItem.f k d inc holds has dir rn re r3 rm l2 vn ve vr vm nb ix tt = some (t2, e2) := by rw [log_PrintItem.f, if_pos ⟨g4, by omega⟩, hte2]
  obtain ⟨p0, p1, q0, q1, q2, q3, lu, eu, hpt, hpu⟩ := parse_of text (by omega)
  obtain ⟨y0, y1, y2, y3, y4, y5, y6, y7, y8, y9, ly, y11, y12, y13, y14, y15, y16, y17, ey, hpi2, hpj⟩ := item_of text (by omega)
  have hi : e2 = 0 → itemE t2 = 0 ∧ itemAt t2 = Pure.normI k d inc holds has dir rn re r3 rm l2 vn ve vr vm nb ix tt ∧ 1 ≤ k ∧ k ≤ 4 ∧ t2.size ≤ 1000000 := fun h0 => Pure.item_parse g5 g6 g7 g8 g9 (by rw [hpi, h0])
  have hk : ∀ x : ItemT, e2 = 0 → Pure.normI k d inc holds has dir rn re r3 rm l2 vn ve vr vm nb ix tt = x → log_ParseItem.f t2 = some x ∧ Pure.printOf x = some (t2, 0) := fun x h0 hx => by
    obtain ⟨i1, i2, _, _, i5⟩ := hi h0
    have hp := Pure.item_print t2 i1
    rw [i2, hx] at hp
    exact ⟨by rw [log_ParseItem.f, if_pos i5, if_pos i1, i2, hx], hp⟩
  refine back_main a0 a1 n e0 rr m A c l k d inc holds has dir rn re r3 rm A2 c2 l2 vn ve vr vm nb ix tt text w (by omega) (by omega) (by omega) (by omega) hC hcc hC2 hcc2 t t2 e e2 hp hpi
    (fun h0 => Pure.print_parse g0 g2 g3 (by rw [hp, h0])) (fun h0 => ⟨(hi h0).2.2.1, (hi h0).2.2.2.1⟩) ?_ ?_ ?_ ?_ p0 p1 q0 q1 q2 q3 lu eu hpt hpu y0 y1 y2 y3 y4 y5 y6 y7 y8 y9 ly y11 y12 y13 y14 y15 y16 y17 ey hpi2 hpj
  · intro h0 hk1
    have := hk _ h0 (by rw [Pure.normI, if_pos hk1])
    simp only [Pure.printOf] at this
    exact this
  · intro h0 hk1
    have := hk _ h0 (by rw [Pure.normI, if_neg (by omega), if_pos hk1])
    simp only [Pure.printOf] at this
    exact this
  · intro h0 hk1
    have := hk _ h0 (by rw [Pure.normI, if_neg (by omega), if_neg (by omega), if_pos hk1])
    simp only [Pure.printOf] at this
    exact this
  · intro h0 hk1
    have := hk _ h0 (by rw [Pure.normI, if_neg (by omega), if_neg (by omega), if_neg (by omega)])
    simp only [Pure.printOf] at this
    exact this
end Go.Proofs.Ytlkemknhmfjdpaa.P
