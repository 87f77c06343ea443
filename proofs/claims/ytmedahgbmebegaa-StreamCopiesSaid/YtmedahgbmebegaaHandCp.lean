/- StreamCopies, by hand. -/
import Derived.Test.YtmedahgbmebegaaHandN
import Derived.Test.YtmedahgbmebegaaStreamLaw2
namespace Go.Proofs.Ytmedahgbmebegaa.P
open Go.Proofs.YtmedahgbmebegaaOv Go.RowKit Go.Proofs.YtmedahgbmebegaaW.PrintWords Go.Proofs.YtmedahgbmebegaaW.PrintLast Go.Proofs.YtmedahgbmebegaaW.PrintMore Go.Proofs.YtmedahgbmebegaaIMap
attribute [local go_sem] max2_int min2_int max_two min_two max_three min_three max_four min_four
set_option linter.unusedVariables false
set_option linter.unusedSimpArgs false
set_option linter.unusedSectionVars false
variable [TheW]

/-- The stream behind its first i messages. -/
def stp (s0 : Int) (l1 : List S37) : Nat → Int × List (Int × S37)
  | 0 => (0, [])
  | i + 1 => match tk s0 (stp s0 l1 i).1 (stp s0 l1 i).2 (rd_T37 l1 (i : Int)) with
    | some (_, _, _, c, l) => (c, l)
    | none => stp s0 l1 i
theorem take_some {s0 c : Int} {l : List (Int × S37)} (h : Inv s0 c l) (m : S37) (h0 : 0 ≤ m.f1) (h4 : m.f1 ≤ 4294967295) : ∃ outs e c' l', tk s0 c l m = some (outs, e, s0, c', l') ∧ Inv s0 c' l' := by
  by_cases hy : c < m.f1 ∧ mget l m.f1 = none ∧ m.f1 ≤ c + s0
  · obtain ⟨outs, l', h1, h2, _⟩ := take_ok h m hy.1 hy.2.1 hy.2.2 h4
    exact ⟨outs, _, _, _, h1, h2⟩
  · exact ⟨_, _, _, _, take_no h m h0 h4 hy, h⟩
theorem stp_ok {s0 : Int} {l1 : List S37} (hs : 1 ≤ s0 ∧ s0 ≤ 64) (hm : ∀ x ∈ l1, 0 ≤ x.f1 ∧ x.f1 ≤ 4294967295) : ∀ i, i ≤ l1.length → Inv s0 (stp s0 l1 i).1 (stp s0 l1 i).2
  | 0, _ => Inv.new s0 hs
  | i + 1, hi => by
    have hx := hm _ (List.getElem_mem (show i < l1.length by omega))
    obtain ⟨outs, e, c', l', h1, h2⟩ := take_some (stp_ok hs hm i (by omega)) (rd_T37 l1 (i : Int)) (by rw [rd_is (by omega)]; exact hx.1) (by rw [rd_is (by omega)]; exact hx.2)
    rw [stp, h1]
    exact h2
theorem stp_take {s0 : Int} {l1 : List S37} (hs : 1 ≤ s0 ∧ s0 ≤ 64) (hm : ∀ x ∈ l1, 0 ≤ x.f1 ∧ x.f1 ≤ 4294967295) (i : Nat) (hi : i < l1.length) : ∃ outs e, stream_Take.f s0 (stp s0 l1 i).1 (stp s0 l1 i).2 (rd_T37 l1 (i : Int)).f0 (rd_T37 l1 (i : Int)).f1 (rd_T37 l1 (i : Int)).f2 (rd_T37 l1 (i : Int)).f3 (rd_T37 l1 (i : Int)).f4 (rd_T37 l1 (i : Int)).f5 = some (outs, e, s0, (stp s0 l1 (i + 1)).1, (stp s0 l1 (i + 1)).2) := by
  have hx := hm _ (List.getElem_mem hi)
  obtain ⟨outs, e, c', l', h1, h2⟩ := take_some (stp_ok hs hm i (by omega)) (rd_T37 l1 (i : Int)) (by rw [rd_is hi]; exact hx.1) (by rw [rd_is hi]; exact hx.2)
  refine ⟨outs, e, ?_⟩
  rw [stp, h1]
  exact h1
theorem cells37 {w W : World} {A : Option Addr} {n : Nat} {xs : List S37} (h : Kd.C k37 w A n xs) (hb : Below w.heap.size w W) (i : Nat) (h1 : i < n) : ∃ ad, A = some ad ∧ W.cell? (ad.add (i * 6)) = some (.int .i64 (rd_T37 xs (i : Int)).f0) ∧ W.cell? ⟨(ad.add (i * 6)).block, (ad.add (i * 6)).off + 1, none⟩ = some (.int .u32 (rd_T37 xs (i : Int)).f1) ∧ W.cell? ⟨(ad.add (i * 6)).block, (ad.add (i * 6)).off + 2, none⟩ = some (.int .u64 (rd_T37 xs (i : Int)).f2) ∧ W.cell? ⟨(ad.add (i * 6)).block, (ad.add (i * 6)).off + 3, none⟩ = some (.int .i64 (rd_T37 xs (i : Int)).f3) ∧
    W.cell? ⟨(ad.add (i * 6)).block, (ad.add (i * 6)).off + 4, none⟩ = some (.slice (rd_T37 xs (i : Int)).f4.A (rd_T37 xs (i : Int)).f4.n (rd_T37 xs (i : Int)).f4.c) ∧ W.cell? ⟨(ad.add (i * 6)).block, (ad.add (i * 6)).off + 5, none⟩ = some (.string (rd_T37 xs (i : Int)).f5) := by
  obtain ⟨ad, e, a0, a1, a2, a3, a4, a5⟩ := at_T37 h (i : Int) (by omega) (by omega)
  rw [Int.toNat_natCast] at a0 a1 a2 a3 a4 a5
  exact ⟨ad, e, (hb.cell (World.block_lt_of_cell? w _ a0)).trans a0, (hb.cell (World.block_lt_of_cell? w _ a1)).trans a1, (hb.cell (World.block_lt_of_cell? w _ a2)).trans a2, (hb.cell (World.block_lt_of_cell? w _ a3)).trans a3, (hb.cell (World.block_lt_of_cell? w _ a4)).trans a4, (hb.cell (World.block_lt_of_cell? w _ a5)).trans a5⟩
def okMs (l1 : List S37) : Prop := ∀ x ∈ l1, 0 ≤ x.f1 ∧ x.f1 ≤ 4294967295
instance (l1 : List S37) : Decidable (okMs l1) := by unfold okMs; infer_instance
def consortlaw10_StreamCopies.f (a0 : Int) (l1 : List S37) (a2 : Int) : Option Bool := if okMs l1 then some true else none
theorem C37_below {w W : World} {A : Option Addr} {n : Nat} {l : List S37} (h : Kd.C k37 w A n l) (hb : Below w.heap.size w W) : Kd.C k37 W A n l :=
  ⟨h.1, h.2.1, fun hn => by
    obtain ⟨ad, e, hc⟩ := h.2.2 hn
    refine ⟨ad, e, fun j p hj => ?_⟩
    obtain ⟨cs, hl, hK, hcs⟩ := hc j p hj
    exact ⟨cs, hl, k37_open hK ▸ k37_mk W p, fun i u hu => pw_cell_below hb (hcs i u hu)⟩⟩
set_option maxHeartbeats 8000000 in
set_option maxRecDepth 100000 in
theorem copies_few (a0 : Int) (A1 : Option Addr) (c1 : Nat) (l1 : List S37) (a2 : Int) (w : World) (hr1 : Kd.C k37 w A1 l1.length l1) (hc1 : l1.length ≤ c1) (hf : consortlaw03_Few.f 400 l1 = some false) : Calls Try.prog 6 #[.int .i64 a0, .slice A1 l1.length c1, .int .i64 a2] w fun e w' => e = .returned (.bool true) ∧ Below w.heap.size w w' := by
  have HC := Aside0.mk hr1
  have HCC := Aside0.mk hc1
  have HF := Aside0.mk hf
  clear hr1 hc1 hf
  go_enter Try.func6, Try.ntmps6
  go_wp2_with (first | (go_at_call 7; (with_reducible refine (consortlaw10_awake.calls true _ stream_awake_is).mono ?_); rintro e w1 ⟨rfl, hb⟩; have HB1 := Aside0.mk hb; clear hb) | (go_at_call 8; (with_reducible refine (consortlaw03_Few.calls 400 A1 c1 l1 false _ (C37_below HC.out HB1.out) HCC.out HF.out).mono ?_); rintro e w2 ⟨rfl, hb⟩; have HB2 := Aside0.mk (below_step HB1.out hb); clear hb))
  go_ret
  exact ⟨rfl, HB2.out⟩
set_option maxHeartbeats 8000000 in
set_option maxRecDepth 100000 in
theorem copies_at (a0 : Int) (A1 : Option Addr) (c1 : Nat) (l1 : List S37) (a2 : Int) (w : World) (hr1 : Kd.C k37 w A1 l1.length l1) (hc1 : l1.length ≤ c1) (hf : consortlaw03_Few.f 400 l1 = some true) (ha : a2 < 0 ∨ (l1.length : Int) < a2) : Calls Try.prog 6 #[.int .i64 a0, .slice A1 l1.length c1, .int .i64 a2] w fun e w' => e = .returned (.bool true) ∧ Below w.heap.size w w' := by
  have HC := Aside0.mk hr1
  have HCC := Aside0.mk hc1
  have HF := Aside0.mk hf
  clear hr1 hc1 hf
  by_cases h0 : a2 < 0
  · have b0 : decide (a2 < 0) = true := decide_eq_true h0
    clear ha h0
    go_enter Try.func6, Try.ntmps6
    go_wp2_with (first | (go_at_call 7; (with_reducible refine (consortlaw10_awake.calls true _ stream_awake_is).mono ?_); rintro e w1 ⟨rfl, hb⟩; have HB1 := Aside0.mk hb; clear hb) | (go_at_call 8; (with_reducible refine (consortlaw03_Few.calls 400 A1 c1 l1 true _ (C37_below HC.out HB1.out) HCC.out HF.out).mono ?_); rintro e w2 ⟨rfl, hb⟩; have HB2 := Aside0.mk (below_step HB1.out hb); clear hb))
    go_ret
    exact ⟨rfl, HB2.out⟩
  · have b0 : decide (a2 < 0) = false := decide_eq_false h0
    have b1 : decide ((l1.length : Int) < a2) = true := decide_eq_true (by omega)
    clear ha h0
    go_enter Try.func6, Try.ntmps6
    go_wp2_with (first | (go_at_call 7; (with_reducible refine (consortlaw10_awake.calls true _ stream_awake_is).mono ?_); rintro e w1 ⟨rfl, hb⟩; have HB1 := Aside0.mk hb; clear hb) | (go_at_call 8; (with_reducible refine (consortlaw03_Few.calls 400 A1 c1 l1 true _ (C37_below HC.out HB1.out) HCC.out HF.out).mono ?_); rintro e w2 ⟨rfl, hb⟩; have HB2 := Aside0.mk (below_step HB1.out hb); clear hb))
    go_ret
    exact ⟨rfl, HB2.out⟩
set_option maxHeartbeats 8000000 in
set_option maxRecDepth 100000 in
theorem copies_walk (a0 : Int) (A1 : Option Addr) (c1 : Nat) (l1 : List S37) (n : Nat) (w : World) (hr1 : Kd.C k37 w A1 l1.length l1) (hc1 : l1.length ≤ c1) (hf : consortlaw03_Few.f 400 l1 = some true) (hn : n ≤ l1.length) (hl : l1.length ≤ 301) (hm : okMs l1) : Calls Try.prog 6 #[.int .i64 a0, .slice A1 l1.length c1, .int .i64 (n : Int)] w fun e w' => e = .returned (.bool true) ∧ Below w.heap.size w w' := by
  have HC := Aside0.mk hr1
  have HCC := Aside0.mk hc1
  have HF := Aside0.mk hf
  clear hr1 hc1 hf
  obtain ⟨s0, hnw, hs⟩ : ∃ s, stream_New.f a0 = some (s, 0, []) ∧ 1 ≤ s ∧ s ≤ 64 := ⟨mx 1 (mn a0 64), rfl, by unfold mx mn; (repeat' split) <;> omega, by unfold mx mn; (repeat' split) <;> omega⟩
  have HNW := Aside0.mk hnw
  have HST := Aside0.mk (fun i hi => stp_take hs hm i hi)
  have HIN := Aside0.mk (fun i hi => (stp_ok hs hm i hi).len)
  have HN := Aside0.mk hn
  have HL := Aside0.mk hl
  have b0 : decide ((n : Int) < 0) = false := decide_eq_false (by omega)
  have b1 : decide ((l1.length : Int) < (n : Int)) = false := decide_eq_false (by omega)
  have b2 : (l1.length < n) = False := eq_false (by omega)
  clear hnw hs hm hn hl
  go_enter Try.func6, Try.ntmps6
  go_upto_region 6 with (first | (go_at_call 7; (with_reducible refine (consortlaw10_awake.calls true _ stream_awake_is).mono ?_); rintro e w1 ⟨rfl, hb⟩; have HB1 := Aside0.mk hb; clear hb) | (go_at_call 8; (with_reducible refine (consortlaw03_Few.calls 400 A1 c1 l1 true _ (C37_below HC.out HB1.out) HCC.out HF.out).mono ?_); rintro e w2 ⟨rfl, hb⟩; have HB2 := Aside0.mk (below_step HB1.out hb); clear hb) | (go_at_call 9; (with_reducible refine (stream_New.calls a0 s0 0 [] w _ HB2.out HNW.out).mono ?_); rintro e w3 ⟨g, rfl, hi, hb, hb2⟩; obtain ⟨mb, hblk, hgg, hgm, hmp⟩ := hi; have HS3 := Aside0.mk (show Sx w w3 g mb s0 (stp s0 l1 0).1 (stp s0 l1 0).2 from ⟨hblk, hmp, hgg, hgm⟩); have HB3 := Aside0.mk hb; clear hb hb2 hblk hgg hgm hmp))
  go_wp2
  go_loopg [8] (n + 1) (fun kq v8 wr => ∃ i : Nat, v8 = .int .i64 (i : Int) ∧ Aside0 (n + 1 ≤ i + kq) ∧ Aside0 (i ≤ n) ∧ Aside0 (Sx w wr g mb s0 (stp s0 l1 i).1 (stp s0 l1 i).2) ∧ Aside0 (Below w.heap.size w wr))
  case atStart => exact ⟨0, rfl, ⟨by omega⟩, ⟨by omega⟩, HS3, HB3⟩
  case round =>
    obtain ⟨i, rfl, HK, HLE, HS, HBr⟩ := hrel
    cases gk with
    | zero => exact absurd HK.out (by have := HLE.out; omega)
    | succ k1 =>
      by_cases hj : i < n
      · have b : decide ((i : Int) < (n : Int)) = true := decide_eq_true (by omega)
        have hjl : i < l1.length := by have := HN.out; omega
        obtain ⟨ad, hA, hx0, hx1, hx2, hx3, hx4, hx5⟩ := cells37 HC.out HBr.out i hjl
        cases hA
        obtain ⟨outs, e0, ht⟩ := HST.out i hjl
        have HT := Aside0.mk ht
        have HW := Aside0.mk (show wrap64 ((i : Int) + 1) = ((i + 1 : Nat) : Int) by have := HL.out; rw [w64_ (by omega)]; omega)
        have HJ := Aside0.mk hj
        clear ht
        go_wp2_with (first | (go_at_call 11; (with_reducible refine (stream_Take.callsM g mb s0 (stp s0 l1 i).1 (stp s0 l1 i).2 (rd_T37 l1 (i : Int)).f0 (rd_T37 l1 (i : Int)).f1 (rd_T37 l1 (i : Int)).f2 (rd_T37 l1 (i : Int)).f3 (rd_T37 l1 (i : Int)).f4 (rd_T37 l1 (i : Int)).f5 outs e0 s0 (stp s0 l1 (i + 1)).1 (stp s0 l1 (i + 1)).2 w _ (HS.out.st HBr.out) HT.out).mono ?_); rintro _ wn ⟨v0, rfl, _, hst⟩; have HS' := Aside0.mk hst.sx; have HB' := Aside0.mk hst.bel;  clear hst))
        go_roundg k1
        case measure => exact Nat.lt_succ_self _
        case rel => exact ⟨i + 1, congrArg _ HW.out, ⟨by have := HK.out; omega⟩, ⟨by have := HJ.out; omega⟩, HS', HB'⟩
      · have hi : n = i := by have := HLE.out; omega
        subst hi
        have b : decide ((n : Int) < (n : Int)) = false := decide_eq_false (by omega)
        clear hj HK HLE
        go_wp2_with (first | (go_at_call 19; (with_reducible refine (stream_Copy.callsM HS.out HBr.out.size).mono ?_); rintro _ w5 ⟨g2, mb2, rfl, hc, hg2, hm2, hb⟩; have HS5 := Aside0.mk (HS.out.below hb); have HC5 := Aside0.mk hc; have HB5 := Aside0.mk (below_step HBr.out hb); have HNE := Aside0.mk (show g ≠ g2 ∧ mb ≠ mb2 from ⟨fun e => by have := blk_lt HS.out.blk; omega, fun e => by have := HS.out.mp.lt; omega⟩); clear hc hg2 hm2 hb) | (go_at_call 16; (with_reducible refine (stream_Count.callsM HS5.out).mono ?_); rintro _ _ ⟨rfl, rfl⟩) | (go_at_call 17; (with_reducible refine (stream_Held.callsM HS5.out (by have := HIN.out (n) (by have := HN.out; omega); omega)).mono ?_); rintro _ _ ⟨rfl, rfl⟩))
        go_loopg [12] (l1.length + 1) (fun kq v8 wr => ∃ i : Nat, v8 = .int .i64 (i : Int) ∧ Aside0 (l1.length + 1 ≤ i + kq) ∧ Aside0 (i ≤ l1.length) ∧ Aside0 (Sx w wr g mb s0 (stp s0 l1 i).1 (stp s0 l1 i).2) ∧ Aside0 (Below w.heap.size w wr) ∧ Aside0 (Sx w wr g2 mb2 s0 (stp s0 l1 n).1 (stp s0 l1 n).2))
        case atStart => exact ⟨n, rfl, ⟨by omega⟩, HN, HS5, HB5, HC5⟩
        case round =>
          obtain ⟨i, rfl, HK, HLE, HS, HBr, HC2⟩ := hrel
          cases gk with
          | zero => exact absurd HK.out (by have := HLE.out; omega)
          | succ k1 =>
            by_cases hj : i < l1.length
            · have b : decide ((i : Int) < (l1.length : Int)) = true := decide_eq_true (by omega)
              have hjl : i < l1.length := by have := HN.out; omega
              obtain ⟨ad, hA, hx0, hx1, hx2, hx3, hx4, hx5⟩ := cells37 HC.out HBr.out i hjl
              cases hA
              obtain ⟨outs, e0, ht⟩ := HST.out i hjl
              have HT := Aside0.mk ht
              have HW := Aside0.mk (show wrap64 ((i : Int) + 1) = ((i + 1 : Nat) : Int) by have := HL.out; rw [w64_ (by omega)]; omega)
              have HJ := Aside0.mk hj
              clear ht
              go_wp2_with (first | (go_at_call 11; (with_reducible refine (stream_Take.callsM g mb s0 (stp s0 l1 i).1 (stp s0 l1 i).2 (rd_T37 l1 (i : Int)).f0 (rd_T37 l1 (i : Int)).f1 (rd_T37 l1 (i : Int)).f2 (rd_T37 l1 (i : Int)).f3 (rd_T37 l1 (i : Int)).f4 (rd_T37 l1 (i : Int)).f5 outs e0 s0 (stp s0 l1 (i + 1)).1 (stp s0 l1 (i + 1)).2 w _ (HS.out.st HBr.out) HT.out).mono ?_); rintro _ wn ⟨v0, rfl, _, hst⟩; have HS' := Aside0.mk hst.sx; have HB' := Aside0.mk hst.bel; have HC2' := Aside0.mk (HC2.out.other HS.out hst HNE.out.1 HNE.out.2);  clear hst))
              go_roundg k1
              case measure => exact Nat.lt_succ_self _
              case rel => exact ⟨i + 1, congrArg _ HW.out, ⟨by have := HK.out; omega⟩, ⟨by have := HJ.out; omega⟩, HS', HB', HC2'⟩
            · have hi : l1.length = i := by have := HLE.out; omega
              subst hi
              have b : decide ((l1.length : Int) < (l1.length : Int)) = false := decide_eq_false (by omega)
              clear hj HK HLE
              go_wp2_with (first | (go_at_call 16; (with_reducible refine (stream_Count.callsM HC2.out).mono ?_); rintro _ _ ⟨rfl, rfl⟩) | (go_at_call 17; (with_reducible refine (stream_Held.callsM HC2.out (by have := HIN.out (n) (by have := HN.out; omega); omega)).mono ?_); rintro _ _ ⟨rfl, rfl⟩))
              go_loopg [13] (l1.length + 1) (fun kq v8 wr => ∃ i : Nat, v8 = .int .i64 (i : Int) ∧ Aside0 (l1.length + 1 ≤ i + kq) ∧ Aside0 (i ≤ l1.length) ∧ Aside0 (Sx w wr g2 mb2 s0 (stp s0 l1 i).1 (stp s0 l1 i).2) ∧ Aside0 (Below w.heap.size w wr) ∧ Aside0 (Sx w wr g mb s0 (stp s0 l1 l1.length).1 (stp s0 l1 l1.length).2))
              case atStart => exact ⟨n, rfl, ⟨by omega⟩, HN, HC2, HBr, HS⟩
              case round =>
                obtain ⟨i, rfl, HK, HLE, HS, HBr, HS2⟩ := hrel
                cases gk with
                | zero => exact absurd HK.out (by have := HLE.out; omega)
                | succ k1 =>
                  by_cases hj : i < l1.length
                  · have b : decide ((i : Int) < (l1.length : Int)) = true := decide_eq_true (by omega)
                    have hjl : i < l1.length := by have := HN.out; omega
                    obtain ⟨ad, hA, hx0, hx1, hx2, hx3, hx4, hx5⟩ := cells37 HC.out HBr.out i hjl
                    cases hA
                    obtain ⟨outs, e0, ht⟩ := HST.out i hjl
                    have HT := Aside0.mk ht
                    have HW := Aside0.mk (show wrap64 ((i : Int) + 1) = ((i + 1 : Nat) : Int) by have := HL.out; rw [w64_ (by omega)]; omega)
                    have HJ := Aside0.mk hj
                    clear ht
                    go_wp2_with (first | (go_at_call 11; (with_reducible refine (stream_Take.callsM g2 mb2 s0 (stp s0 l1 i).1 (stp s0 l1 i).2 (rd_T37 l1 (i : Int)).f0 (rd_T37 l1 (i : Int)).f1 (rd_T37 l1 (i : Int)).f2 (rd_T37 l1 (i : Int)).f3 (rd_T37 l1 (i : Int)).f4 (rd_T37 l1 (i : Int)).f5 outs e0 s0 (stp s0 l1 (i + 1)).1 (stp s0 l1 (i + 1)).2 w _ (HS.out.st HBr.out) HT.out).mono ?_); rintro _ wn ⟨v0, rfl, _, hst⟩; have HS' := Aside0.mk hst.sx; have HB' := Aside0.mk hst.bel; have HS2' := Aside0.mk (HS2.out.other HS.out hst (fun e => HNE.out.1 e.symm) (fun e => HNE.out.2 e.symm));  clear hst))
                    go_roundg k1
                    case measure => exact Nat.lt_succ_self _
                    case rel => exact ⟨i + 1, congrArg _ HW.out, ⟨by have := HK.out; omega⟩, ⟨by have := HJ.out; omega⟩, HS', HB', HS2'⟩
                  · have hi : l1.length = i := by have := HLE.out; omega
                    subst hi
                    have b : decide ((l1.length : Int) < (l1.length : Int)) = false := decide_eq_false (by omega)
                    clear hj HK HLE
                    go_wp2_with (first | (go_at_call 16; (with_reducible refine (stream_Count.callsM HS.out).mono ?_); rintro _ _ ⟨rfl, rfl⟩) | (go_at_call 16; (with_reducible refine (stream_Count.callsM HS2.out).mono ?_); rintro _ _ ⟨rfl, rfl⟩) | (go_at_call 17; (with_reducible refine (stream_Held.callsM HS.out (by have := HIN.out (l1.length) (by have := HN.out; omega); omega)).mono ?_); rintro _ _ ⟨rfl, rfl⟩) | (go_at_call 17; (with_reducible refine (stream_Held.callsM HS2.out (by have := HIN.out (l1.length) (by have := HN.out; omega); omega)).mono ?_); rintro _ _ ⟨rfl, rfl⟩))
                    go_ret
                    exact ⟨by simp, HBr.out⟩
theorem consortlaw10_StreamCopies.calls (a0 : Int) (A1 : Option Addr) (c1 : Nat) (l1 : List S37) (a2 : Int) (w : World) (hr1 : Kd.C k37 w A1 l1.length l1) (hc1 : l1.length ≤ c1) (hW : Below TheW.w0.heap.size TheW.w0 w) (h : consortlaw10_StreamCopies.f a0 l1 a2 = some true) : Calls Try.prog 6 #[.int .i64 a0, .slice A1 l1.length c1, .int .i64 a2] w fun e w' => e = .returned (.bool true) ∧ Below w.heap.size w w' := by
  unfold consortlaw10_StreamCopies.f at h
  by_cases hm : okMs l1
  rotate_left
  · rw [if_neg hm] at h
    cases h
  obtain ⟨b, hb, hbl⟩ := few_is l1 400 (by omega)
  cases b with
  | false => exact copies_few a0 A1 c1 l1 a2 w hr1 hc1 hb
  | true =>
    by_cases ha : a2 < 0 ∨ (l1.length : Int) < a2
    · exact copies_at a0 A1 c1 l1 a2 w hr1 hc1 hb ha
    · obtain ⟨n, rfl⟩ := Int.eq_ofNat_of_zero_le (show 0 ≤ a2 by omega)
      exact copies_walk a0 A1 c1 l1 n w hr1 hc1 hb (by omega) (hbl rfl) hm
end Go.Proofs.Ytmedahgbmebegaa.P
