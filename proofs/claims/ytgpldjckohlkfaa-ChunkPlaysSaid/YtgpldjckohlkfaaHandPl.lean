/- ChunkPlays, by hand. -/
import Derived.Test.YtgpldjckohlkfaaHandBk
import Derived.Test.YtgpldjckohlkfaaPlayT
namespace Go.Proofs.Ytgpldjckohlkfaa.P
open Go.Proofs.YtgpldjckohlkfaaOv Go.RowKit Go.Proofs.YtgpldjckohlkfaaW.PrintWords Go.Proofs.YtgpldjckohlkfaaW.PrintLast Go.Proofs.YtgpldjckohlkfaaW.PrintMore Go.Proofs.YtgpldjckohlkfaaIMap
attribute [local go_sem] max2_int min2_int max_two min_two max_three min_three max_four min_four
set_option linter.unusedVariables false
set_option linter.unusedSimpArgs false

theorem cells42 {w W : World} {A : Option Addr} {n : Nat} {xs : List S42} (h : Kd.C k42 w A n xs) (hb : Below w.heap.size w W) (i : Nat) (h1 : i < n) : ∃ ad, A = some ad ∧ W.cell? ⟨(ad.add (i * 18)).block, (ad.add (i * 18)).off + 1, none⟩ = some (.string (rd_T42 xs (i : Int)).f1) ∧
    W.cell? ⟨(ad.add (i * 18)).block, (ad.add (i * 18)).off + 10, none⟩ = some (.slice (rd_T42 xs (i : Int)).f6.f1.A (rd_T42 xs (i : Int)).f6.f1.n (rd_T42 xs (i : Int)).f6.f1.c) := by
  obtain ⟨ad, e, a0, a1, a2, a3, a4, a5, a6, a7, a8, a9, a10, _⟩ := at_T42 (C42_below h hb) (i : Int) (by omega) (by omega)
  rw [Int.toNat_natCast] at a1 a10
  exact ⟨ad, e, a1, a10⟩
/-- The document's list m, in the block g8. -/
structure MX (w2 W : World) (g8 : Nat) (a0 : Int) (l : List S38) (A : Option Addr) (c : Nat) : Prop where
  b8 : W.heap[g8]? = some (.cells #[.int .u64 a0, .slice A l.length c] 54 (0, 0))
  h8 : w2.heap.size ≤ g8
  R : Kd.R k38 38 W w2.heap.size (fun _ => True) (.slice A l.length c) l
section
variable {w2 w W W1 : World} {g8 g mb : Nat} {a0 s0 s1 : Int} {l : List S38} {A : Option Addr} {c : Nat}
theorem R_below {ok : Nat → Prop} {base : Nat} {v : Value} (h : Kd.R k38 38 W base ok v l) (hb : Below W.heap.size W W1) : Kd.R k38 38 W1 base (fun _ => True) v l :=
  Kd.R_mono (Kd.R_move (Kd.R_bound h) (fun k hk => hb.block k hk.2.2.1)) (fun _ _ => trivial)
theorem MX.below (h : MX w2 W g8 a0 l A c) (hb : Below W.heap.size W W1) : MX w2 W1 g8 a0 l A c :=
  ⟨(hb.block g8 (blk_lt h.b8)).trans h.b8, h.h8, R_below h.R hb⟩
theorem MX.st (h : MX w2 w g8 a0 l A c) {r0 r1 : Int} {l1 l2 : List (Int × ByteArray)} (h1 : Sx w2 w g mb r0 r1 l1) (hs : St w2 w W g mb s0 s1 l2) : MX w2 W g8 a0 l A c := by
  have n1 : g8 ≠ g := fun e => by have := h.b8; rw [e, h1.blk] at this; simp at this
  have n2 : g8 ≠ mb := fun e => by obtain ⟨es, cl, hm, _⟩ := h1.mp; have := h.b8; rw [e, hm] at this; simp at this
  have hk : KeepM w W g := by
    obtain ⟨es, cl, hm, _⟩ := h1.mp
    exact ⟨hs.sz, mb, es, cl, hm, fun i hi a b => hs.keep i hi a b⟩
  exact ⟨(hs.keep g8 (blk_lt h.b8) n1 n2).trans h.b8, h.h8, Kd.R_mono (Kd.R_keep (IsS65.apart h1.is h.R (by decide)) hk (fun _ hh => hh.2)) (fun _ _ => trivial)⟩
theorem MX.new (hb : w2.heap.size ≤ W.heap.size) : MX w2 (W.alloc (.cells #[.int .u64 a0, .slice none 0 0] 54)) W.heap.size a0 [] none 0 :=
  ⟨heap_alloc_new W _, hb, fun k hk => by simp [Value.ownBlock] at hk, OwnRow.none_ _ _ _ _ _⟩
theorem Sx.far {l1 : List (Int × ByteArray)} {cs : Array Value} (h : Sx w2 W g mb s0 s1 l1) (hb : W.heap[g8]? = some (.cells cs 54 (0, 0))) (i : Nat) (u : Value) : Sx w2 (W.setCell ⟨g8, i, none⟩ u) g mb s0 s1 l1 := by
  have n1 : g ≠ g8 := fun e => by have := h.blk; rw [e, hb] at this; simp at this
  exact ⟨blk_far h.blk n1 u, h.mp.setAny _ _, h.gg, h.gm⟩
end
theorem item42 {w : World} {A : Option Addr} {ll : List S42} (h : Kd.C k42 w A ll.length ll) (hsz : ∀ x ∈ ll, x.f1.size ≤ 140737488351232) (j : Nat) (hj : j < ll.length) : ∃ (Y : S38) (ad : Addr), A = some ad ∧ Y.f1.size ≤ 140737488351232 ∧
    ∀ W, Below w.heap.size w W → (Instr.loadAt 42 (.pointer (some (ad.add (j * 18))))).run Try.prog W = .ok (.agg #[.int .i64 Y.f0, .string Y.f1, .int .u32 Y.f2, .int .u64 Y.f3, .bool Y.f4, .bool Y.f5, .int .u64 Y.f6.f0.f0, .int .u64 Y.f6.f0.f1.f0, .int .i64 Y.f6.f0.f1.f1, .int .u64 Y.f6.f0.f2, .slice Y.f6.f1.A Y.f6.f1.n Y.f6.f1.c, .int .u64 Y.f7.f0, .int .u64 Y.f7.f1.f0, .int .i64 Y.f7.f1.f1, .int .u64 Y.f7.f2, .int .u64 Y.f8, .int .i64 Y.f9, .int .i64 Y.f10]) W := by
  obtain ⟨ad, e, _⟩ := h.2.2 (by omega)
  obtain ⟨X, hX⟩ : ∃ X, X = rd_T42 ll (j : Int) := ⟨_, rfl⟩
  have hm : X ∈ ll := by
    rw [hX]
    unfold rd_T42
    rw [Int.toNat_natCast, List.getD_eq_getElem?_getD, List.getElem?_eq_getElem hj, Option.getD_some]
    exact List.getElem_mem hj
  refine ⟨⟨X.f0, X.f1, X.f2, X.f3, X.f4, X.f5, ⟨⟨X.f6.f0.f0, ⟨X.f6.f0.f1.f0, X.f6.f0.f1.f1⟩, X.f6.f0.f2⟩, X.f6.f1⟩, ⟨X.f7.f0, ⟨X.f7.f1.f0, X.f7.f1.f1⟩, X.f7.f2⟩, X.f8, X.f9, X.f10⟩, ad, e, hsz X hm, fun W hW => ?_⟩
  have h1 := load42 (C42_below h hW) e (j : Int) (by omega) (by omega)
  rw [Int.toNat_natCast, ← hX] at h1
  exact h1
theorem item_same (Y : S38) : consortlaw19_Item.f Y.f0 Y.f1 Y.f2 Y.f3 Y.f4 Y.f5 Y.f6.f0.f0 Y.f6.f0.f1.f0 Y.f6.f0.f1.f1 Y.f6.f0.f2 Y.f6.f1 Y.f7.f0 Y.f7.f1.f0 Y.f7.f1.f1 Y.f7.f2 Y.f8 Y.f9 Y.f10 = some (Y.f0, Y.f1, Y.f2, Y.f3, Y.f4, Y.f5, Y.f6.f0.f0, Y.f6.f0.f1.f0, Y.f6.f0.f1.f1, Y.f6.f0.f2, Y.f6.f1, Y.f7.f0, Y.f7.f1.f0, Y.f7.f1.f1, Y.f7.f2, Y.f8, Y.f9, Y.f10) := rfl
set_option maxHeartbeats 8000000 in
set_option maxRecDepth 100000 in
theorem pl_main (a0 : Int) (A1 : Option Addr) (c1 : Nat) (ll : List S42) (w : World) (hr1 : Kd.C k42 w A1 ll.length ll) (hc1 : ll.length ≤ c1) (hsz : ∀ x ∈ ll, x.f1.size ≤ 140737488351232) : Calls Try.prog 5 #[.int .u64 a0, .slice A1 ll.length c1] w fun e w' => e = .returned (.bool true) ∧ Below w.heap.size w w' := by
  have HC := Aside0.mk hr1
  have HCC := Aside0.mk hc1
  have HSZ := Aside0.mk hsz
  clear hr1 hc1 hsz
  go_enter Try.func5, Try.ntmps5
  go_upto_region 4 with (first | (go_at_call 6; (with_reducible refine (consortlaw23_awake.calls 60 true _ (Pure.awake_is 60 (by decide))).mono ?_); rintro e w1 ⟨rfl, hb⟩; have HB1 := Aside0.mk hb; clear hb))
  go_wp2
  go_loopg [5, 6] 102 (fun kq v5 v6 wr => ∃ (n : Int) (i : Nat), v5 = .int .i64 n ∧ v6 = .int .i64 (i : Int) ∧ w1 = wr ∧ Aside0 (0 ≤ n ∧ n ≤ 50000) ∧ Aside0 (102 ≤ i + kq) ∧ Aside0 (i ≤ 100 ∧ i ≤ ll.length))
  case atStart => exact ⟨0, 0, rfl, rfl, rfl, ⟨by decide⟩, ⟨by omega⟩, ⟨by omega⟩⟩
  case round =>
    obtain ⟨n, i, rfl, rfl, rfl, HN, HK, HLE⟩ := hrel
    cases gk with
    | zero => exact absurd HK.out (by have := HLE.out; omega)
    | succ k1 =>
      by_cases hi : i < ll.length
      · have b : decide ((i : Int) < (ll.length : Int)) = true := decide_eq_true (by omega)
        obtain ⟨ad, hA, hx1, hx10⟩ := cells42 HC.out HB1.out i hi
        cases hA
        obtain ⟨d, hd⟩ : ∃ d, d = (rd_T42 ll (i : Int)).f1 := ⟨_, rfl⟩
        obtain ⟨pn, hpn⟩ : ∃ pn, pn = (rd_T42 ll (i : Int)).f6.f1 := ⟨_, rfl⟩
        rw [← hd] at hx1
        rw [← hpn] at hx10
        clear hd hpn
        obtain ⟨m, hm, hm0⟩ : ∃ m : Int, (if (50000 : Int) < (d.size : Int) then (50000 : Int) else (d.size : Int)) = m ∧ 0 ≤ m ∧ m ≤ 50000 := ⟨_, rfl, by split <;> omega, by split <;> omega⟩
        obtain ⟨t, ht, ht0⟩ : ∃ t : Int, wrap64 (n + m) = t ∧ 0 ≤ t := ⟨_, rfl, by have := HN.out; rw [Pure.w64 (by omega)]; omega⟩
        have HT := Aside0.mk ht0
        have HW := Aside0.mk (show wrap64 ((i : Int) + 1) = ((i + 1 : Nat) : Int) by have := HLE.out; rw [Pure.w64 (by omega)]; omega)
        clear hm0 ht0
        by_cases h1 : 100 ≤ i
        · have b1 : decide ((100 : Int) ≤ (i : Int)) = true := decide_eq_true (by omega)
          clear h1
          go_wp2
          go_ret
          exact ⟨rfl, HB1.out⟩
        have b1 : decide ((100 : Int) ≤ (i : Int)) = false := decide_eq_false (by omega)
        have HI := Aside0.mk h1
        clear h1
        by_cases h2 : 50000 < t
        · have b2 : decide ((50000 : Int) < t) = true := decide_eq_true h2
          clear h2
          go_wp2
          go_ret
          exact ⟨rfl, HB1.out⟩
        have b2 : decide ((50000 : Int) < t) = false := decide_eq_false h2
        have HT2 := Aside0.mk h2
        clear h2
        by_cases h3 : 100 < pn.n
        · have b3 : decide ((100 : Int) < (pn.n : Int)) = true := decide_eq_true (by omega)
          clear h3
          go_wp2
          go_ret
          exact ⟨rfl, HB1.out⟩
        have b3 : decide ((100 : Int) < (pn.n : Int)) = false := decide_eq_false (by omega)
        clear h3
        have HLT := Aside0.mk hi
        go_wp2
        go_roundg k1
        case measure => exact Nat.lt_succ_self _
        case rel => exact ⟨t, i + 1, rfl, congrArg _ HW.out, rfl, ⟨by have := HT.out; have := HT2.out; omega⟩, ⟨by have := HK.out; omega⟩, ⟨by have := HI.out; have := HLT.out; omega⟩⟩
      · have b : decide ((i : Int) < (ll.length : Int)) = false := decide_eq_false (by omega)
        have HL := Aside0.mk (show ll.length ≤ 100 by have := HLE.out; omega)
        clear HK HLE HN
        go_upto_region 11 with (first | (go_at_call 11; (with_reducible refine (chunk_New.calls a0 a0 0 [] _ _ (Below.refl _ _) rfl).mono ?_); rintro e w3 ⟨g, rfl, hi, hb, _⟩; obtain ⟨mb, hblk, hgg, hgm, hmp⟩ := hi; have HS3 := Aside0.mk (show Sx w1 w3 g mb a0 0 [] from ⟨hblk, hmp, hgg, hgm⟩); have HB3 := Aside0.mk hb; clear hb hblk hgg hgm hmp))
        have HX4 := Aside0.mk (HS3.out.below (below_alloc (Below.refl _ _) (.cells #[.int .u64 a0, .slice none 0 0] 54)))
        have HM4 := Aside0.mk (MX.new (a0 := a0) (w2 := w1) HB3.out.size)
        have HB4 := Aside0.mk (below_alloc HB3.out (.cells #[.int .u64 a0, .slice none 0 0] 54))
        obtain ⟨g8, hg8⟩ : ∃ g8, g8 = w3.heap.size := ⟨_, rfl⟩
        rw [← hg8] at HM4 ⊢
        clear hg8 HS3 HB3 b
        generalize w3.alloc (.cells #[.int .u64 a0, .slice none 0 0] 54) = w4 at HX4 HM4 HB4 ⊢
        have hu54 := Try.underlying54
        go_wp2
        go_loopg [9] (ll.length + 1) (fun kq v9 wq => ∃ (j : Nat) (s1 : Int) (lm : List S38) (Am : Option Addr) (cm : Nat), v9 = .int .i64 (j : Int) ∧ Aside0 (ll.length + 1 ≤ j + kq) ∧ Aside0 (j ≤ ll.length) ∧ Aside0 (Pure.Rel s1 lm) ∧ Aside0 (Sx w1 wq g mb a0 s1 (lm.map Pure.pr)) ∧ Aside0 (MX w1 wq g8 a0 lm Am cm) ∧ Aside0 (Below w1.heap.size w1 wq))
        case atStart => exact ⟨0, 0, [], none, 0, rfl, ⟨by omega⟩, ⟨by omega⟩, ⟨⟨fun h => absurd rfl h, by simp, by simp⟩⟩, HX4, HM4, HB4⟩
        case round =>
          obtain ⟨j, s1, lm, Am, cm, rfl, HK, HLE, HRL, HS, HM, HBq⟩ := hrel
          clear HX4 HM4 HB4
          cases gk with
          | zero => exact absurd HK.out (by have := HLE.out; omega)
          | succ k1 =>
            by_cases hj : j < ll.length
            · have b : decide ((j : Int) < (ll.length : Int)) = true := decide_eq_true (by omega)
              obtain ⟨Y, ad, hA, hy, hld⟩ := item42 HC.out HSZ.out j hj
              cases hA
              have HY := Aside0.mk hy
              have HLD := Aside0.mk hld
              obtain ⟨ok, s2, lm2, hte⟩ : ∃ ok s2 lm2, tkl a0 s1 lm Y = (ok, s2, lm2) := ⟨_, _, _, rfl⟩
              have HTE := Aside0.mk hte
              have htk := tkl_chunk (a0 := a0) (s1 := s1) Y (show lm.length ≤ 1000 by have := HRL.out.len; omega)
              rw [hte] at htk
              have HTK := Aside0.mk htk
              have hrl2 := tkl_rel (a0 := a0) (X := Y) HRL.out hy
              rw [hte] at hrl2
              obtain ⟨z1, o1, hw1, hv1, _⟩ := Pure.whole_same hrl2 a0 100 (by decide)
              obtain ⟨z2, o2, hw2, hv2, _⟩ := Pure.whole_same HRL.out a0 100 (by decide)
              have HRL2 := Aside0.mk (show Pure.Rel s2 lm2 from hrl2)
              have HW1 := Aside0.mk hw1
              have HV1 := Aside0.mk hv1
              have HW2 := Aside0.mk hw2
              have HV2 := Aside0.mk hv2
              have HJ := Aside0.mk hj
              have HW := Aside0.mk (show wrap64 ((j : Int) + 1) = ((j + 1 : Nat) : Int) by have := HL.out; rw [Pure.w64 (by omega)]; omega)
              clear hy hld hte htk hrl2 hw1 hv1 hw2 hv2
              go_upto_region 16 with (first | (go_at_call 14; (with_reducible refine (chunk_Copy.callsM HS.out HBq.out.size).mono ?_); rintro _ w5 ⟨g2, mb2, rfl, hc, hg2, hm2, hb⟩; have HS5 := Aside0.mk (HS.out.below hb); have HC5 := Aside0.mk hc; have HM5 := Aside0.mk (HM.out.below hb); have HB5 := Aside0.mk (below_step HBq.out hb); have HNE := Aside0.mk (show g ≠ g2 ∧ mb ≠ mb2 from ⟨fun e => by have := blk_lt HS.out.blk; omega, fun e => by have := HS.out.mp.lt; omega⟩); clear hc hg2 hm2 hb) | ((with_reducible refine gate_dst (N := 71) rfl ?_); refine load_event rfl (.tmp 70) 42 rfl rfl (HLD.out _ (below_step HB1.out HB5.out)) ?_) | (go_at_call 12; (with_reducible refine (chunk_Take.callsM g mb a0 s1 (lm.map Pure.pr) Y.f0 Y.f1 Y.f2 Y.f3 Y.f4 Y.f5 Y.f6.f0.f0 Y.f6.f0.f1.f0 Y.f6.f0.f1.f1 Y.f6.f0.f2 Y.f6.f1 Y.f7.f0 Y.f7.f1.f0 Y.f7.f1.f1 Y.f7.f2 Y.f8 Y.f9 Y.f10 ok a0 s2 (lm2.map Pure.pr) w1 _ (HS5.out.st HB5.out) HTK.out).mono ?_); rintro _ w6 ⟨rfl, hst⟩; have HS6 := Aside0.mk hst.sx; have HC6 := Aside0.mk (HC5.out.other HS5.out hst HNE.out.1 HNE.out.2); have HM6 := Aside0.mk (HM5.out.st HS5.out hst); have HB6 := Aside0.mk hst.bel; clear hst))
              refine start_ (n := 13) (S := fun w' : World => w'.heap[g8]? = some (.cells #[.int .u64 a0, .slice Am lm.length cm] 54 (0, 0)) ∧ Below w.heap.size w w') (ds := [11]) #[false, false, false, false, false, false, false, false, false, false, false, false, false] (by kernel_rfl) rfl rfl ⟨HM6.out.b8, below_drew (below_step HB1.out HB6.out)⟩ (fun hHeld => ?_)
              have HX := Aside0.mk (show Below w6.heap.size w6 w6.drew from below_drew (Below.refl _ _))
              have HSs := Aside0.mk (HS6.out.below HX.out)
              have HCs := Aside0.mk (HC6.out.below HX.out)
              have HMs := Aside0.mk (HM6.out.below HX.out)
              have HBs := Aside0.mk (below_step HB6.out HX.out)
              clear HX
              generalize w6.drew = ws at HSs HCs HMs HBs hHeld ⊢
              have HSK := Aside0.mk (fun (W : World) (hW : Below ws.heap.size ws W) => (show W.heap[g8]? = some (.cells #[.int .u64 a0, .slice Am lm.length cm] 54 (0, 0)) ∧ Below w.heap.size w W from ⟨(hW.block _ (blk_lt HMs.out.b8)).trans HMs.out.b8, below_step (below_step HB1.out HBs.out) hW⟩))
              have HREF := Aside0.mk (fun (W : World) (hW : Below ws.heap.size ws W) => (show Calls Try.prog 15 #[.agg #[.int .u64 a0, .slice Am lm.length cm], .agg #[.int .i64 Y.f0, .string Y.f1, .int .u32 Y.f2, .int .u64 Y.f3, .bool Y.f4, .bool Y.f5, .int .u64 Y.f6.f0.f0, .int .u64 Y.f6.f0.f1.f0, .int .i64 Y.f6.f0.f1.f1, .int .u64 Y.f6.f0.f2, .slice Y.f6.f1.A Y.f6.f1.n Y.f6.f1.c, .int .u64 Y.f7.f0, .int .u64 Y.f7.f1.f0, .int .i64 Y.f7.f1.f1, .int .u64 Y.f7.f2, .int .u64 Y.f8, .int .i64 Y.f9, .int .i64 Y.f10]] W fun e w' => ∃ A' c', e = .returned (.tuple #[.agg #[.int .u64 a0, .slice A' lm2.length c'], .bool ok]) ∧ Kd.R k38 38 w' w1.heap.size (fun _ => True) (.slice A' lm2.length c') lm2 ∧ Below W.heap.size W w' from by have := refTake_calls (a0 := a0) HRL.out HY.out Am cm W (R_below HMs.out.R hW) (Nat.le_trans HBs.out.size hW.size); rw [HTE.out] at this; exact this))
              refine pure_ (i := 1) (N := some 75) (v := ?_) (a' := ?_) #[false, true, false, false, false, false, false, false, false, false, false, false, false] rfl rfl (by kernel_rfl) (fun _ _ _ h => h) (Or.inl ⟨by rfl, ?_⟩) ?_ ?_
              rotate_left
              · intro w'
                go_simp
                with_reducible rfl
              rotate_left
              · simp only [Act.put, List.setIfInBounds_toArray, List.set_cons_zero, List.set_cons_succ, i64_w, i32_w]
                rfl
              refine pure_ (i := 2) (N := some 76) (v := ?_) (a' := ?_) #[false, true, true, false, false, false, false, false, false, false, false, false, false] rfl rfl (by kernel_rfl) (fun _ _ _ h => h) (Or.inl ⟨by rfl, ?_⟩) ?_ ?_
              rotate_left
              · intro w'
                go_simp
                with_reducible rfl
              rotate_left
              · simp only [Act.put, List.setIfInBounds_toArray, List.set_cons_zero, List.set_cons_succ, i64_w, i32_w]
                rfl
              refine take_ (i := 0) (N := some 74) (v := ?_) (a' := ?_) #[true, true, true, false, false, false, false, false, false, false, false, false, false] rfl rfl (by kernel_rfl) (fun _ _ _ h => h) (Or.inl ⟨by rfl, ?_⟩) hHeld ?_ ?_
              rotate_left
              · rintro w' ⟨t1, t2⟩; have e0_ := cellAt (i := 0) t1 rfl; have e1_ := cellAt (i := 1) t1 rfl
                go_simp
                with_reducible rfl
              rotate_left
              · simp only [Act.put, List.setIfInBounds_toArray, List.set_cons_zero, List.set_cons_succ, i64_w, i32_w]
                rfl
              refine pure_ (i := 3) (N := some 77) (v := ?_) (a' := ?_) #[true, true, true, true, false, false, false, false, false, false, false, false, false] rfl rfl (by kernel_rfl) (fun _ _ _ h => h) (Or.inl ⟨by rfl, ?_⟩) ?_ ?_
              rotate_left
              · intro w'
                go_simp
                with_reducible rfl
              rotate_left
              · simp only [Act.put, List.setIfInBounds_toArray, List.set_cons_zero, List.set_cons_succ, i64_w, i32_w]
                rfl
              refine take_ (i := 4) (N := some 78) (v := ?_) (a' := ?_) #[true, true, true, true, true, false, false, false, false, false, false, false, false] rfl rfl (by kernel_rfl) (fun _ _ _ h => h) (Or.inl ⟨by rfl, ?_⟩) hHeld ?_ ?_
              rotate_left
              · rintro w' ⟨t1, t2⟩
                refine Eq.trans (exec_load (P := Try.prog) (W := w') (.tmp 77) 42 rfl rfl (HLD.out w' t2)) ?_
                with_reducible rfl
              rotate_left
              · simp only [Act.put, List.setIfInBounds_toArray, List.set_cons_zero, List.set_cons_succ, i64_w, i32_w]
                rfl
              refine join_ (σ := Option Addr × Nat × Nat) 2 #[true, true, true, true, true, true, true, true, true, true, true, false, false] (fun s_ => [(79, .agg #[.int .i64 Y.f0, .string Y.f1, .int .u32 Y.f2, .int .u64 Y.f3, .bool Y.f4, .bool Y.f5, .int .u64 Y.f6.f0.f0, .int .u64 Y.f6.f0.f1.f0, .int .i64 Y.f6.f0.f1.f1, .int .u64 Y.f6.f0.f2, .slice Y.f6.f1.A Y.f6.f1.n Y.f6.f1.c, .int .u64 Y.f7.f0, .int .u64 Y.f7.f1.f0, .int .i64 Y.f7.f1.f1, .int .u64 Y.f7.f2, .int .u64 Y.f8, .int .i64 Y.f9, .int .i64 Y.f10]), (80, (.tuple #[.agg #[.int .u64 a0, .slice s_.1 lm2.length s_.2.1], .bool ok])), (73, (.tuple #[.agg #[.int .u64 a0, .slice s_.1 lm2.length s_.2.1], .bool ok])), (81, .agg #[.int .u64 a0, .slice s_.1 lm2.length s_.2.1]), (82, .bool ok), (12, .pointer (some ⟨s_.2.2, 0, none⟩))]) (fun s_ w' => Below ws.heap.size ws w' ∧ Kd.R k38 38 w' w1.heap.size (fun _ => True) (.slice s_.1 lm2.length s_.2.1) lm2 ∧ w'.heap[s_.2.2]? = some (.cells #[.int .u64 0, .slice none 0 0] 54 (0, 0)) ∧ ws.heap.size ≤ s_.2.2) ?_ ?_
              rotate_left
              · intro hCont
                have HB0 := Aside0.mk (Below.refl ws.heap.size ws)
                refine two_ (i := 5) (j := 10) (Ni := some 79) (Nj := some 12) #[true, true, true, true, true, true, false, false, false, false, false, false, false] #[true, true, true, true, true, false, false, false, false, false, true, false, false] rfl rfl rfl rfl (by kernel_rfl) (by decide) (by decide) (fun K hK => ?_) (fun K hK => ?_)
                · refine goes_ Try.func10 (by kernel_rfl) rfl #[.agg #[.int .i64 Y.f0, .string Y.f1, .int .u32 Y.f2, .int .u64 Y.f3, .bool Y.f4, .bool Y.f5, .int .u64 Y.f6.f0.f0, .int .u64 Y.f6.f0.f1.f0, .int .i64 Y.f6.f0.f1.f1, .int .u64 Y.f6.f0.f2, .slice Y.f6.f1.A Y.f6.f1.n Y.f6.f1.c, .int .u64 Y.f7.f0, .int .u64 Y.f7.f1.f0, .int .i64 Y.f7.f1.f1, .int .u64 Y.f7.f2, .int .u64 Y.f8, .int .i64 Y.f9, .int .i64 Y.f10]] (by rfl) rfl rfl (by (try simp only [List.map_toArray, List.map_cons, List.map_nil]); first | done | rfl) ?_
                  refine (consortlaw19_Item.calls Y.f0 Y.f1 Y.f2 Y.f3 Y.f4 Y.f5 Y.f6.f0.f0 Y.f6.f0.f1.f0 Y.f6.f0.f1.f1 Y.f6.f0.f2 Y.f6.f1 Y.f7.f0 Y.f7.f1.f0 Y.f7.f1.f1 Y.f7.f2 Y.f8 Y.f9 Y.f10 Y.f0 Y.f1 Y.f2 Y.f3 Y.f4 Y.f5 Y.f6.f0.f0 Y.f6.f0.f1.f0 Y.f6.f0.f1.f1 Y.f6.f0.f2 Y.f6.f1 Y.f7.f0 Y.f7.f1.f0 Y.f7.f1.f1 Y.f7.f2 Y.f8 Y.f9 Y.f10 ws (item_same Y)).mono ?_
                  rintro _ wa ⟨rfl, hb⟩
                  refine ⟨_, rfl, ?_⟩
                  have HBa := Aside0.mk (below_step HB0.out hb)
                  clear hb
                  refine hK.out _ _ (HSK.out _ HBa.out) (fun hHeld => ?_)
                  clear hK K
                  refine norm_ (a' := ?_) ?_ ?_
                  rotate_left
                  · show Act.put _ (some 79) _ = _
                    simp only [Act.put, List.setIfInBounds_toArray, List.set_cons_zero, List.set_cons_succ, i64_w, i32_w]
                    rfl
                  refine two_ (i := 6) (j := 10) (Ni := some 80) (Nj := some 12) #[true, true, true, true, true, true, true, false, false, false, false, false, false] #[true, true, true, true, true, true, false, false, false, false, true, false, false] rfl rfl rfl rfl (by kernel_rfl) (by decide) (by decide) (fun K hK => ?_) (fun K hK => ?_)
                  · refine goes_ Try.func15 (by kernel_rfl) rfl #[.agg #[.int .u64 a0, .slice Am lm.length cm], .agg #[.int .i64 Y.f0, .string Y.f1, .int .u32 Y.f2, .int .u64 Y.f3, .bool Y.f4, .bool Y.f5, .int .u64 Y.f6.f0.f0, .int .u64 Y.f6.f0.f1.f0, .int .i64 Y.f6.f0.f1.f1, .int .u64 Y.f6.f0.f2, .slice Y.f6.f1.A Y.f6.f1.n Y.f6.f1.c, .int .u64 Y.f7.f0, .int .u64 Y.f7.f1.f0, .int .i64 Y.f7.f1.f1, .int .u64 Y.f7.f2, .int .u64 Y.f8, .int .i64 Y.f9, .int .i64 Y.f10]] (by rfl) rfl rfl (by (try simp only [List.map_toArray, List.map_cons, List.map_nil]); first | done | rfl) ?_
                    refine (HREF.out wa HBa.out).mono ?_
                    rintro _ wb ⟨A2, c2, rfl, hR, hb⟩
                    refine ⟨_, rfl, ?_⟩
                    have HR := Aside0.mk hR
                    have HBb := Aside0.mk (below_step HBa.out hb)
                    clear hb hR
                    refine hK.out _ _ (HSK.out _ HBb.out) (fun hHeld => ?_)
                    clear hK K
                    refine norm_ (a' := ?_) ?_ ?_
                    rotate_left
                    · show Act.put _ (some 80) _ = _
                      simp only [Act.put, List.setIfInBounds_toArray, List.set_cons_zero, List.set_cons_succ, i64_w, i32_w]
                      rfl
                    refine pure_ (i := 7) (N := some 73) (v := ?_) (a' := ?_) #[true, true, true, true, true, true, true, true, false, false, false, false, false] rfl rfl (by kernel_rfl) (fun _ _ _ h => h) (Or.inl ⟨by rfl, ?_⟩) ?_ ?_
                    rotate_left
                    · intro w'
                      go_simp
                      with_reducible rfl
                    rotate_left
                    · simp only [Act.put, List.setIfInBounds_toArray, List.set_cons_zero, List.set_cons_succ, i64_w, i32_w]
                      rfl
                    refine pure_ (i := 8) (N := some 81) (v := ?_) (a' := ?_) #[true, true, true, true, true, true, true, true, true, false, false, false, false] rfl rfl (by kernel_rfl) (fun _ _ _ h => h) (Or.inl ⟨by rfl, ?_⟩) ?_ ?_
                    rotate_left
                    · intro w'
                      go_simp
                      with_reducible rfl
                    rotate_left
                    · simp only [Act.put, List.setIfInBounds_toArray, List.set_cons_zero, List.set_cons_succ, i64_w, i32_w]
                      rfl
                    refine pure_ (i := 9) (N := some 82) (v := ?_) (a' := ?_) #[true, true, true, true, true, true, true, true, true, true, false, false, false] rfl rfl (by kernel_rfl) (fun _ _ _ h => h) (Or.inl ⟨by rfl, ?_⟩) ?_ ?_
                    rotate_left
                    · intro w'
                      go_simp
                      with_reducible rfl
                    rotate_left
                    · simp only [Act.put, List.setIfInBounds_toArray, List.set_cons_zero, List.set_cons_succ, i64_w, i32_w]
                      rfl
                    refine one_ (i := 10) (N := some 12) #[true, true, true, true, true, true, true, true, true, true, true, false, false] rfl rfl (by kernel_rfl) (by decide) (fun K hK => ?_)
                    have HG := Aside0.mk (heap_alloc_new wb (.cells #[.int .u64 0, .slice none 0 0] 54))
                    have HXb := Aside0.mk (show Below wb.heap.size wb (wb.alloc (.cells #[.int .u64 0, .slice none 0 0] 54)) from below_alloc (Below.refl _ _) _)
                    have HBc := Aside0.mk (below_step HBb.out HXb.out)
                    have HR' := Aside0.mk (R_below HR.out HXb.out)
                    refine val_ (w1 := wb.alloc (.cells #[.int .u64 0, .slice none 0 0] 54)) (v := .pointer (some ⟨wb.heap.size, 0, none⟩)) (by rfl) (by first | (go_simp; done) | (go_simp; rfl)) ?_
                    refine hK.out _ _ (HSK.out _ HBc.out) (fun hHeld => ?_)
                    clear hK K
                    refine norm_ (a' := ?_) ?_ ?_
                    rotate_left
                    · show Act.put _ (some 12) _ = _
                      simp only [Act.put, List.setIfInBounds_toArray, List.set_cons_zero, List.set_cons_succ, i64_w, i32_w]
                      rfl
                    obtain ⟨g12, hg12⟩ : ∃ g12, g12 = wb.heap.size := ⟨_, rfl⟩
                    have HGE := Aside0.mk (show ws.heap.size ≤ g12 by rw [hg12]; exact HBb.out.size)
                    rw [← hg12] at HG ⊢
                    clear hg12
                    generalize wb.alloc (.cells #[.int .u64 0, .slice none 0 0] 54) = wc at HG HXb HBc HR' hHeld ⊢
                    exact norm_ (by simp only [putAll, Act.put, List.setIfInBounds_toArray, List.set_cons_zero, List.set_cons_succ]) (hCont (A2, c2, g12) _ ⟨HBc.out, HR'.out, HG.out, HGE.out⟩)
                  · have HG := Aside0.mk (heap_alloc_new wa (.cells #[.int .u64 0, .slice none 0 0] 54))
                    have HXb := Aside0.mk (show Below wa.heap.size wa (wa.alloc (.cells #[.int .u64 0, .slice none 0 0] 54)) from below_alloc (Below.refl _ _) _)
                    have HBb := Aside0.mk (below_step HBa.out HXb.out)
                    refine val_ (w1 := wa.alloc (.cells #[.int .u64 0, .slice none 0 0] 54)) (v := .pointer (some ⟨wa.heap.size, 0, none⟩)) (by rfl) (by first | (go_simp; done) | (go_simp; rfl)) ?_
                    refine hK.out _ _ (HSK.out _ HBb.out) (fun hHeld => ?_)
                    clear hK K
                    refine norm_ (a' := ?_) ?_ ?_
                    rotate_left
                    · show Act.put _ (some 12) _ = _
                      simp only [Act.put, List.setIfInBounds_toArray, List.set_cons_zero, List.set_cons_succ, i64_w, i32_w]
                      rfl
                    obtain ⟨g12, hg12⟩ : ∃ g12, g12 = wa.heap.size := ⟨_, rfl⟩
                    have HGE := Aside0.mk (show ws.heap.size ≤ g12 by rw [hg12]; exact HBa.out.size)
                    rw [← hg12] at HG ⊢
                    clear hg12
                    generalize wa.alloc (.cells #[.int .u64 0, .slice none 0 0] 54) = wb at HG HXb HBb hHeld ⊢
                    refine one_ (i := 6) (N := some 80) #[true, true, true, true, true, true, true, false, false, false, true, false, false] rfl rfl (by kernel_rfl) (by decide) (fun K hK => ?_)
                    refine goes_ Try.func15 (by kernel_rfl) rfl #[.agg #[.int .u64 a0, .slice Am lm.length cm], .agg #[.int .i64 Y.f0, .string Y.f1, .int .u32 Y.f2, .int .u64 Y.f3, .bool Y.f4, .bool Y.f5, .int .u64 Y.f6.f0.f0, .int .u64 Y.f6.f0.f1.f0, .int .i64 Y.f6.f0.f1.f1, .int .u64 Y.f6.f0.f2, .slice Y.f6.f1.A Y.f6.f1.n Y.f6.f1.c, .int .u64 Y.f7.f0, .int .u64 Y.f7.f1.f0, .int .i64 Y.f7.f1.f1, .int .u64 Y.f7.f2, .int .u64 Y.f8, .int .i64 Y.f9, .int .i64 Y.f10]] (by rfl) rfl rfl (by (try simp only [List.map_toArray, List.map_cons, List.map_nil]); first | done | rfl) ?_
                    refine (HREF.out wb HBb.out).mono ?_
                    rintro _ wc ⟨A2, c2, rfl, hR, hb⟩
                    refine ⟨_, rfl, ?_⟩
                    have HR := Aside0.mk hR
                    have HBc := Aside0.mk (below_step HBb.out hb)
                    have HG2 := Aside0.mk ((hb.block _ (blk_lt HG.out)).trans HG.out)
                    clear hb hR
                    refine hK.out _ _ (HSK.out _ HBc.out) (fun hHeld => ?_)
                    clear hK K
                    refine norm_ (a' := ?_) ?_ ?_
                    rotate_left
                    · show Act.put _ (some 80) _ = _
                      simp only [Act.put, List.setIfInBounds_toArray, List.set_cons_zero, List.set_cons_succ, i64_w, i32_w]
                      rfl
                    refine pure_ (i := 7) (N := some 73) (v := ?_) (a' := ?_) #[true, true, true, true, true, true, true, true, false, false, true, false, false] rfl rfl (by kernel_rfl) (fun _ _ _ h => h) (Or.inl ⟨by rfl, ?_⟩) ?_ ?_
                    rotate_left
                    · intro w'
                      go_simp
                      with_reducible rfl
                    rotate_left
                    · simp only [Act.put, List.setIfInBounds_toArray, List.set_cons_zero, List.set_cons_succ, i64_w, i32_w]
                      rfl
                    refine pure_ (i := 8) (N := some 81) (v := ?_) (a' := ?_) #[true, true, true, true, true, true, true, true, true, false, true, false, false] rfl rfl (by kernel_rfl) (fun _ _ _ h => h) (Or.inl ⟨by rfl, ?_⟩) ?_ ?_
                    rotate_left
                    · intro w'
                      go_simp
                      with_reducible rfl
                    rotate_left
                    · simp only [Act.put, List.setIfInBounds_toArray, List.set_cons_zero, List.set_cons_succ, i64_w, i32_w]
                      rfl
                    refine pure_ (i := 9) (N := some 82) (v := ?_) (a' := ?_) #[true, true, true, true, true, true, true, true, true, true, true, false, false] rfl rfl (by kernel_rfl) (fun _ _ _ h => h) (Or.inl ⟨by rfl, ?_⟩) ?_ ?_
                    rotate_left
                    · intro w'
                      go_simp
                      with_reducible rfl
                    rotate_left
                    · simp only [Act.put, List.setIfInBounds_toArray, List.set_cons_zero, List.set_cons_succ, i64_w, i32_w]
                      rfl
                    exact norm_ (by simp only [putAll, Act.put, List.setIfInBounds_toArray, List.set_cons_zero, List.set_cons_succ]) (hCont (A2, c2, g12) _ ⟨HBc.out, HR.out, HG2.out, HGE.out⟩)
                · have HG := Aside0.mk (heap_alloc_new ws (.cells #[.int .u64 0, .slice none 0 0] 54))
                  have HXb := Aside0.mk (show Below ws.heap.size ws (ws.alloc (.cells #[.int .u64 0, .slice none 0 0] 54)) from below_alloc (Below.refl _ _) _)
                  have HBa := Aside0.mk (below_step HB0.out HXb.out)
                  refine val_ (w1 := ws.alloc (.cells #[.int .u64 0, .slice none 0 0] 54)) (v := .pointer (some ⟨ws.heap.size, 0, none⟩)) (by rfl) (by first | (go_simp; done) | (go_simp; rfl)) ?_
                  refine hK.out _ _ (HSK.out _ HBa.out) (fun hHeld => ?_)
                  clear hK K
                  refine norm_ (a' := ?_) ?_ ?_
                  rotate_left
                  · show Act.put _ (some 12) _ = _
                    simp only [Act.put, List.setIfInBounds_toArray, List.set_cons_zero, List.set_cons_succ, i64_w, i32_w]
                    rfl
                  obtain ⟨g12, hg12⟩ : ∃ g12, g12 = ws.heap.size := ⟨_, rfl⟩
                  have HGE := Aside0.mk (show ws.heap.size ≤ g12 by rw [hg12]; exact HB0.out.size)
                  rw [← hg12] at HG ⊢
                  clear hg12
                  generalize ws.alloc (.cells #[.int .u64 0, .slice none 0 0] 54) = wa at HG HXb HBa hHeld ⊢
                  refine one_ (i := 5) (N := some 79) #[true, true, true, true, true, true, false, false, false, false, true, false, false] rfl rfl (by kernel_rfl) (by decide) (fun K hK => ?_)
                  refine goes_ Try.func10 (by kernel_rfl) rfl #[.agg #[.int .i64 Y.f0, .string Y.f1, .int .u32 Y.f2, .int .u64 Y.f3, .bool Y.f4, .bool Y.f5, .int .u64 Y.f6.f0.f0, .int .u64 Y.f6.f0.f1.f0, .int .i64 Y.f6.f0.f1.f1, .int .u64 Y.f6.f0.f2, .slice Y.f6.f1.A Y.f6.f1.n Y.f6.f1.c, .int .u64 Y.f7.f0, .int .u64 Y.f7.f1.f0, .int .i64 Y.f7.f1.f1, .int .u64 Y.f7.f2, .int .u64 Y.f8, .int .i64 Y.f9, .int .i64 Y.f10]] (by rfl) rfl rfl (by (try simp only [List.map_toArray, List.map_cons, List.map_nil]); first | done | rfl) ?_
                  refine (consortlaw19_Item.calls Y.f0 Y.f1 Y.f2 Y.f3 Y.f4 Y.f5 Y.f6.f0.f0 Y.f6.f0.f1.f0 Y.f6.f0.f1.f1 Y.f6.f0.f2 Y.f6.f1 Y.f7.f0 Y.f7.f1.f0 Y.f7.f1.f1 Y.f7.f2 Y.f8 Y.f9 Y.f10 Y.f0 Y.f1 Y.f2 Y.f3 Y.f4 Y.f5 Y.f6.f0.f0 Y.f6.f0.f1.f0 Y.f6.f0.f1.f1 Y.f6.f0.f2 Y.f6.f1 Y.f7.f0 Y.f7.f1.f0 Y.f7.f1.f1 Y.f7.f2 Y.f8 Y.f9 Y.f10 wa (item_same Y)).mono ?_
                  rintro _ wb ⟨rfl, hb⟩
                  refine ⟨_, rfl, ?_⟩
                  have HBb := Aside0.mk (below_step HBa.out hb)
                  have HG' := Aside0.mk ((hb.block _ (blk_lt HG.out)).trans HG.out)
                  clear hb
                  refine hK.out _ _ (HSK.out _ HBb.out) (fun hHeld => ?_)
                  clear hK K
                  refine norm_ (a' := ?_) ?_ ?_
                  rotate_left
                  · show Act.put _ (some 79) _ = _
                    simp only [Act.put, List.setIfInBounds_toArray, List.set_cons_zero, List.set_cons_succ, i64_w, i32_w]
                    rfl
                  refine one_ (i := 6) (N := some 80) #[true, true, true, true, true, true, true, false, false, false, true, false, false] rfl rfl (by kernel_rfl) (by decide) (fun K hK => ?_)
                  refine goes_ Try.func15 (by kernel_rfl) rfl #[.agg #[.int .u64 a0, .slice Am lm.length cm], .agg #[.int .i64 Y.f0, .string Y.f1, .int .u32 Y.f2, .int .u64 Y.f3, .bool Y.f4, .bool Y.f5, .int .u64 Y.f6.f0.f0, .int .u64 Y.f6.f0.f1.f0, .int .i64 Y.f6.f0.f1.f1, .int .u64 Y.f6.f0.f2, .slice Y.f6.f1.A Y.f6.f1.n Y.f6.f1.c, .int .u64 Y.f7.f0, .int .u64 Y.f7.f1.f0, .int .i64 Y.f7.f1.f1, .int .u64 Y.f7.f2, .int .u64 Y.f8, .int .i64 Y.f9, .int .i64 Y.f10]] (by rfl) rfl rfl (by (try simp only [List.map_toArray, List.map_cons, List.map_nil]); first | done | rfl) ?_
                  refine (HREF.out wb HBb.out).mono ?_
                  rintro _ wc ⟨A2, c2, rfl, hR, hb⟩
                  refine ⟨_, rfl, ?_⟩
                  have HR := Aside0.mk hR
                  have HBc := Aside0.mk (below_step HBb.out hb)
                  have HG2 := Aside0.mk ((hb.block _ (blk_lt HG'.out)).trans HG'.out)
                  clear hb hR
                  refine hK.out _ _ (HSK.out _ HBc.out) (fun hHeld => ?_)
                  clear hK K
                  refine norm_ (a' := ?_) ?_ ?_
                  rotate_left
                  · show Act.put _ (some 80) _ = _
                    simp only [Act.put, List.setIfInBounds_toArray, List.set_cons_zero, List.set_cons_succ, i64_w, i32_w]
                    rfl
                  refine pure_ (i := 7) (N := some 73) (v := ?_) (a' := ?_) #[true, true, true, true, true, true, true, true, false, false, true, false, false] rfl rfl (by kernel_rfl) (fun _ _ _ h => h) (Or.inl ⟨by rfl, ?_⟩) ?_ ?_
                  rotate_left
                  · intro w'
                    go_simp
                    with_reducible rfl
                  rotate_left
                  · simp only [Act.put, List.setIfInBounds_toArray, List.set_cons_zero, List.set_cons_succ, i64_w, i32_w]
                    rfl
                  refine pure_ (i := 8) (N := some 81) (v := ?_) (a' := ?_) #[true, true, true, true, true, true, true, true, true, false, true, false, false] rfl rfl (by kernel_rfl) (fun _ _ _ h => h) (Or.inl ⟨by rfl, ?_⟩) ?_ ?_
                  rotate_left
                  · intro w'
                    go_simp
                    with_reducible rfl
                  rotate_left
                  · simp only [Act.put, List.setIfInBounds_toArray, List.set_cons_zero, List.set_cons_succ, i64_w, i32_w]
                    rfl
                  refine pure_ (i := 9) (N := some 82) (v := ?_) (a' := ?_) #[true, true, true, true, true, true, true, true, true, true, true, false, false] rfl rfl (by kernel_rfl) (fun _ _ _ h => h) (Or.inl ⟨by rfl, ?_⟩) ?_ ?_
                  rotate_left
                  · intro w'
                    go_simp
                    with_reducible rfl
                  rotate_left
                  · simp only [Act.put, List.setIfInBounds_toArray, List.set_cons_zero, List.set_cons_succ, i64_w, i32_w]
                    rfl
                  exact norm_ (by simp only [putAll, Act.put, List.setIfInBounds_toArray, List.set_cons_zero, List.set_cons_succ]) (hCont (A2, c2, g12) _ ⟨HBc.out, HR.out, HG2.out, HGE.out⟩)
              rintro ⟨A2, c2, g12⟩ wj ⟨hbj, hR, hG, hGE⟩
              have HBj := Aside0.mk hbj
              have HR := Aside0.mk (show Kd.R k38 38 wj w1.heap.size (fun _ => True) (.slice A2 lm2.length c2) lm2 from hR)
              have HG := Aside0.mk (show wj.heap[g12]? = some (.cells #[.int .u64 0, .slice none 0 0] 54 (0, 0)) from hG)
              have HGE := Aside0.mk (show ws.heap.size ≤ g12 from hGE)
              clear hbj hR hG hGE hHeld
              refine norm_ (a' := ?_) ?_ ?_
              rotate_left
              · show putAll _ _ = _
                simp only [putAll, Act.put, List.setIfInBounds_toArray, List.set_cons_zero, List.set_cons_succ]
                rfl
              have r0_ := cellAt (i := 0) HG.out rfl
              have r1_ := cellAt (i := 1) HG.out rfl
              have f0_ := blk_frozen HG.out 0
              have f1_ := blk_frozen HG.out 1
              refine last_ (i := 11) (N := none) #[true, true, true, true, true, true, true, true, true, true, true, true, false] rfl rfl (by kernel_rfl) (by decide) (fun K hK => ?_)
              refine skip_ (w1 := ?_) (by rfl) rfl ?_ ?_
              rotate_left
              · go_simp
                rfl
              refine hK.out _ _ ?_
              clear hK K r0_ r1_ f0_ f1_
              have HBW := Aside0.mk (show Below ws.heap.size ws ((wj.setCell ⟨g12, 0, none⟩ (.int .u64 a0)).setCell ⟨g12, 1, none⟩ (.slice A2 lm2.length c2)) from below_set (below_set HBj.out HGE.out) HGE.out)
              have HN7 := Aside0.mk (show MX w1 ((wj.setCell ⟨g12, 0, none⟩ (.int .u64 a0)).setCell ⟨g12, 1, none⟩ (.slice A2 lm2.length c2)) g12 a0 lm2 A2 c2 from ⟨by simpa using blk_set (blk_set HG.out 0 (.int .u64 a0)) 1 (.slice A2 lm2.length c2), Nat.le_trans HBs.out.size HGE.out, Kd.R_set (Kd.R_set HR.out HG.out (by decide) 0 (.int .u64 a0)) (blk_set HG.out 0 (.int .u64 a0)) (by decide) 1 (.slice A2 lm2.length c2)⟩)
              have HNG := Aside0.mk (show g8 ≠ g12 from Nat.ne_of_lt (Nat.lt_of_lt_of_le (blk_lt HMs.out.b8) HGE.out))
              generalize (wj.setCell ⟨g12, 0, none⟩ (.int .u64 a0)).setCell ⟨g12, 1, none⟩ (.slice A2 lm2.length c2) = w7 at HBW HN7 ⊢
              have HS7 := Aside0.mk (HSs.out.below HBW.out)
              have HC7 := Aside0.mk (HCs.out.below HBW.out)
              have HM7 := Aside0.mk (HMs.out.below HBW.out)
              have HB7 := Aside0.mk (below_step HBs.out HBW.out)
              refine pure_ (i := 12) (N := some 13) (v := ?_) (a' := ?_) #[true, true, true, true, true, true, true, true, true, true, true, true, true] rfl rfl (by kernel_rfl) (fun _ _ _ h => h) (Or.inl ⟨by rfl, ?_⟩) ?_ ?_
              rotate_left
              · intro w'
                go_simp
                with_reducible rfl
              rotate_left
              · simp only [Act.put, List.setIfInBounds_toArray, List.set_cons_zero, List.set_cons_succ, i64_w, i32_w]
                rfl
              refine done_ (by kernel_rfl) ?_
              go_wp2_with (first | (go_at_call 13; (with_reducible refine (chunk_Whole.callsM g a0 s2 (lm2.map Pure.pr) z1 o1 a0 s2 (lm2.map Pure.pr) w1 _ HS7.out.is HB7.out HW1.out).mono ?_); rintro _ w8 ⟨rfl, hb⟩; have HS8 := Aside0.mk (HS7.out.below hb); have HC8 := Aside0.mk (HC7.out.below hb); have HM8 := Aside0.mk (HM7.out.below hb); have HN8 := Aside0.mk (HN7.out.below hb); have HB8 := Aside0.mk (below_step HB7.out hb); have e0_ := cellAt (i := 0) HN8.out.b8 rfl; have e1_ := cellAt (i := 1) HN8.out.b8 rfl; clear hb) | (go_at_call 16; (with_reducible refine (consortref23_Whole.calls 100 a0 A2 c2 lm2 z1 o1 _ (Kd.R_reads' HN8.out.R).2.2 (Kd.R_reads' HN8.out.R).2.1 HV1.out).mono ?_); rintro _ w9 ⟨rfl, hb⟩; have HS9 := Aside0.mk (HS8.out.below hb); have HC9 := Aside0.mk (HC8.out.below hb); have HM9 := Aside0.mk (HM8.out.below hb); have HN9 := Aside0.mk (HN8.out.below hb); have HB9 := Aside0.mk (below_step HB8.out hb); clear hb e0_ e1_) | (go_at_call 13; (with_reducible refine (chunk_Whole.callsM g2 a0 s1 (lm.map Pure.pr) z2 o2 a0 s1 (lm.map Pure.pr) w1 _ HC9.out.is HB9.out HW2.out).mono ?_); rintro _ w10 ⟨rfl, hb⟩; have HS10 := Aside0.mk (HS9.out.below hb); have HC10 := Aside0.mk (HC9.out.below hb); have HM10 := Aside0.mk (HM9.out.below hb); have HN10 := Aside0.mk (HN9.out.below hb); have HB10 := Aside0.mk (below_step HB9.out hb); have e0_ := cellAt (i := 0) HM10.out.b8 rfl; have e1_ := cellAt (i := 1) HM10.out.b8 rfl; clear hb) | (go_at_call 16; (with_reducible refine (consortref23_Whole.calls 100 a0 Am cm lm z2 o2 _ (Kd.R_reads' HM10.out.R).2.2 (Kd.R_reads' HM10.out.R).2.1 HV2.out).mono ?_); rintro _ w11 ⟨rfl, hb⟩; have HS11 := Aside0.mk (HS10.out.below hb); have HC11 := Aside0.mk (HC10.out.below hb); have HM11 := Aside0.mk (HM10.out.below hb); have HN11 := Aside0.mk (HN10.out.below hb); have HB11 := Aside0.mk (below_step HB10.out hb); clear hb e0_ e1_; have e0_ := cellAt (i := 0) HM11.out.b8 rfl; have e1_ := cellAt (i := 1) HM11.out.b8 rfl; have d0_ := cellAt (i := 0) HN11.out.b8 rfl; have d1_ := cellAt (i := 1) HN11.out.b8 rfl; have f0_ := blk_frozen HM11.out.b8 0; have f1_ := blk_frozen HM11.out.b8 1))
              go_roundg k1
              case measure => exact Nat.lt_succ_self _
              case rel => exact ⟨j + 1, s2, lm2, A2, c2, congrArg _ HW.out, ⟨by have := HK.out; omega⟩, ⟨by have := HJ.out; omega⟩, HRL2, ⟨Sx.far (Sx.far HS11.out HM11.out.b8 0 _) (blk_set HM11.out.b8 0 (.int .u64 a0)) 1 _⟩, ⟨⟨by simpa using blk_set (blk_set HM11.out.b8 0 (.int .u64 a0)) 1 (.slice A2 lm2.length c2), HM11.out.h8, Kd.R_set (Kd.R_set HN11.out.R HM11.out.b8 (by decide) 0 (.int .u64 a0)) (blk_set HM11.out.b8 0 (.int .u64 a0)) (by decide) 1 (.slice A2 lm2.length c2)⟩⟩, ⟨below_set (below_set HB11.out HM11.out.h8) HM11.out.h8⟩⟩
            · have b : decide ((j : Int) < (ll.length : Int)) = false := decide_eq_false (by omega)
              clear HK HLE
              go_wp2
              go_ret
              exact ⟨rfl, below_step HB1.out HBq.out⟩
def consortlaw23_ChunkPlays.f (a0 : Int) (ll : List S42) : Option Bool := if ∀ x ∈ ll, x.f1.size ≤ 140737488351232 then some true else none
theorem consortlaw23_ChunkPlays.calls (a0 : Int) (A1 : Option Addr) (c1 : Nat) (ll : List S42) (w : World) (hr1 : Kd.C k42 w A1 ll.length ll) (hc1 : ll.length ≤ c1) (h : consortlaw23_ChunkPlays.f a0 ll = some true) : Calls Try.prog 5 #[.int .u64 a0, .slice A1 ll.length c1] w fun e w' => e = .returned (.bool true) ∧ Below w.heap.size w w' := by
  unfold consortlaw23_ChunkPlays.f at h
  by_cases hm : ∀ x ∈ ll, x.f1.size ≤ 140737488351232
  · exact pl_main a0 A1 c1 ll w hr1 hc1 hm
  · rw [if_neg hm] at h
    cases h
end Go.Proofs.Ytgpldjckohlkfaa.P
