/- Take of the chunks, by hand. -/
import Derived.Test.YtgpldjckohlkfaaHandA
namespace Go.Proofs.Ytgpldjckohlkfaa.P
open Go.Proofs.YtgpldjckohlkfaaOv Go.RowKit Go.Proofs.YtgpldjckohlkfaaW.PrintWords Go.Proofs.YtgpldjckohlkfaaW.PrintLast Go.Proofs.YtgpldjckohlkfaaW.PrintMore Go.Proofs.YtgpldjckohlkfaaIMap
set_option linter.unusedVariables false
set_option linter.unusedSimpArgs false

/-- The chunks at block g, their map at block mb; but these all is as it was at w. -/
structure St (w0 w W : World) (g mb : Nat) (s0 s1 : Int) (l : List (Int × ByteArray)) : Prop where
  blk : W.heap[g]? = some (.cells #[.int .u64 s0, .int .i64 s1, .map (some mb)] 65 (0, 0))
  mp : MapB W mb .i64 encS l
  gg : w0.heap.size ≤ g
  gm : w0.heap.size ≤ mb
  bel : Below w0.heap.size w0 W
  sz : w.heap.size ≤ W.heap.size
  keep : ∀ i, i < w.heap.size → i ≠ g → i ≠ mb → W.heap[i]? = w.heap[i]?
section
variable {w0 w W W1 : World} {g mb : Nat} {s0 s1 : Int} {l : List (Int × ByteArray)}
theorem St.below (h : St w0 w W g mb s0 s1 l) (hb : Below W.heap.size W W1) : St w0 w W1 g mb s0 s1 l :=
  ⟨(hb.block g (blk_lt h.blk)).trans h.blk, h.mp.below hb, h.gg, h.gm, below_step h.bel hb, Nat.le_trans h.sz hb.size, fun i hi h1 h2 => (hb.block i (Nat.lt_of_lt_of_le hi h.sz)).trans (h.keep i hi h1 h2)⟩
theorem St.is (h : St w0 w W g mb s0 s1 l) : IsS65 w0 W g s0 s1 l := ⟨mb, h.blk, h.gg, h.gm, h.mp⟩
end
theorem zero9 (w : World) : (zeroValue 9).run Try.prog w = .ok (.string ⟨#[]⟩) w := by kernel_rfl
def chunk_Take.no (s0 s1 : Int) (s2 : List (Int × ByteArray)) (a1_0 a1_15 a1_16 a1_17 : Int) : Prop := a1_0 ≠ 4 ∨ a1_15 ≠ s0 ∨ a1_17 < 1 ∨ 16 < a1_17 ∨ a1_16 < 0 ∨ a1_17 ≤ a1_16 ∨ (0 < (s2.length : Int) ∧ a1_17 ≠ s1)
instance (s0 s1 : Int) (s2 : List (Int × ByteArray)) (a1_0 a1_15 a1_16 a1_17 : Int) : Decidable (chunk_Take.no s0 s1 s2 a1_0 a1_15 a1_16 a1_17) := by unfold chunk_Take.no; infer_instance
def chunk_Take.f (s0 s1 : Int) (s2 : List (Int × ByteArray)) (a1_0 : Int) (a1_1 : ByteArray) (a1_2 a1_3 : Int) (a1_4 a1_5 : Bool) (a1_6 a1_7 a1_8 a1_9 : Int) (a1_10 : OV) (a1_11 a1_12 a1_13 a1_14 a1_15 a1_16 a1_17 : Int) : Option (Bool × Int × Int × List (Int × ByteArray)) :=
  if s2.length ≤ 1000000 then
    if chunk_Take.no s0 s1 s2 a1_0 a1_15 a1_16 a1_17 then some (false, s0, s1, s2)
    else if (mget s2 a1_16).isSome = true then some (false, s0, s1, s2)
    else some (decide (((s2.length : Int) + 1) = a1_17), s0, a1_17, s2 ++ [(a1_16, a1_1)])
  else none
theorem look63 {W : World} {mb : Nat} {l : List (Int × ByteArray)} (h : MapIs W mb .i64 encS l) (k : Int) (x : ByteArray) (hx : x = (mget l k).getD ⟨#[]⟩) :
    (Instr.lookup 63 (.map (some mb)) (.int .i64 k) true).run Try.prog W = .ok (.tuple #[.string x, .bool (mget l k).isSome]) W := by
  have hz : ((mget l k).map encS).getD (.string ⟨#[]⟩) = encS x := by rw [hx]; cases mget l k <;> rfl
  have := h.look_ok Try.underlying63 Try.underlying3 (zero9 _) k
  rw [hz] at this
  exact this
set_option maxHeartbeats 8000000 in
set_option maxRecDepth 100000 in
theorem chunk_Take.calls (g : Nat) (s0 s1 : Int) (s2 : List (Int × ByteArray)) (a1_0 : Int) (a1_1 : ByteArray) (a1_2 a1_3 : Int) (a1_4 a1_5 : Bool) (a1_6 a1_7 a1_8 a1_9 : Int) (a1_10 : OV) (a1_11 a1_12 a1_13 a1_14 a1_15 a1_16 a1_17 : Int) (r1 : Bool) (r2 r3 : Int) (r4 : List (Int × ByteArray)) (w0 w : World) (hI : IsS65 w0 w g s0 s1 s2) (hB : Below w0.heap.size w0 w)
    (h : chunk_Take.f s0 s1 s2 a1_0 a1_1 a1_2 a1_3 a1_4 a1_5 a1_6 a1_7 a1_8 a1_9 a1_10 a1_11 a1_12 a1_13 a1_14 a1_15 a1_16 a1_17 = some (r1, r2, r3, r4)) :
    Calls Try.prog 12 #[.pointer (some ⟨g, 0, none⟩), .agg #[.int .i64 a1_0, .string a1_1, .int .u32 a1_2, .int .u64 a1_3, .bool a1_4, .bool a1_5, .int .u64 a1_6, .int .u64 a1_7, .int .i64 a1_8, .int .u64 a1_9, .slice a1_10.A a1_10.n a1_10.c, .int .u64 a1_11, .int .u64 a1_12, .int .i64 a1_13, .int .u64 a1_14, .int .u64 a1_15, .int .i64 a1_16, .int .i64 a1_17]] w fun e w' =>
      e = .returned (.bool r1) ∧ IsS65 w0 w' g r2 r3 r4 ∧ Below w0.heap.size w0 w' ∧ KeepM w w' g := by
  unfold chunk_Take.f at h
  by_cases hl : s2.length ≤ 1000000
  rotate_left
  · rw [if_neg hl] at h
    cases h
  rw [if_pos hl] at h
  have H := Aside0.mk h
  clear h
  obtain ⟨mb, hb, hg0, hm0, hM⟩ := hI
  have hkm : ∀ W, St w0 w W g mb r2 r3 r4 → KeepM w W g := fun W hS => by
    obtain ⟨es, cl, hm, _⟩ := hM
    exact ⟨hS.sz, mb, es, cl, hm, hS.keep⟩
  have HKM := Aside0.mk hkm
  have HS := Aside0.mk (show St w0 w w g mb s0 s1 s2 from ⟨hb, hM, hg0, hm0, hB, Nat.le_refl _, fun _ _ _ _ => rfl⟩)
  clear hb hM hg0 hm0 hB hkm
  have hu := Try.underlying65
  have hu3 := Try.underlying42
  have HLL := Aside0.mk hl
  clear hl
  go_enter Try.func12, Try.ntmps12
  go_wp2_with (first | ((with_reducible refine gate_dst (N := 3) rfl ?_); refine box_event ?hg (N := 3) ?hd (cs := #[.int .i64 a1_0, .string a1_1, .int .u32 a1_2, .int .u64 a1_3, .bool a1_4, .bool a1_5, .int .u64 a1_6, .int .u64 a1_7, .int .i64 a1_8, .int .u64 a1_9, .slice a1_10.A a1_10.n a1_10.c, .int .u64 a1_11, .int .u64 a1_12, .int .i64 a1_13, .int .u64 a1_14, .int .u64 a1_15, .int .i64 a1_16, .int .i64 a1_17]) (t := 42) ?hr ?_; (case hd => rfl); (case hg => rfl); (case hr => first | (go_simp; done) | (go_simp; rfl)); intro gb hg w7 hbox hb; have HS7 := Aside0.mk (HS.out.below hb); have HBX := Aside0.mk hbox; clear hbox hb hg))
  have c0 : w7.cell? ⟨g, 0, none⟩ = some (.int .u64 s0) := (blk_cell HS7.out.blk 0).trans rfl
  have c1 : w7.cell? ⟨g, 1, none⟩ = some (.int .i64 s1) := (blk_cell HS7.out.blk 1).trans rfl
  have c2 : w7.cell? ⟨g, 2, none⟩ = some (.map (some mb)) := (blk_cell HS7.out.blk 2).trans rfl
  have q0 : w7.cell? ⟨gb, 0, none⟩ = some (.int .i64 a1_0) := (blk_cell HBX.out 0).trans rfl
  have q1 : w7.cell? ⟨gb, 1, none⟩ = some (.string a1_1) := (blk_cell HBX.out 1).trans rfl
  have q15 : w7.cell? ⟨gb, 15, none⟩ = some (.int .u64 a1_15) := (blk_cell HBX.out 15).trans rfl
  have q16 : w7.cell? ⟨gb, 16, none⟩ = some (.int .i64 a1_16) := (blk_cell HBX.out 16).trans rfl
  have q17 : w7.cell? ⟨gb, 17, none⟩ = some (.int .i64 a1_17) := (blk_cell HBX.out 17).trans rfl
  have hlenN := fun (n : Nat) ty => (show MapIs (w7.drewN n) mb .i64 encS s2 from HS7.out.mp.is).len (P := Try.prog) (t := 63) ty Try.underlying63 (by have := HLL.out; omega)
  have hlen := fun ty => HS7.out.mp.is.len (P := Try.prog) (t := 63) ty Try.underlying63 (by have := HLL.out; omega)
  obtain ⟨L, hL⟩ : ∃ L, L = (s2.length : Int) := ⟨_, rfl⟩
  rw [← hL] at hlen hlenN
  have HL := Aside0.mk hL
  clear hL
  by_cases d0 : a1_0 ≠ 4
  · have b0 : (a1_0 != 4) = true := bne_iff_ne.mpr d0
    have hno : chunk_Take.no s0 s1 s2 a1_0 a1_15 a1_16 a1_17 := by unfold chunk_Take.no; have := HL.out; omega
    have H1 := H.out
    rw [if_pos hno] at H1
    simp only [Option.some.injEq, Prod.mk.injEq] at H1
    obtain ⟨rfl, rfl, rfl, rfl⟩ := H1
    clear hno
    clear d0
    go_wp2
    go_quiet (fail)
    go_wp2
    go_ret
    exact ⟨rfl, HS7.out.is.drewN _, pw_below_drewN HS7.out.bel _, HKM.out _ (HS7.out.below (pw_below_drewN (Below.refl _ _) _))⟩
  have b0 : (a1_0 != 4) = false := by simpa using d0
  by_cases d1 : a1_15 ≠ s0
  · have b1 : (a1_15 != s0) = true := bne_iff_ne.mpr d1
    have hno : chunk_Take.no s0 s1 s2 a1_0 a1_15 a1_16 a1_17 := by unfold chunk_Take.no; have := HL.out; omega
    have H1 := H.out
    rw [if_pos hno] at H1
    simp only [Option.some.injEq, Prod.mk.injEq] at H1
    obtain ⟨rfl, rfl, rfl, rfl⟩ := H1
    clear hno
    clear d1
    go_wp2
    go_quiet (fail)
    go_wp2
    go_ret
    exact ⟨rfl, HS7.out.is.drewN _, pw_below_drewN HS7.out.bel _, HKM.out _ (HS7.out.below (pw_below_drewN (Below.refl _ _) _))⟩
  have b1 : (a1_15 != s0) = false := by simpa using d1
  by_cases d2 : a1_17 < 1
  · have b2 : (decide (a1_17 < 1)) = true := decide_eq_true d2
    have hno : chunk_Take.no s0 s1 s2 a1_0 a1_15 a1_16 a1_17 := by unfold chunk_Take.no; have := HL.out; omega
    have H1 := H.out
    rw [if_pos hno] at H1
    simp only [Option.some.injEq, Prod.mk.injEq] at H1
    obtain ⟨rfl, rfl, rfl, rfl⟩ := H1
    clear hno
    clear d2
    go_wp2
    go_quiet (fail)
    go_wp2
    go_ret
    exact ⟨rfl, HS7.out.is.drewN _, pw_below_drewN HS7.out.bel _, HKM.out _ (HS7.out.below (pw_below_drewN (Below.refl _ _) _))⟩
  have b2 : (decide (a1_17 < 1)) = false := decide_eq_false d2
  by_cases d3 : 16 < a1_17
  · have b3 : (decide (16 < a1_17)) = true := decide_eq_true d3
    have hno : chunk_Take.no s0 s1 s2 a1_0 a1_15 a1_16 a1_17 := by unfold chunk_Take.no; have := HL.out; omega
    have H1 := H.out
    rw [if_pos hno] at H1
    simp only [Option.some.injEq, Prod.mk.injEq] at H1
    obtain ⟨rfl, rfl, rfl, rfl⟩ := H1
    clear hno
    clear d3
    go_wp2
    go_quiet (fail)
    go_wp2
    go_ret
    exact ⟨rfl, HS7.out.is.drewN _, pw_below_drewN HS7.out.bel _, HKM.out _ (HS7.out.below (pw_below_drewN (Below.refl _ _) _))⟩
  have b3 : (decide (16 < a1_17)) = false := decide_eq_false d3
  by_cases d4 : a1_16 < 0
  · have b4 : (decide (a1_16 < 0)) = true := decide_eq_true d4
    have hno : chunk_Take.no s0 s1 s2 a1_0 a1_15 a1_16 a1_17 := by unfold chunk_Take.no; have := HL.out; omega
    have H1 := H.out
    rw [if_pos hno] at H1
    simp only [Option.some.injEq, Prod.mk.injEq] at H1
    obtain ⟨rfl, rfl, rfl, rfl⟩ := H1
    clear hno
    clear d4
    go_wp2
    go_quiet (fail)
    go_wp2
    go_ret
    exact ⟨rfl, HS7.out.is.drewN _, pw_below_drewN HS7.out.bel _, HKM.out _ (HS7.out.below (pw_below_drewN (Below.refl _ _) _))⟩
  have b4 : (decide (a1_16 < 0)) = false := decide_eq_false d4
  by_cases d5 : a1_17 ≤ a1_16
  · have b5 : (decide (a1_17 ≤ a1_16)) = true := decide_eq_true d5
    have hno : chunk_Take.no s0 s1 s2 a1_0 a1_15 a1_16 a1_17 := by unfold chunk_Take.no; have := HL.out; omega
    have H1 := H.out
    rw [if_pos hno] at H1
    simp only [Option.some.injEq, Prod.mk.injEq] at H1
    obtain ⟨rfl, rfl, rfl, rfl⟩ := H1
    clear hno
    clear d5
    go_wp2
    go_quiet (fail)
    go_wp2
    go_ret
    exact ⟨rfl, HS7.out.is.drewN _, pw_below_drewN HS7.out.bel _, HKM.out _ (HS7.out.below (pw_below_drewN (Below.refl _ _) _))⟩
  have b5 : (decide (a1_17 ≤ a1_16)) = false := decide_eq_false d5
  have hgo : ¬ (0 < L ∧ a1_17 ≠ s1) → ¬ chunk_Take.no s0 s1 s2 a1_0 a1_15 a1_16 a1_17 := by
    intro hh hno
    unfold chunk_Take.no at hno
    have := HL.out
    rw [this] at hh
    rcases hno with h | h | h | h | h | h | h
    · exact d0 h
    · exact d1 h
    · exact d2 h
    · exact d3 h
    · exact d4 h
    · exact d5 h
    · exact hh h
  by_cases d6 : 0 < L ∧ a1_17 ≠ s1
  · have b6 : decide (0 < L) = true := decide_eq_true d6.1
    have b7 : (a1_17 != s1) = true := bne_iff_ne.mpr d6.2
    have hno : chunk_Take.no s0 s1 s2 a1_0 a1_15 a1_16 a1_17 := by unfold chunk_Take.no; have := HL.out; rw [this] at d6; exact .inr (.inr (.inr (.inr (.inr (.inr d6)))))
    have H1 := H.out
    rw [if_pos hno] at H1
    simp only [Option.some.injEq, Prod.mk.injEq] at H1
    obtain ⟨rfl, rfl, rfl, rfl⟩ := H1
    clear hno hgo d6
    go_wp2
    go_quiet (fail)
    go_wp2
    go_ret
    exact ⟨rfl, HS7.out.is.drewN _, pw_below_drewN HS7.out.bel _, HKM.out _ (HS7.out.below (pw_below_drewN (Below.refl _ _) _))⟩
  have H1 := H.out
  rw [if_neg (hgo d6)] at H1
  have H2 := Aside0.mk H1
  clear H H1 hgo
  go_wp2
  go_cut [57] (fun v57 wx => v57 = .bool false ∧ ∃ n, wx = w7.drewN n)
  case first =>
    by_cases d7 : 0 < L
    · have b6 : decide (0 < L) = true := decide_eq_true d7
      have b7 : (a1_17 != s1) = false := by
        have : ¬ (a1_17 ≠ s1) := fun h => d6 ⟨d7, h⟩
        simpa using this
      clear d6 d7 d0 d1 d2 d3 d4 d5
      go_quiet (fail)
      go_wp2_with fail
      go_meet
      case rel => exact ⟨rfl, _, rfl⟩
    · have b6 : decide (0 < L) = false := decide_eq_false d7
      clear d6 d7 d0 d1 d2 d3 d4 d5
      go_quiet (fail)
      go_wp2_with fail
      go_meet
      case rel => exact ⟨rfl, _, rfl⟩
  case rest =>
    obtain ⟨rfl, n, rfl⟩ := hcut
    clear d0 d1 d2 d3 d4 d5 d6 b0 b1 b2 b3 b4 b5 hlen hlenN c0 c1 c2 q0 q1 q15 q16 q17
    have HSc := Aside0.mk (HS7.out.below (pw_below_drewN (Below.refl _ _) n))
    have HBc := Aside0.mk (show (w7.drewN n).heap[gb]? = _ from HBX.out)
    clear HS7 HBX
    generalize w7.drewN n = wd at *
    have c2 : wd.cell? ⟨g, 2, none⟩ = some (.map (some mb)) := (blk_cell HSc.out.blk 2).trans rfl
    have q16 : wd.cell? ⟨gb, 16, none⟩ = some (.int .i64 a1_16) := (blk_cell HBc.out 16).trans rfl
    obtain ⟨x, hx⟩ : ∃ x, x = (mget s2 a1_16).getD ⟨#[]⟩ := ⟨_, rfl⟩
    have HLK := Aside0.mk (fun (W : World) (hW : Below wd.heap.size wd W) => look63 (HSc.out.mp.is.move (hW.block mb HSc.out.mp.lt)) a1_16 x hx)
    obtain ⟨B, hBB⟩ : ∃ B, B = (mget s2 a1_16).isSome := ⟨_, rfl⟩
    rw [← hBB] at HLK
    have HBB := Aside0.mk hBB
    clear hx hBB
    go_wp2
    go_cut [5, 6] (fun v5 v6 wx => v6 = .bool B ∧ Aside0 (Below wd.heap.size wd wx))
    case first =>
      go_region_held3 (fun w' => w'.cell? ⟨g, 2, none⟩ = some (.map (some mb)) ∧ w'.cell? ⟨gb, 16, none⟩ = some (.int .i64 a1_16) ∧ (Instr.lookup 63 (.map (some mb)) (.int .i64 a1_16) true).run Try.prog w' = .ok (.tuple #[.string x, .bool B]) w')
        ((refine ⟨?_, ?_, ?_⟩; (first | exact c2 | go_keep); (first | exact q16 | go_keep); exact HLK.out _ (by repeat (first | exact Below.refl _ _ | apply below_alloc | apply below_drew)))) (fail)
      all_goals
        go_wp2_with fail
        go_meet
        case rel => exact ⟨rfl, ⟨by repeat (first | exact Below.refl _ _ | apply below_alloc | apply below_drew)⟩⟩
    case rest =>
      obtain ⟨rfl, HBX2⟩ := hcut
      have HSe := Aside0.mk (HSc.out.below HBX2.out)
      have HBe := Aside0.mk ((HBX2.out.block gb (blk_lt HBc.out)).trans HBc.out)
      clear c2 q16 HBX2 HLK HSc HBc
      have H3 := H2.out
      have HB1 := HBB.out
      cases B with
      | true =>
        rw [if_pos HB1.symm] at H3
        simp only [Option.some.injEq, Prod.mk.injEq] at H3
        obtain ⟨rfl, rfl, rfl, rfl⟩ := H3
        clear HB1
        go_wp2
        go_ret
        exact ⟨rfl, HSe.out.is, HSe.out.bel, HKM.out _ HSe.out⟩
      | false =>
        rw [if_neg (by rw [← HB1]; simp)] at H3
        simp only [Option.some.injEq, Prod.mk.injEq] at H3
        obtain ⟨rfl, rfl, rfl, rfl⟩ := H3
        have hnone : mget s2 a1_16 = none := by simpa using HB1.symm
        have hgmb : g ≠ mb := fun e => HSe.out.mp.ne_cells HSe.out.blk e.symm
        have c1 : wc.cell? ⟨g, 1, none⟩ = some (.int .i64 s1) := (blk_cell HSe.out.blk 1).trans rfl
        have c2 : wc.cell? ⟨g, 2, none⟩ = some (.map (some mb)) := (blk_cell HSe.out.blk 2).trans rfl
        have q1 : wc.cell? ⟨gb, 1, none⟩ = some (.string a1_1) := (blk_cell HBe.out 1).trans rfl
        have q16 : wc.cell? ⟨gb, 16, none⟩ = some (.int .i64 a1_16) := (blk_cell HBe.out 16).trans rfl
        have q17 : wc.cell? ⟨gb, 17, none⟩ = some (.int .i64 a1_17) := (blk_cell HBe.out 17).trans rfl
        have hfz := blk_frozen HSe.out.blk 1
        have hM1 : MapB (wc.setCell ⟨g, 1, none⟩ (.int .i64 a1_17)).drew mb .i64 encS s2 := HSe.out.mp.setAny _ _
        have hb1 : (wc.setCell ⟨g, 1, none⟩ (.int .i64 a1_17)).drew.heap[g]? = some (.cells #[.int .u64 s0, .int .i64 a1_17, .map (some mb)] 65 (0, 0)) := by
          show (wc.setCell ⟨g, 1, none⟩ (.int .i64 a1_17)).heap[g]? = _
          simpa using blk_set HSe.out.blk 1 (.int .i64 a1_17)
        have hbel1 : Below w0.heap.size w0 (wc.setCell ⟨g, 1, none⟩ (.int .i64 a1_17)).drew := below_drew (below_set HSe.out.bel HSe.out.gg)
        have hsz1 : (wc.setCell ⟨g, 1, none⟩ (.int .i64 a1_17)).drew.heap.size = wc.heap.size := by show (wc.heap.modify _ _).size = _; simp
        obtain ⟨cc, w8, hr1, hg8, hent⟩ := hM1.entry Try.underlying63 Try.underlying3 (zero9 _) a1_16 hnone
        obtain ⟨w9, hr20, hM9, hg9⟩ := hent w8 rfl a1_1
        have hr2 : (Instr.entryStore 63 (.map (some mb)) (.int .i64 cc) (.string a1_1)).run Try.prog w8 = .ok () w9 := hr20
        have HS9 := Aside0.mk (show St w0 w w9 g mb s0 a1_17 (s2 ++ [(a1_16, a1_1)]) from
          ⟨((hg9.block g (by have := blk_lt hb1; have := hg8.size; omega) (fun e => hgmb (by injection e))).trans (hg8.block g (blk_lt hb1) (fun e => hgmb (by injection e)))).trans hb1, hM9, HSe.out.gg, HSe.out.gm,
            (hbel1.grown hg8 hbel1.size (fun k hk => by cases hk; exact HSe.out.gm)).grown hg9 (by have := hbel1.size; have := hg8.size; omega) (fun k hk => by cases hk; exact HSe.out.gm),
            by have h1 := HSe.out.sz; have h2 := hg8.size; have h3 := hg9.size; omega,
            fun i hi h1 h2 => by
              have h3 := HSe.out.sz
              have h4 := hg8.size
              exact (hg9.block i (by omega) (fun e => h2 (by injection e))).trans ((hg8.block i (by omega) (fun e => h2 (by injection e))).trans ((show (wc.setCell ⟨g, 1, none⟩ (.int .i64 a1_17)).heap[i]? = _ from Below.heap_setCell _ _ _ i h1).trans (HSe.out.keep i hi h1 h2)))⟩)
        have hgb : g ≠ gb := HSe.out.is.ne_blk HBe.out (by decide)
        have hbs : (wc.setCell ⟨g, 1, none⟩ (.int .i64 a1_17)).heap[gb]? = _ := blk_far (p := ⟨g, 1, none⟩) HBe.out (by exact fun e => hgb e.symm) (.int .i64 a1_17)
        have hgmb2 : gb ≠ mb := fun e => HSe.out.mp.ne_cells HBe.out e.symm
        have hb8 : w8.heap[gb]? = _ := (hg8.block gb (blk_lt (show (wc.setCell ⟨g, 1, none⟩ (.int .i64 a1_17)).drew.heap[gb]? = _ from hbs)) (fun e => hgmb2 (by injection e))).trans (show (wc.setCell ⟨g, 1, none⟩ (.int .i64 a1_17)).drew.heap[gb]? = _ from hbs)
        have hs8 : w8.heap[g]? = _ := (hg8.block g (blk_lt hb1) (fun e => hgmb (by injection e))).trans hb1
        have e1 : (wc.setCell ⟨g, 1, none⟩ (.int .i64 a1_17)).cell? ⟨gb, 1, none⟩ = some (.string a1_1) := (blk_cell hbs 1).trans rfl
        have e16 : (wc.setCell ⟨g, 1, none⟩ (.int .i64 a1_17)).cell? ⟨gb, 16, none⟩ = some (.int .i64 a1_16) := (blk_cell hbs 16).trans rfl
        have e2 : (wc.setCell ⟨g, 1, none⟩ (.int .i64 a1_17)).cell? ⟨g, 2, none⟩ = some (.map (some mb)) := (blk_cell (show (wc.setCell ⟨g, 1, none⟩ (.int .i64 a1_17)).heap[g]? = _ from hb1) 2).trans rfl
        have e8 : w8.cell? ⟨gb, 1, none⟩ = some (.string a1_1) := (blk_cell hb8 1).trans rfl
        clear hgb hbs hgmb2 hb8 hs8
        clear HB1 hnone hgmb hr20 hM1 hb1 hbel1 hsz1 hent hM9 hg9 hg8 HSe HBe
        go_wp2
        go_cut [69] (fun v69 wx => wx = w9)
        case first =>
          go_region
          all_goals
            go_wp2_with fail
            go_meet
            case rel => rfl
        case rest =>
          subst hcut
          clear c1 c2 q1 q16 q17 hfz hr1 hr2 e1 e16 e2 e8
          have c1 : wc.cell? ⟨g, 1, none⟩ = some (.int .i64 a1_17) := (blk_cell HS9.out.blk 1).trans rfl
          have c2 : wc.cell? ⟨g, 2, none⟩ = some (.map (some mb)) := (blk_cell HS9.out.blk 2).trans rfl
          have hlenN := fun (n : Nat) ty => (show MapIs (wc.drewN n) mb .i64 encS (s2 ++ [(a1_16, a1_1)]) from HS9.out.mp.is).len (P := Try.prog) (t := 63) ty Try.underlying63 (by have := HLL.out; simp; omega)
          have hlen := fun ty => HS9.out.mp.is.len (P := Try.prog) (t := 63) ty Try.underlying63 (by have := HLL.out; simp; omega)
          have hLe : (((s2 ++ [(a1_16, a1_1)]).length : Nat) : Int) = (s2.length : Int) + 1 := by simp
          obtain ⟨LL, hLL⟩ : ∃ LL, LL = (s2.length : Int) + 1 := ⟨_, rfl⟩
          rw [hLe, ← hLL] at hlen hlenN
          have HLE := Aside0.mk hLL
          clear hLe hLL
          go_wp2
          go_quiet (fail)
          go_wp2
          go_ret
          exact ⟨by have h_ : (LL == a1_17) = decide ((s2.length : Int) + 1 = a1_17) := (by rw [HLE.out]; rfl); exact congrArg (fun b => Ending.returned (Value.bool b)) h_, HS9.out.is.drewN _, pw_below_drewN HS9.out.bel _, HKM.out _ (HS9.out.below (pw_below_drewN (Below.refl _ _) _))⟩
end Go.Proofs.Ytgpldjckohlkfaa.P
