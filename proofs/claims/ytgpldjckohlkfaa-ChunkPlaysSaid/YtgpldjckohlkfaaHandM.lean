/- Take with its map told; Whole only reads. -/
import Derived.Test.YtgpldjckohlkfaaHandC
namespace Go.Proofs.Ytgpldjckohlkfaa.P
open Go.Proofs.YtgpldjckohlkfaaOv Go.RowKit Go.Proofs.YtgpldjckohlkfaaW.PrintWords Go.Proofs.YtgpldjckohlkfaaW.PrintLast Go.Proofs.YtgpldjckohlkfaaW.PrintMore Go.Proofs.YtgpldjckohlkfaaIMap
set_option linter.unusedVariables false
set_option linter.unusedSimpArgs false

set_option maxHeartbeats 8000000 in
set_option maxRecDepth 100000 in
theorem chunk_Take.callsM (g mb : Nat) (s0 s1 : Int) (s2 : List (Int × ByteArray)) (a1_0 : Int) (a1_1 : ByteArray) (a1_2 a1_3 : Int) (a1_4 a1_5 : Bool) (a1_6 a1_7 a1_8 a1_9 : Int) (a1_10 : OV) (a1_11 a1_12 a1_13 a1_14 a1_15 a1_16 a1_17 : Int) (r1 : Bool) (r2 r3 : Int) (r4 : List (Int × ByteArray)) (w0 w : World) (hS0 : St w0 w w g mb s0 s1 s2)
    (h : chunk_Take.f s0 s1 s2 a1_0 a1_1 a1_2 a1_3 a1_4 a1_5 a1_6 a1_7 a1_8 a1_9 a1_10 a1_11 a1_12 a1_13 a1_14 a1_15 a1_16 a1_17 = some (r1, r2, r3, r4)) :
    Calls Try.prog 12 #[.pointer (some ⟨g, 0, none⟩), .agg #[.int .i64 a1_0, .string a1_1, .int .u32 a1_2, .int .u64 a1_3, .bool a1_4, .bool a1_5, .int .u64 a1_6, .int .u64 a1_7, .int .i64 a1_8, .int .u64 a1_9, .slice a1_10.A a1_10.n a1_10.c, .int .u64 a1_11, .int .u64 a1_12, .int .i64 a1_13, .int .u64 a1_14, .int .u64 a1_15, .int .i64 a1_16, .int .i64 a1_17]] w fun e w' =>
      e = .returned (.bool r1) ∧ St w0 w w' g mb r2 r3 r4 := by
  unfold chunk_Take.f at h
  by_cases hl : s2.length ≤ 1000000
  rotate_left
  · rw [if_neg hl] at h
    cases h
  rw [if_pos hl] at h
  have H := Aside0.mk h
  clear h
  have HS := Aside0.mk hS0
  clear hS0
  have hu := Try.underlying65
  have hu3 := Try.underlying42
  have HLL := Aside0.mk hl
  clear hl
  go_enter Try.func12, Try.ntmps12
  go_wp2_with (first | ((with_reducible refine gate_dst (N := 3) rfl ?_); refine box_event ?hg (N := 3) ?hd (cs := #[.int .i64 a1_0, .string a1_1, .int .u32 a1_2, .int .u64 a1_3, .bool a1_4, .bool a1_5, .int .u64 a1_6, .int .u64 a1_7, .int .i64 a1_8, .int .u64 a1_9, .slice a1_10.A a1_10.n a1_10.c, .int .u64 a1_11, .int .u64 a1_12, .int .i64 a1_13, .int .u64 a1_14, .int .u64 a1_15, .int .i64 a1_16, .int .i64 a1_17]) (t := 42) ?hr ?_; (case hd => rfl); (case hg => rfl); (case hr => first | (go_simp; done) | (go_simp; rfl)); intro gb hg w7 hbox hb; have HS7 := Aside0.mk (HS.out.below hb); have HBX := Aside0.mk hbox; clear hbox hb hg))
  have c0 : w7.cell? ⟨g, 0, none⟩ = some (.int .u64 s0) := (blk_cell HS7.out.blk 0).trans rfl
  have c1 : w7.cell? ⟨g, 1, none⟩ = some (.int .i64 s1) := (blk_cell HS7.out.blk 1).trans rfl
  have c2 : w7.cell? ⟨g, 2, none⟩ = some (.map (some mb)) := (blk_cell HS7.out.blk 2).trans rfl
  have q0 : w7.cell? ⟨gb, 0, none⟩ = some (.int .i64 a1_0) := (blk_cell HBX.out 0).trans rfl
  have q1 : w7.cell? ⟨gb, 1, none⟩ = some (.string a1_1) := (blk_cell HBX.out 1).trans rfl
  have q15 : w7.cell? ⟨gb, 15, none⟩ = some (.int .u64 a1_15) := (blk_cell HBX.out 15).trans rfl
  have q16 : w7.cell? ⟨gb, 16, none⟩ = some (.int .i64 a1_16) := (blk_cell HBX.out 16).trans rfl
  have q17 : w7.cell? ⟨gb, 17, none⟩ = some (.int .i64 a1_17) := (blk_cell HBX.out 17).trans rfl
  have hlenN := fun (n : Nat) ty => (show MapIs (w7.drewN n) mb .i64 encS s2 from HS7.out.mp.is).len (P := Try.prog) (t := 63) ty Try.underlying63 (by have := HLL.out; omega)
  have hlen := fun ty => HS7.out.mp.is.len (P := Try.prog) (t := 63) ty Try.underlying63 (by have := HLL.out; omega)
  obtain ⟨L, hL⟩ : ∃ L, L = (s2.length : Int) := ⟨_, rfl⟩
  rw [← hL] at hlen hlenN
  have HL := Aside0.mk hL
  clear hL
  by_cases d0 : a1_0 ≠ 4
  · have b0 : (a1_0 != 4) = true := bne_iff_ne.mpr d0
    have hno : chunk_Take.no s0 s1 s2 a1_0 a1_15 a1_16 a1_17 := by unfold chunk_Take.no; have := HL.out; omega
    have H1 := H.out
    rw [if_pos hno] at H1
    simp only [Option.some.injEq, Prod.mk.injEq] at H1
    obtain ⟨rfl, rfl, rfl, rfl⟩ := H1
    clear hno
    clear d0
    go_wp2
    go_quiet (fail)
    go_wp2
    go_ret
    exact ⟨rfl, HS7.out.below (pw_below_drewN (Below.refl _ _) _)⟩
  have b0 : (a1_0 != 4) = false := by simpa using d0
  by_cases d1 : a1_15 ≠ s0
  · have b1 : (a1_15 != s0) = true := bne_iff_ne.mpr d1
    have hno : chunk_Take.no s0 s1 s2 a1_0 a1_15 a1_16 a1_17 := by unfold chunk_Take.no; have := HL.out; omega
    have H1 := H.out
    rw [if_pos hno] at H1
    simp only [Option.some.injEq, Prod.mk.injEq] at H1
    obtain ⟨rfl, rfl, rfl, rfl⟩ := H1
    clear hno
    clear d1
    go_wp2
    go_quiet (fail)
    go_wp2
    go_ret
    exact ⟨rfl, HS7.out.below (pw_below_drewN (Below.refl _ _) _)⟩
  have b1 : (a1_15 != s0) = false := by simpa using d1
  by_cases d2 : a1_17 < 1
  · have b2 : (decide (a1_17 < 1)) = true := decide_eq_true d2
    have hno : chunk_Take.no s0 s1 s2 a1_0 a1_15 a1_16 a1_17 := by unfold chunk_Take.no; have := HL.out; omega
    have H1 := H.out
    rw [if_pos hno] at H1
    simp only [Option.some.injEq, Prod.mk.injEq] at H1
    obtain ⟨rfl, rfl, rfl, rfl⟩ := H1
    clear hno
    clear d2
    go_wp2
    go_quiet (fail)
    go_wp2
    go_ret
    exact ⟨rfl, HS7.out.below (pw_below_drewN (Below.refl _ _) _)⟩
  have b2 : (decide (a1_17 < 1)) = false := decide_eq_false d2
  by_cases d3 : 16 < a1_17
  · have b3 : (decide (16 < a1_17)) = true := decide_eq_true d3
    have hno : chunk_Take.no s0 s1 s2 a1_0 a1_15 a1_16 a1_17 := by unfold chunk_Take.no; have := HL.out; omega
    have H1 := H.out
    rw [if_pos hno] at H1
    simp only [Option.some.injEq, Prod.mk.injEq] at H1
    obtain ⟨rfl, rfl, rfl, rfl⟩ := H1
    clear hno
    clear d3
    go_wp2
    go_quiet (fail)
    go_wp2
    go_ret
    exact ⟨rfl, HS7.out.below (pw_below_drewN (Below.refl _ _) _)⟩
  have b3 : (decide (16 < a1_17)) = false := decide_eq_false d3
  by_cases d4 : a1_16 < 0
  · have b4 : (decide (a1_16 < 0)) = true := decide_eq_true d4
    have hno : chunk_Take.no s0 s1 s2 a1_0 a1_15 a1_16 a1_17 := by unfold chunk_Take.no; have := HL.out; omega
    have H1 := H.out
    rw [if_pos hno] at H1
    simp only [Option.some.injEq, Prod.mk.injEq] at H1
    obtain ⟨rfl, rfl, rfl, rfl⟩ := H1
    clear hno
    clear d4
    go_wp2
    go_quiet (fail)
    go_wp2
    go_ret
    exact ⟨rfl, HS7.out.below (pw_below_drewN (Below.refl _ _) _)⟩
  have b4 : (decide (a1_16 < 0)) = false := decide_eq_false d4
  by_cases d5 : a1_17 ≤ a1_16
  · have b5 : (decide (a1_17 ≤ a1_16)) = true := decide_eq_true d5
    have hno : chunk_Take.no s0 s1 s2 a1_0 a1_15 a1_16 a1_17 := by unfold chunk_Take.no; have := HL.out; omega
    have H1 := H.out
    rw [if_pos hno] at H1
    simp only [Option.some.injEq, Prod.mk.injEq] at H1
    obtain ⟨rfl, rfl, rfl, rfl⟩ := H1
    clear hno
    clear d5
    go_wp2
    go_quiet (fail)
    go_wp2
    go_ret
    exact ⟨rfl, HS7.out.below (pw_below_drewN (Below.refl _ _) _)⟩
  have b5 : (decide (a1_17 ≤ a1_16)) = false := decide_eq_false d5
  have hgo : ¬ (0 < L ∧ a1_17 ≠ s1) → ¬ chunk_Take.no s0 s1 s2 a1_0 a1_15 a1_16 a1_17 := by
    intro hh hno
    unfold chunk_Take.no at hno
    have := HL.out
    rw [this] at hh
    rcases hno with h | h | h | h | h | h | h
    · exact d0 h
    · exact d1 h
    · exact d2 h
    · exact d3 h
    · exact d4 h
    · exact d5 h
    · exact hh h
  by_cases d6 : 0 < L ∧ a1_17 ≠ s1
  · have b6 : decide (0 < L) = true := decide_eq_true d6.1
    have b7 : (a1_17 != s1) = true := bne_iff_ne.mpr d6.2
    have hno : chunk_Take.no s0 s1 s2 a1_0 a1_15 a1_16 a1_17 := by unfold chunk_Take.no; have := HL.out; rw [this] at d6; exact .inr (.inr (.inr (.inr (.inr (.inr d6)))))
    have H1 := H.out
    rw [if_pos hno] at H1
    simp only [Option.some.injEq, Prod.mk.injEq] at H1
    obtain ⟨rfl, rfl, rfl, rfl⟩ := H1
    clear hno hgo d6
    go_wp2
    go_quiet (fail)
    go_wp2
    go_ret
    exact ⟨rfl, HS7.out.below (pw_below_drewN (Below.refl _ _) _)⟩
  have H1 := H.out
  rw [if_neg (hgo d6)] at H1
  have H2 := Aside0.mk H1
  clear H H1 hgo
  go_wp2
  go_cut [57] (fun v57 wx => v57 = .bool false ∧ ∃ n, wx = w7.drewN n)
  case first =>
    by_cases d7 : 0 < L
    · have b6 : decide (0 < L) = true := decide_eq_true d7
      have b7 : (a1_17 != s1) = false := by
        have : ¬ (a1_17 ≠ s1) := fun h => d6 ⟨d7, h⟩
        simpa using this
      clear d6 d7 d0 d1 d2 d3 d4 d5
      go_quiet (fail)
      go_wp2_with fail
      go_meet
      case rel => exact ⟨rfl, _, rfl⟩
    · have b6 : decide (0 < L) = false := decide_eq_false d7
      clear d6 d7 d0 d1 d2 d3 d4 d5
      go_quiet (fail)
      go_wp2_with fail
      go_meet
      case rel => exact ⟨rfl, _, rfl⟩
  case rest =>
    obtain ⟨rfl, n, rfl⟩ := hcut
    clear d0 d1 d2 d3 d4 d5 d6 b0 b1 b2 b3 b4 b5 hlen hlenN c0 c1 c2 q0 q1 q15 q16 q17
    have HSc := Aside0.mk (HS7.out.below (pw_below_drewN (Below.refl _ _) n))
    have HBc := Aside0.mk (show (w7.drewN n).heap[gb]? = _ from HBX.out)
    clear HS7 HBX
    generalize w7.drewN n = wd at *
    have c2 : wd.cell? ⟨g, 2, none⟩ = some (.map (some mb)) := (blk_cell HSc.out.blk 2).trans rfl
    have q16 : wd.cell? ⟨gb, 16, none⟩ = some (.int .i64 a1_16) := (blk_cell HBc.out 16).trans rfl
    obtain ⟨x, hx⟩ : ∃ x, x = (mget s2 a1_16).getD ⟨#[]⟩ := ⟨_, rfl⟩
    have HLK := Aside0.mk (fun (W : World) (hW : Below wd.heap.size wd W) => look63 (HSc.out.mp.is.move (hW.block mb HSc.out.mp.lt)) a1_16 x hx)
    obtain ⟨B, hBB⟩ : ∃ B, B = (mget s2 a1_16).isSome := ⟨_, rfl⟩
    rw [← hBB] at HLK
    have HBB := Aside0.mk hBB
    clear hx hBB
    go_wp2
    go_cut [5, 6] (fun v5 v6 wx => v6 = .bool B ∧ Aside0 (Below wd.heap.size wd wx))
    case first =>
      go_region_held3 (fun w' => w'.cell? ⟨g, 2, none⟩ = some (.map (some mb)) ∧ w'.cell? ⟨gb, 16, none⟩ = some (.int .i64 a1_16) ∧ (Instr.lookup 63 (.map (some mb)) (.int .i64 a1_16) true).run Try.prog w' = .ok (.tuple #[.string x, .bool B]) w')
        ((refine ⟨?_, ?_, ?_⟩; (first | exact c2 | go_keep); (first | exact q16 | go_keep); exact HLK.out _ (by repeat (first | exact Below.refl _ _ | apply below_alloc | apply below_drew)))) (fail)
      all_goals
        go_wp2_with fail
        go_meet
        case rel => exact ⟨rfl, ⟨by repeat (first | exact Below.refl _ _ | apply below_alloc | apply below_drew)⟩⟩
    case rest =>
      obtain ⟨rfl, HBX2⟩ := hcut
      have HSe := Aside0.mk (HSc.out.below HBX2.out)
      have HBe := Aside0.mk ((HBX2.out.block gb (blk_lt HBc.out)).trans HBc.out)
      clear c2 q16 HBX2 HLK HSc HBc
      have H3 := H2.out
      have HB1 := HBB.out
      cases B with
      | true =>
        rw [if_pos HB1.symm] at H3
        simp only [Option.some.injEq, Prod.mk.injEq] at H3
        obtain ⟨rfl, rfl, rfl, rfl⟩ := H3
        clear HB1
        go_wp2
        go_ret
        exact ⟨rfl, HSe.out⟩
      | false =>
        rw [if_neg (by rw [← HB1]; simp)] at H3
        simp only [Option.some.injEq, Prod.mk.injEq] at H3
        obtain ⟨rfl, rfl, rfl, rfl⟩ := H3
        have hnone : mget s2 a1_16 = none := by simpa using HB1.symm
        have hgmb : g ≠ mb := fun e => HSe.out.mp.ne_cells HSe.out.blk e.symm
        have c1 : wc.cell? ⟨g, 1, none⟩ = some (.int .i64 s1) := (blk_cell HSe.out.blk 1).trans rfl
        have c2 : wc.cell? ⟨g, 2, none⟩ = some (.map (some mb)) := (blk_cell HSe.out.blk 2).trans rfl
        have q1 : wc.cell? ⟨gb, 1, none⟩ = some (.string a1_1) := (blk_cell HBe.out 1).trans rfl
        have q16 : wc.cell? ⟨gb, 16, none⟩ = some (.int .i64 a1_16) := (blk_cell HBe.out 16).trans rfl
        have q17 : wc.cell? ⟨gb, 17, none⟩ = some (.int .i64 a1_17) := (blk_cell HBe.out 17).trans rfl
        have hfz := blk_frozen HSe.out.blk 1
        have hM1 : MapB (wc.setCell ⟨g, 1, none⟩ (.int .i64 a1_17)).drew mb .i64 encS s2 := HSe.out.mp.setAny _ _
        have hb1 : (wc.setCell ⟨g, 1, none⟩ (.int .i64 a1_17)).drew.heap[g]? = some (.cells #[.int .u64 s0, .int .i64 a1_17, .map (some mb)] 65 (0, 0)) := by
          show (wc.setCell ⟨g, 1, none⟩ (.int .i64 a1_17)).heap[g]? = _
          simpa using blk_set HSe.out.blk 1 (.int .i64 a1_17)
        have hbel1 : Below w0.heap.size w0 (wc.setCell ⟨g, 1, none⟩ (.int .i64 a1_17)).drew := below_drew (below_set HSe.out.bel HSe.out.gg)
        have hsz1 : (wc.setCell ⟨g, 1, none⟩ (.int .i64 a1_17)).drew.heap.size = wc.heap.size := by show (wc.heap.modify _ _).size = _; simp
        obtain ⟨cc, w8, hr1, hg8, hent⟩ := hM1.entry Try.underlying63 Try.underlying3 (zero9 _) a1_16 hnone
        obtain ⟨w9, hr20, hM9, hg9⟩ := hent w8 rfl a1_1
        have hr2 : (Instr.entryStore 63 (.map (some mb)) (.int .i64 cc) (.string a1_1)).run Try.prog w8 = .ok () w9 := hr20
        have HS9 := Aside0.mk (show St w0 w w9 g mb s0 a1_17 (s2 ++ [(a1_16, a1_1)]) from
          ⟨((hg9.block g (by have := blk_lt hb1; have := hg8.size; omega) (fun e => hgmb (by injection e))).trans (hg8.block g (blk_lt hb1) (fun e => hgmb (by injection e)))).trans hb1, hM9, HSe.out.gg, HSe.out.gm,
            (hbel1.grown hg8 hbel1.size (fun k hk => by cases hk; exact HSe.out.gm)).grown hg9 (by have := hbel1.size; have := hg8.size; omega) (fun k hk => by cases hk; exact HSe.out.gm),
            by have h1 := HSe.out.sz; have h2 := hg8.size; have h3 := hg9.size; omega,
            fun i hi h1 h2 => by
              have h3 := HSe.out.sz
              have h4 := hg8.size
              exact (hg9.block i (by omega) (fun e => h2 (by injection e))).trans ((hg8.block i (by omega) (fun e => h2 (by injection e))).trans ((show (wc.setCell ⟨g, 1, none⟩ (.int .i64 a1_17)).heap[i]? = _ from Below.heap_setCell _ _ _ i h1).trans (HSe.out.keep i hi h1 h2)))⟩)
        have hgb : g ≠ gb := HSe.out.is.ne_blk HBe.out (by decide)
        have hbs : (wc.setCell ⟨g, 1, none⟩ (.int .i64 a1_17)).heap[gb]? = _ := blk_far (p := ⟨g, 1, none⟩) HBe.out (by exact fun e => hgb e.symm) (.int .i64 a1_17)
        have hgmb2 : gb ≠ mb := fun e => HSe.out.mp.ne_cells HBe.out e.symm
        have hb8 : w8.heap[gb]? = _ := (hg8.block gb (blk_lt (show (wc.setCell ⟨g, 1, none⟩ (.int .i64 a1_17)).drew.heap[gb]? = _ from hbs)) (fun e => hgmb2 (by injection e))).trans (show (wc.setCell ⟨g, 1, none⟩ (.int .i64 a1_17)).drew.heap[gb]? = _ from hbs)
        have hs8 : w8.heap[g]? = _ := (hg8.block g (blk_lt hb1) (fun e => hgmb (by injection e))).trans hb1
        have e1 : (wc.setCell ⟨g, 1, none⟩ (.int .i64 a1_17)).cell? ⟨gb, 1, none⟩ = some (.string a1_1) := (blk_cell hbs 1).trans rfl
        have e16 : (wc.setCell ⟨g, 1, none⟩ (.int .i64 a1_17)).cell? ⟨gb, 16, none⟩ = some (.int .i64 a1_16) := (blk_cell hbs 16).trans rfl
        have e2 : (wc.setCell ⟨g, 1, none⟩ (.int .i64 a1_17)).cell? ⟨g, 2, none⟩ = some (.map (some mb)) := (blk_cell (show (wc.setCell ⟨g, 1, none⟩ (.int .i64 a1_17)).heap[g]? = _ from hb1) 2).trans rfl
        have e8 : w8.cell? ⟨gb, 1, none⟩ = some (.string a1_1) := (blk_cell hb8 1).trans rfl
        clear hgb hbs hgmb2 hb8 hs8
        clear HB1 hnone hgmb hr20 hM1 hb1 hbel1 hsz1 hent hM9 hg9 hg8 HSe HBe
        go_wp2
        go_cut [69] (fun v69 wx => wx = w9)
        case first =>
          go_region
          all_goals
            go_wp2_with fail
            go_meet
            case rel => rfl
        case rest =>
          subst hcut
          clear c1 c2 q1 q16 q17 hfz hr1 hr2 e1 e16 e2 e8
          have c1 : wc.cell? ⟨g, 1, none⟩ = some (.int .i64 a1_17) := (blk_cell HS9.out.blk 1).trans rfl
          have c2 : wc.cell? ⟨g, 2, none⟩ = some (.map (some mb)) := (blk_cell HS9.out.blk 2).trans rfl
          have hlenN := fun (n : Nat) ty => (show MapIs (wc.drewN n) mb .i64 encS (s2 ++ [(a1_16, a1_1)]) from HS9.out.mp.is).len (P := Try.prog) (t := 63) ty Try.underlying63 (by have := HLL.out; simp; omega)
          have hlen := fun ty => HS9.out.mp.is.len (P := Try.prog) (t := 63) ty Try.underlying63 (by have := HLL.out; simp; omega)
          have hLe : (((s2 ++ [(a1_16, a1_1)]).length : Nat) : Int) = (s2.length : Int) + 1 := by simp
          obtain ⟨LL, hLL⟩ : ∃ LL, LL = (s2.length : Int) + 1 := ⟨_, rfl⟩
          rw [hLe, ← hLL] at hlen hlenN
          have HLE := Aside0.mk hLL
          clear hLe hLL
          go_wp2
          go_quiet (fail)
          go_wp2
          go_ret
          exact ⟨by have h_ : (LL == a1_17) = decide ((s2.length : Int) + 1 = a1_17) := (by rw [HLE.out]; rfl); exact congrArg (fun b => Ending.returned (Value.bool b)) h_, HS9.out.below (pw_below_drewN (Below.refl _ _) _)⟩
set_option maxHeartbeats 8000000 in
set_option maxRecDepth 100000 in
theorem chunk_Whole.callsM (g : Nat) (s0 s1 : Int) (s2 : List (Int × ByteArray)) (r1 : ByteArray) (r2 : Bool) (r3 r4 : Int) (r5 : List (Int × ByteArray)) (w0 w : World) (hI : IsS65 w0 w g s0 s1 s2) (hB : Below w0.heap.size w0 w)
    (h : chunk_Whole.f s0 s1 s2 = some (r1, r2, r3, r4, r5)) :
    Calls Try.prog 13 #[.pointer (some ⟨g, 0, none⟩)] w fun e w' =>
      e = .returned (.tuple #[.string r1, .bool r2]) ∧ Below w.heap.size w w' := by
  unfold chunk_Whole.f at h
  by_cases hl : s2.length ≤ 1000000
  rotate_left
  · rw [if_neg hl] at h
    cases h
  rw [if_pos hl] at h
  have H := Aside0.mk h
  clear h
  have HI := Aside0.mk hI
  have HB := Aside0.mk hB
  obtain ⟨mb, hb, hg0, hm0, hM⟩ := hI
  have HLL := Aside0.mk hl
  have HM := Aside0.mk hM
  have HBL := Aside0.mk hb
  clear hl hb hM hg0 hm0 hB
  have hu := Try.underlying65
  have c1 : w.cell? ⟨g, 1, none⟩ = some (.int .i64 s1) := (blk_cell HBL.out 1).trans rfl
  have c2 : w.cell? ⟨g, 2, none⟩ = some (.map (some mb)) := (blk_cell HBL.out 2).trans rfl
  have hlenN := fun (n : Nat) ty => (show MapIs (w.drewN n) mb .i64 encS s2 from HM.out.is).len (P := Try.prog) (t := 63) ty Try.underlying63 (by have := HLL.out; omega)
  have hlen := fun ty => HM.out.is.len (P := Try.prog) (t := 63) ty Try.underlying63 (by have := HLL.out; omega)
  obtain ⟨L, hL⟩ : ∃ L, L = (s2.length : Int) := ⟨_, rfl⟩
  rw [← hL] at hlen hlenN
  have H1 := H.out
  rw [← hL] at H1
  have HL := Aside0.mk hL
  clear hL H
  go_enter Try.func13, Try.ntmps13
  by_cases d0 : L = 0
  · have b0 : (L == 0) = true := beq_iff_eq.mpr d0
    rw [if_pos d0] at H1
    simp only [Option.some.injEq, Prod.mk.injEq] at H1
    obtain ⟨rfl, rfl, rfl, rfl, rfl⟩ := H1
    clear d0
    go_wp2
    go_quiet (fail)
    go_wp2
    go_ret2
    exact ⟨rfl, pw_below_drewN (Below.refl _ _) _⟩
  have b0 : (L == 0) = false := beq_eq_false_iff_ne.mpr d0
  rw [if_neg d0] at H1
  clear d0
  by_cases d1 : L ≠ s1
  · have b1 : (L != s1) = true := bne_iff_ne.mpr d1
    rw [if_pos d1] at H1
    simp only [Option.some.injEq, Prod.mk.injEq] at H1
    obtain ⟨rfl, rfl, rfl, rfl, rfl⟩ := H1
    clear d1
    go_wp2
    go_quiet (fail)
    go_wp2
    go_ret2
    exact ⟨rfl, pw_below_drewN (Below.refl _ _) _⟩
  have b1 : (L != s1) = false := by simpa using d1
  rw [if_neg d1] at H1
  obtain ⟨z, hz, hzz⟩ := Option.bind_eq_some_iff.mp H1
  simp only [Option.some.injEq, Prod.mk.injEq] at hzz
  obtain ⟨rfl, rfl, rfl, rfl, rfl⟩ := hzz
  clear H1
  have HZ := Aside0.mk hz
  have HN := Aside0.mk (show s1 = ((s1.toNat : Nat) : Int) ∧ s1.toNat ≤ 1000000 by have := HL.out; have := HLL.out; simp at d1; omega)
  clear d1 hz
  go_wp2
  go_quiet (fail)
  have HId := Aside0.mk (show IsS65 w0 (w.drewN nq) g s0 s1 s2 from HI.out.drewN _)
  have HBd := Aside0.mk (pw_below_drewN HB.out nq)
  have HKd := Aside0.mk (show Below w.heap.size w (w.drewN nq) from pw_below_drewN (Below.refl _ _) nq)
  have HMd := Aside0.mk (show MapIs (w.drewN nq) mb .i64 encS s2 from HM.out.is)
  have c1' : (w.drewN nq).cell? ⟨g, 1, none⟩ = some (.int .i64 s1) := c1
  have c2' : (w.drewN nq).cell? ⟨g, 2, none⟩ = some (.map (some mb)) := c2
  clear c1 c2 hlen hlenN b0 b1 HI HB HM HBL
  generalize w.drewN nq = wd at *
  go_wp2
  go_loopg [4, 5, 28] (s1.toNat + 1) (fun kq v4 v5 v28 wr => ∃ (i : Nat) (acc : ByteArray), wr = wd ∧ v28 = .int .i64 (i : Int) ∧ v4 = .string acc ∧ Aside0 (i + kq = s1.toNat + 1) ∧ Aside0 (i ≤ s1.toNat) ∧ Aside0 (cat s2 (s1.toNat - i) i acc = some z))
  case atStart => exact ⟨0, ⟨#[]⟩, rfl, rfl, rfl, ⟨by omega⟩, ⟨by omega⟩, HZ⟩
  case round =>
    obtain ⟨i, acc, rfl, rfl, rfl, HK, HLE, HC⟩ := hrel
    clear HZ
    cases gk with
    | zero => exact absurd HK.out (by have := HLE.out; omega)
    | succ k1 =>
      by_cases hi : i < s1.toNat
      · have b : decide ((i : Int) < s1) = true := decide_eq_true (by have := HN.out; omega)
        have hlk := look63f HMd.out (i : Int)
        have HC1 := HC.out
        rw [show s1.toNat - i = (s1.toNat - (i + 1)) + 1 by omega, cat] at HC1
        by_cases hsz : acc.size + ((mget s2 (i : Int)).getD ⟨#[]⟩).size ≤ 9223372036854775807
        rotate_left
        · rw [if_neg hsz] at HC1
          cases HC1
        rw [if_pos hsz] at HC1
        have HC2 := Aside0.mk HC1
        obtain ⟨x, hx⟩ : ∃ x, x = (mget s2 (i : Int)).getD ⟨#[]⟩ := ⟨_, rfl⟩
        rw [← hx] at hlk HC2 hsz
        have hsz2 : ¬ (9223372036854775807 < (acc.size : Int) + (x.size : Int)) := by omega
        have HLT := Aside0.mk hi
        clear HC1 hx hi HC
        go_wp2
        go_roundg k1
        case measure => exact Nat.lt_succ_self _
        case rel => exact ⟨i + 1, acc ++ x, rfl, by congr 1; have := HLT.out; have := HN.out.2; first | omega | (unfold wrap64; omega), rfl, ⟨by have := HK.out; omega⟩, ⟨by have := HLT.out; omega⟩, HC2⟩
      · have b : decide ((i : Int) < s1) = false := decide_eq_false (by have := HN.out; omega)
        have HC1 := HC.out
        rw [show s1.toNat - i = 0 by omega, cat] at HC1
        simp only [Option.some.injEq] at HC1
        subst HC1
        clear hi HC
        go_wp2
        go_ret2
        exact ⟨rfl, HKd.out⟩
end Go.Proofs.Ytgpldjckohlkfaa.P
