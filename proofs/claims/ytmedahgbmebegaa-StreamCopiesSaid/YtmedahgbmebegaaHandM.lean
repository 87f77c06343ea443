/- Take with its map told, Copy: two streams at once. -/
import Derived.Test.YtmedahgbmebegaaHandT
namespace Go.Proofs.Ytmedahgbmebegaa.P
open Go.Proofs.YtmedahgbmebegaaOv Go.RowKit Go.Proofs.YtmedahgbmebegaaW.PrintWords Go.Proofs.YtmedahgbmebegaaW.PrintLast Go.Proofs.YtmedahgbmebegaaW.PrintMore Go.Proofs.YtmedahgbmebegaaIMap
set_option linter.unusedVariables false
set_option linter.unusedSimpArgs false
set_option linter.unusedSectionVars false
variable [TheW]

set_option maxHeartbeats 4000000 in
set_option maxRecDepth 100000 in
theorem stream_Take.callsM (g mb : Nat) (s0 s1 : Int) (s2 : List (Int × S37)) (a1_0 a1_1 a1_2 a1_3 : Int) (a1_4 : OV) (a1_5 : ByteArray) (r1 : List S37) (r2 r3 r4 : Int) (r5 : List (Int × S37)) (w0 w : World) (hS0 : St w0 w w g mb s0 s1 s2)
    (h : stream_Take.f s0 s1 s2 a1_0 a1_1 a1_2 a1_3 a1_4 a1_5 = some (r1, r2, r3, r4, r5)) :
    Calls Try.prog 11 #[.pointer (some ⟨g, 0, none⟩), .agg #[.int .i64 a1_0, .int .u32 a1_1, .int .u64 a1_2, .int .i64 a1_3, .slice a1_4.A a1_4.n a1_4.c, .string a1_5]] w fun e w' =>
      ∃ v0_ : Value, e = .returned (.tuple #[v0_, .int .i64 r2]) ∧ Kd.R k37 37 w' w.heap.size (fun _ => True) v0_ r1 ∧ St w0 w w' g mb r3 r4 r5 := by
  unfold stream_Take.f at h
  by_cases hbnd : (1 ≤ s0 ∧ s0 ≤ 64) ∧ (0 ≤ s1 ∧ s1 ≤ 4294967295) ∧ (0 ≤ a1_1 ∧ a1_1 ≤ 4294967295)
  rotate_left
  · rw [if_neg hbnd] at h
    cases h
  rw [if_pos hbnd] at h
  obtain ⟨⟨hb1, hb2⟩, ⟨hb3, hb4⟩, hb5, hb6⟩ := hbnd
  have H := Aside0.mk h
  clear h
  have HL := Aside0.mk hS0.bel.size
  have HS := Aside0.mk hS0
  clear hS0
  have hu := Try.underlying56
  have hu3 := Try.underlying37
  go_enter Try.func11, Try.ntmps11
  go_wp2_with (first | ((with_reducible refine gate_dst (N := 3) rfl ?_); refine box_event ?hg (N := 3) ?hd (cs := #[.int .i64 a1_0, .int .u32 a1_1, .int .u64 a1_2, .int .i64 a1_3, .slice a1_4.A a1_4.n a1_4.c, .string a1_5]) (t := 37) ?hr ?_; (case hd => rfl); (case hg => rfl); (case hr => first | (go_simp; done) | (go_simp; rfl)); intro gb hg w7 hbox hb; have HS7 := Aside0.mk (HS.out.below hb); have HBX := Aside0.mk hbox; clear hbox hb hg))
  have c2 : w7.cell? ⟨g, 2, none⟩ = some (.map (some mb)) := (blk_cell HS7.out.blk 2).trans rfl
  have cq : w7.cell? ⟨gb, 1, none⟩ = some (.int .u32 a1_1) := (blk_cell HBX.out 1).trans rfl
  obtain ⟨x, hx⟩ : ∃ x, x = (mget s2 a1_1).getD z37 := ⟨_, rfl⟩
  have HLK := Aside0.mk (fun (W : World) (hW : Below w7.heap.size w7 W) => look37 (HS7.out.mp.below hW) a1_1 x hx)
  clear hx
  obtain ⟨B, hBB⟩ : ∃ B, B = (mget s2 a1_1).isSome := ⟨_, rfl⟩
  have HBB := Aside0.mk hBB
  rw [← hBB] at HLK
  clear hBB
  go_wp2
  go_cut [6, 7] (fun v6 v7 wx => v7 = .bool B ∧ Aside0 (Below w7.heap.size w7 wx))
  case first =>
    go_region_held3 (fun w' => w'.cell? ⟨g, 2, none⟩ = some (.map (some mb)) ∧ w'.cell? ⟨gb, 1, none⟩ = some (.int .u32 a1_1) ∧ (Instr.lookup 54 (.map (some mb)) (.int .u32 a1_1) true).run Try.prog w' = .ok (.tuple #[.agg #[.int .i64 x.f0, .int .u32 x.f1, .int .u64 x.f2, .int .i64 x.f3, .slice x.f4.A x.f4.n x.f4.c, .string x.f5], .bool B]) w')
      ((refine ⟨?_, ?_, ?_⟩; (first | exact c2 | go_keep); (first | exact cq | go_keep); exact HLK.out _ (by repeat (first | exact Below.refl _ _ | apply below_alloc | apply below_drew)))) (fail)
    all_goals
      go_wp2_with fail
      go_meet
      case rel => exact ⟨rfl, ⟨by repeat (first | exact Below.refl _ _ | apply below_alloc | apply below_drew)⟩⟩
  case rest =>
    obtain ⟨rfl, HBX2⟩ := hcut
    have HSc := Aside0.mk (HS7.out.below HBX2.out)
    have HBc := Aside0.mk ((HBX2.out.block gb (blk_lt HBX.out)).trans HBX.out)
    clear c2 cq HBX2 HLK HS7 HBX
    have c0 : wc.cell? ⟨g, 0, none⟩ = some (.int .i64 s0) := (blk_cell HSc.out.blk 0).trans rfl
    have c1 : wc.cell? ⟨g, 1, none⟩ = some (.int .u32 s1) := (blk_cell HSc.out.blk 1).trans rfl
    have c2 : wc.cell? ⟨g, 2, none⟩ = some (.map (some mb)) := (blk_cell HSc.out.blk 2).trans rfl
    have cq : wc.cell? ⟨gb, 1, none⟩ = some (.int .u32 a1_1) := (blk_cell HBc.out 1).trans rfl
    by_cases h0 : a1_1 = 0
    · have b0 : (a1_1 == 0) = true := beq_iff_eq.mpr h0
      have H1 := H.out
      rw [if_pos h0] at H1
      simp only [Option.some.injEq, Prod.mk.injEq] at H1
      obtain ⟨rfl, rfl, rfl, rfl, rfl⟩ := H1
      clear h0
      go_wp2
      go_ret2
      exact ⟨_, rfl, Kd.R_nil _ _ _ _ _, HSc.out⟩
    have b0 : (a1_1 == 0) = false := beq_eq_false_iff_ne.mpr h0
    have H1 := H.out
    rw [if_neg h0] at H1
    clear h0 H
    by_cases h1 : a1_1 ≤ s1
    · have b1 : decide (a1_1 ≤ s1) = true := decide_eq_true h1
      rw [if_pos h1] at H1
      simp only [Option.some.injEq, Prod.mk.injEq] at H1
      obtain ⟨rfl, rfl, rfl, rfl, rfl⟩ := H1
      clear h1
      go_wp2
      go_quiet (fail)
      go_wp2
      go_ret2
      exact ⟨_, rfl, Kd.R_nil _ _ _ _ _, HSc.out.below (pw_below_drewN (Below.refl _ _) _)⟩
    have b1 : decide (a1_1 ≤ s1) = false := decide_eq_false h1
    rw [if_neg h1] at H1
    cases B with
    | true =>
      rw [if_pos HBB.out.symm] at H1
      simp only [Option.some.injEq, Prod.mk.injEq] at H1
      obtain ⟨rfl, rfl, rfl, rfl, rfl⟩ := H1
      clear h1
      go_wp2
      go_quiet (fail)
      go_wp2
      go_ret2
      exact ⟨_, rfl, Kd.R_nil _ _ _ _ _, HSc.out.below (pw_below_drewN (Below.refl _ _) _)⟩
    | false =>
      rw [if_neg (by rw [← HBB.out]; simp)] at H1
      by_cases h2 : s1 + s0 < a1_1
      · have b2 : decide (s1 + s0 < a1_1) = true := decide_eq_true h2
        rw [if_pos h2] at H1
        simp only [Option.some.injEq, Prod.mk.injEq] at H1
        obtain ⟨rfl, rfl, rfl, rfl, rfl⟩ := H1
        clear h1 h2
        go_wp2
        go_quiet (fail)
        go_wp2
        go_quiet (fail)
        go_wp2
        go_ret2
        exact ⟨_, rfl, Kd.R_nil _ _ _ _ _, HSc.out.below (pw_below_drewN (pw_below_drewN (Below.refl _ _) _) _)⟩
      have b2 : decide (s1 + s0 < a1_1) = false := decide_eq_false h2
      rw [if_neg h2] at H1
      have H := Aside0.mk H1
      clear h1 h2 H1
      go_wp2
      go_quiet (fail)
      have HSd := Aside0.mk (HSc.out.below (pw_below_drewN (Below.refl _ _) nq))
      have HBd := Aside0.mk (show (wc.drewN nq).heap[gb]? = _ from HBc.out)
      clear c0 c1 c2 cq HSc HBc
      generalize wc.drewN nq = wd at *
      have c0 : wd.cell? ⟨g, 0, none⟩ = some (.int .i64 s0) := (blk_cell HSd.out.blk 0).trans rfl
      have c1 : wd.cell? ⟨g, 1, none⟩ = some (.int .u32 s1) := (blk_cell HSd.out.blk 1).trans rfl
      have cq : wd.cell? ⟨gb, 1, none⟩ = some (.int .u32 a1_1) := (blk_cell HBd.out 1).trans rfl
      go_wp2
      go_quiet (fail)
      have HSe := Aside0.mk (HSd.out.below (pw_below_drewN (Below.refl _ _) nq))
      have HBe := Aside0.mk (show (wd.drewN nq).heap[gb]? = _ from HBd.out)
      clear c0 c1 cq HSd HBd
      generalize wd.drewN nq = we at *
      have c2 : we.cell? ⟨g, 2, none⟩ = some (.map (some mb)) := (blk_cell HSe.out.blk 2).trans rfl
      have q0 : we.cell? ⟨gb, 0, none⟩ = some (.int .i64 a1_0) := (blk_cell HBe.out 0).trans rfl
      have q1 : we.cell? ⟨gb, 1, none⟩ = some (.int .u32 a1_1) := (blk_cell HBe.out 1).trans rfl
      have q2 : we.cell? ⟨gb, 2, none⟩ = some (.int .u64 a1_2) := (blk_cell HBe.out 2).trans rfl
      have q3 : we.cell? ⟨gb, 3, none⟩ = some (.int .i64 a1_3) := (blk_cell HBe.out 3).trans rfl
      have q4 : we.cell? ⟨gb, 4, none⟩ = some (.slice a1_4.A a1_4.n a1_4.c) := (blk_cell HBe.out 4).trans rfl
      have q5 : we.cell? ⟨gb, 5, none⟩ = some (.string a1_5) := (blk_cell HBe.out 5).trans rfl
      obtain ⟨w9, hrun0, hM9, hg9⟩ := (show MapIs we.drew mb .u32 enc37 s2 from HSe.out.mp).store Try.underlying54 Try.underlying23 a1_1 (⟨a1_0, a1_1, a1_2, a1_3, a1_4, a1_5⟩ : S37)
      have hrun : (Instr.mapUpdate 54 (.map (some mb)) (.int .u32 a1_1) (.agg #[.int .i64 a1_0, .int .u32 a1_1, .int .u64 a1_2, .int .i64 a1_3, .slice a1_4.A a1_4.n a1_4.c, .string a1_5])).run Try.prog we.drew = .ok () w9 := hrun0
      have HS9 := Aside0.mk ((show St w0 w we.drew g mb s0 s1 s2 from HSe.out.below (below_drew (Below.refl _ _))).map_ hM9 hg9)
      clear hM9 hg9 hrun0
      go_wp2
      go_cut [52] (fun v52 wx => wx = w9)
      case first =>
        go_region
        all_goals
          go_wp2_with fail
          go_meet
          case rel => rfl
      case rest =>
        subst hcut
        obtain ⟨z, hz, hzz⟩ := Option.bind_eq_some_iff.mp H.out
        simp only [Option.some.injEq, Prod.mk.injEq] at hzz
        obtain ⟨rfl, rfl, rfl, rfl, rfl⟩ := hzz
        have HD := Aside0.mk hz
        clear hz H HBB HBe HSe c2 q0 q1 q2 q3 q4 q5 hrun
        go_wp2
        go_loopg [8] (s2.length + 2) (fun kq v8 wr => ∃ (c : Int) (l : List (Int × S37)) (out : List S37), Aside0 (Kd.R k37 37 wr w.heap.size (fun _ => True) v8 out) ∧ Aside0 (St w0 w wr g mb s0 c l) ∧ Aside0 (drain kq c l out = some z) ∧ Aside0 (kq ≤ s2.length + 2))
        case atStart => exact ⟨s1, _, [], ⟨Kd.R_nil _ _ _ _ _⟩, HS9, HD, ⟨Nat.le_refl _⟩⟩
        case round =>
          clear HS9 HD
          obtain ⟨c, l, out, HO, HT, HA, HK1⟩ := hrel
          cases gk with
          | zero => exact absurd HA.out (by simp [drain])
          | succ k1 =>
            obtain ⟨Ao, co, eo⟩ := Kd.R_slice HO.out
            subst eo
            have c1 : wr.cell? ⟨g, 1, none⟩ = some (.int .u32 c) := (blk_cell HT.out.blk 1).trans rfl
            have c2 : wr.cell? ⟨g, 2, none⟩ = some (.map (some mb)) := (blk_cell HT.out.blk 2).trans rfl
            have hwr : IntKind.u32.wrap (c + 1) = (c + 1) % 4294967296 := by simp [IntKind.wrap, IntKind.bits, IntKind.signed]
            obtain ⟨x, hx⟩ : ∃ x, x = (mget l (IntKind.u32.wrap (c + 1))).getD z37 := ⟨_, rfl⟩
            obtain ⟨B, hBB⟩ : ∃ B, B = (mget l (IntKind.u32.wrap (c + 1))).isSome := ⟨_, rfl⟩
            have HLK := Aside0.mk (fun (W : World) (hW : Below wr.heap.size wr W) => look37 (HT.out.mp.below hW) (IntKind.u32.wrap (c + 1)) x hx)
            rw [← hBB] at HLK
            have HX := Aside0.mk hx
            have HBB := Aside0.mk hBB
            have HWR := Aside0.mk hwr
            clear hx hBB hwr
            go_wp2
            go_cut [9, 10] (fun v9 v10 wx => ∃ g9, v9 = .pointer (some ⟨g9, 0, none⟩) ∧ v10 = .bool B ∧ Aside0 (Below wr.heap.size wr wx) ∧ Aside0 (wr.heap.size ≤ g9) ∧ Aside0 (wx.heap[g9]? = some (.cells #[.int .i64 x.f0, .int .u32 x.f1, .int .u64 x.f2, .int .i64 x.f3, .slice x.f4.A x.f4.n x.f4.c, .string x.f5] 37 (0, 0))))
            case first =>
              go_region_held3 (fun w' => w'.cell? ⟨g, 2, none⟩ = some (.map (some mb)) ∧ w'.cell? ⟨g, 1, none⟩ = some (.int .u32 c) ∧ (Instr.lookup 54 (.map (some mb)) (.int .u32 (IntKind.u32.wrap (c + 1))) true).run Try.prog w' = .ok (.tuple #[.agg #[.int .i64 x.f0, .int .u32 x.f1, .int .u64 x.f2, .int .i64 x.f3, .slice x.f4.A x.f4.n x.f4.c, .string x.f5], .bool B]) w')
                ((refine ⟨?_, ?_, ?_⟩; (first | exact c2 | go_keep); (first | exact c1 | go_keep); exact HLK.out _ (by repeat (first | exact Below.refl _ _ | apply below_alloc | apply below_drew)))) (fail)
              all_goals
                go_wp2_with fail
                go_meet
                case rel => exact ⟨_, rfl, rfl, ⟨by repeat (first | exact Below.refl _ _ | apply below_alloc | apply below_drew)⟩, ⟨Nat.le_refl _⟩, ⟨heap_alloc_new wr _⟩⟩
            case rest =>
              obtain ⟨g9, rfl, rfl, HBX2, HG9, HB9⟩ := hcut
              have HTc := Aside0.mk (HT.out.below HBX2.out)
              have HOc := Aside0.mk (Kd.R_below HO.out HBX2.out)
              have HNE := Aside0.mk (show g ≠ g9 from by have := blk_lt HT.out.blk; have := HG9.out; omega)
              clear c1 c2 HLK HT HO HBX2
              have c1 : wc.cell? ⟨g, 1, none⟩ = some (.int .u32 c) := (blk_cell HTc.out.blk 1).trans rfl
              have HA1 := HA.out
              unfold drain at HA1
              rw [← HWR.out] at HA1
              have HX1 := HX.out
              have HBB1 := HBB.out
              cases hmg : mget l (IntKind.u32.wrap (c + 1)) with
              | none =>
                rw [hmg] at HA1 HBB1
                simp only [Option.some.injEq] at HA1
                subst HA1
                simp only [Option.isSome_none] at HBB1
                subst HBB1
                clear hmg HX1 HBB HA HX HNE HB9 HWR
                go_wp2
                go_ret2
                exact ⟨_, rfl, HOc.out, HTc.out⟩
              | some y =>
                rw [hmg] at HA1 HBB1 HX1
                simp only [Option.isSome_some] at HBB1
                subst HBB1
                simp only [Option.getD_some] at HX1
                subst HX1
                by_cases hz0 : IntKind.u32.wrap (c + 1) = 0
                · simp only [hz0, if_true, Option.some.injEq] at HA1
                  subst HA1
                  have b0 : ((c + 1) % 4294967296 == 0) = true := beq_iff_eq.mpr (HWR.out ▸ hz0)
                  clear hmg HBB HA HX HNE HB9 HWR hz0
                  go_wp2
                  go_ret2
                  exact ⟨_, rfl, HOc.out, HTc.out⟩
                · have b0 : ((c + 1) % 4294967296 == 0) = false := beq_eq_false_iff_ne.mpr (HWR.out ▸ hz0)
                  simp only [hz0, if_false] at HA1
                  by_cases hlen : out.length < 1954687338268
                  rotate_left
                  · rw [if_neg hlen] at HA1
                    cases HA1
                  rw [if_pos hlen] at HA1
                  rw [HWR.out] at HA1
                  have HLEN := Aside0.mk hlen
                  have HA2 := Aside0.mk HA1
                  clear hmg HBB HA HX HWR hz0 HA1 hlen
                  have HTd := Aside0.mk (HTc.out.count ((c + 1) % 4294967296))
                  have HOd := Aside0.mk (Kd.R_mono (Kd.R_far (p := ⟨g, 1, none⟩) (Kd.R_types HOc.out HTc.out.blk k37_ne56) (fun _ hk => hk.2) (.int .u32 ((c + 1) % 4294967296))) (ok' := fun _ => True) (fun _ _ => trivial))
                  have HBd := Aside0.mk (blk_far (p := ⟨g, 1, none⟩) HB9.out (by exact fun e => HNE.out e.symm) (.int .u32 ((c + 1) % 4294967296)))
                  have hfz := blk_frozen HTc.out.blk 1
                  obtain ⟨wd, hwd⟩ : ∃ wd, wd = wc.setCell ⟨g, 1, none⟩ (.int .u32 ((c + 1) % 4294967296)) := ⟨_, rfl⟩
                  rw [← hwd] at HTd HOd HBd
                  clear HTc HOc HB9
                  go_wp2
                  rw [← hwd]
                  clear c1 hwd hfz b0
                  obtain ⟨d, hd⟩ : ∃ d, d = (c + 1) % 4294967296 := ⟨_, rfl⟩
                  rw [← hd] at HTd HA2
                  clear hd
                  have c1 : wd.cell? ⟨g, 1, none⟩ = some (.int .u32 d) := (blk_cell HTd.out.blk 1).trans rfl
                  have c2 : wd.cell? ⟨g, 2, none⟩ = some (.map (some mb)) := (blk_cell HTd.out.blk 2).trans rfl
                  obtain ⟨we, hrun, hMe, hge⟩ := (show MapIs wd.drew mb .u32 enc37 l from HTd.out.mp).drop_ 0 Try.underlying54 Try.underlying23 d
                  have HTe := Aside0.mk ((show St w0 w wd.drew g mb s0 d l from HTd.out.below (below_drew (Below.refl _ _))).map_ hMe hge)
                  have HOe := Aside0.mk (Kd.R_grownM (show k37.R 37 wd.drew _ _ _ _ from HOd.out) hge (show MapIs wd.drew _ .u32 enc37 l from HTd.out.mp))
                  have HBe := Aside0.mk ((hge.block g9 (blk_lt HBd.out) (fun e => by injection e with e; subst e; exact (show MapIs wd.drew _ .u32 enc37 l from HTd.out.mp).ne_cells HBd.out rfl)).trans HBd.out)
                  clear hMe hge HTd HOd HBd
                  go_cut [90] (fun v90 wx => wx = we)
                  case first =>
                    go_region
                    all_goals
                      go_wp2_with fail
                      go_meet
                      case rel => rfl
                  case rest =>
                    subst hcut
                    clear c1 c2 hrun
                    have q0 : wc.cell? ⟨g9, 0, none⟩ = some (.int .i64 x.f0) := (blk_cell HBe.out 0).trans rfl
                    have q1 : wc.cell? ⟨g9, 1, none⟩ = some (.int .u32 x.f1) := (blk_cell HBe.out 1).trans rfl
                    have q2 : wc.cell? ⟨g9, 2, none⟩ = some (.int .u64 x.f2) := (blk_cell HBe.out 2).trans rfl
                    have q3 : wc.cell? ⟨g9, 3, none⟩ = some (.int .i64 x.f3) := (blk_cell HBe.out 3).trans rfl
                    have q4 : wc.cell? ⟨g9, 4, none⟩ = some (.slice x.f4.A x.f4.n x.f4.c) := (blk_cell HBe.out 4).trans rfl
                    have q5 : wc.cell? ⟨g9, 5, none⟩ = some (.string x.f5) := (blk_cell HBe.out 5).trans rfl
                    go_wp2_with ((with_reducible refine gate_builtin (b := .append) (xs := #[.tmp 98, .tmp 100]) rfl ?_); at_builtin; refine Kd.R_append k37 (w0 := wc) w.heap.size rfl (.tmp 98) (.tmp 100) 22 37 (.agg #[(.int .i64 0), (.int .u32 0), (.int .u64 0), (.int .i64 0), (.slice none 0 0), (.string ⟨#[]⟩)]) 72 rfl Try.underlying22 info37 rfl (Nat.succ_pos 5) (by omega) (.slice Ao out.length co) out x [.int .i64 x.f0, .int .u32 x.f1, .int .u64 x.f2, .int .i64 x.f3, .slice x.f4.A x.f4.n x.f4.c, .string x.f5] (fun _ => True) (fun _ => False) rfl rfl ?aP (fun _ hk => hk.elim) (fun _ _ => trivial) ?aO (Below.refl _ _) ?aS ?aL ?_; (case aP => exact k37_mkM _ _ _ x); (case aO => exact HOe.out); (case aS => exact HTe.out.sz); (case aL => have := HLEN.out; omega); intro v257 w24 ho hb hg hat; have HTf := Aside0.mk (HTe.out.row hg (fun k e => by obtain ⟨_, hle, _, q, hq, cells, hc⟩ := (Kd.R_bound HOe.out).1 k e; exact ⟨cells, q, hc, k37_ne56 q hq, hle⟩) HL.out); have HOf := Aside0.mk ho; clear ho hb hg hat HOe HTe HBe)
                    go_roundg k1
                    case measure => exact Nat.lt_succ_self _
                    case rel => exact ⟨d, _, _, HOf, HTf, HA2, ⟨by have := HK1.out; omega⟩⟩
end Go.Proofs.Ytmedahgbmebegaa.P
