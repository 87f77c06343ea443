import Derived.Test.YtlkemknhmfjdpaaHandP
import Derived.Deep.RegionLaw
import Derived.RegionTactic
import Derived.BigRegion
/- PrintItem's contract, by hand. -/
namespace Go.Proofs.Ytlkemknhmfjdpaa.P
open Go.RowKit Go.Proofs.YtlkemknhmfjdpaaW.PrintWords Go.Proofs.YtlkemknhmfjdpaaW.PrintLast Go.Proofs.YtlkemknhmfjdpaaW.PrintMore
attribute [local go_sem] max2_int min2_int max_two min_two max_three min_three max_four min_four
set_option linter.unusedVariables false
set_option linter.unusedSimpArgs false

/-! ### The load of a struct of many cells -/
theorem load_cells {P : Program} {W : World} {p : Addr} : ∀ (cs : List Value) (i : Nat) (acc : Array Value), (∀ j u, cs[j]? = some u → W.cell? (p.add (i + j)) = some u) → (loadCellsFrom p i cs.length acc).run P W = .ok (acc ++ cs.toArray) W
  | [], i, acc, _ => by
    simp [loadCellsFrom]
  | v :: r, i, acc, h => by
    have h0 := h 0 v rfl
    simp only [Nat.add_zero] at h0
    have ih := load_cells (P := P) r (i + 1) (acc.push v) (fun j u hj => by have := h (j + 1) u (by simpa using hj); rwa [show i + 1 + j = i + (j + 1) by omega])
    simp only [List.length_cons, loadCellsFrom]
    go_simp
theorem load_agg {P : Program} {W : World} {p : Addr} {t : TypeId} (cs : List Value) (hg : (isAgg t).run P W = .ok true W) (hs : (sizeOf t).run P W = .ok cs.length W) (h : ∀ j u, cs[j]? = some u → W.cell? (p.add j) = some u) :
    (Instr.loadAt t (.pointer (some p))).run P W = .ok (.agg cs.toArray) W := by
  have := load_cells (P := P) (W := W) (p := p) cs 0 #[] (fun j u hj => by rw [Nat.zero_add]; exact h j u hj)
  simp only [Instr.loadAt, Instr.sureAddr, loadVar, loadCells]
  go_simp
section
variable {P : Program} {ops : Array Oper} {o : Oper} {rest : List Oper} {a : Act} {Q : Exit → Act → World → Prop}
theorem load_event {W : World} (hgd : o.guard = none) (x : Operand) (t : TypeId) (ho : o.op = .load t x) {p : Addr} (hx : a.eval x = .pointer (some p)) {v : Value}
    (hv : (Instr.loadAt t (.pointer (some p))).run P W = .ok v W) (h : wpList P ops Q rest (a.put o.dst v) W) : wpList P ops Q (o :: rest) a W := by
  refine Kd.event_run hgd ?_ h
  simp only [execOp, ho, hx]
  generalize Instr.loadAt t (.pointer (some p)) = m at *
  go_simp
end
theorem load34 {W : World} {b : Nat} {v0 v1 v2 v3 v4 v5 v6 v7 v8 v9 v10 v11 v12 v13 v14 v15 v16 v17 : Value} (h : W.heap[b]? = some (.cells #[v0, v1, v2, v3, v4, v5, v6, v7, v8, v9, v10, v11, v12, v13, v14, v15, v16, v17] 34 (0, 0))) :
    (Instr.loadAt 34 (.pointer (some ⟨b, 0, none⟩))).run Try.prog W = .ok (.agg #[v0, v1, v2, v3, v4, v5, v6, v7, v8, v9, v10, v11, v12, v13, v14, v15, v16, v17]) W := by
  refine load_agg [v0, v1, v2, v3, v4, v5, v6, v7, v8, v9, v10, v11, v12, v13, v14, v15, v16, v17] (by kernel_rfl) (by kernel_rfl) (fun j u hj => ?_)
  rw [add_plain]
  refine cellAt h ?_
  simpa using hj
end Go.Proofs.Ytlkemknhmfjdpaa.P
/- PrintItem's contract, by hand: items with bytes of their own. -/
namespace Go.Proofs.Ytlkemknhmfjdpaa.P
open Go.RowKit Go.Proofs.YtlkemknhmfjdpaaW.PrintWords Go.Proofs.YtlkemknhmfjdpaaW.PrintLast Go.Proofs.YtlkemknhmfjdpaaW.PrintMore
attribute [local go_sem] max2_int min2_int max_two min_two max_three min_three max_four min_four
set_option linter.unusedVariables false
set_option linter.unusedSimpArgs false

theorem step_append_str {P : Program} {ops : Array Oper} {o : Oper} {a : Act} {K : Act → World → Prop} {Q : Exit → Act → World → Prop} {E : Prop} {w0 W : World} (base : Nat) (hgd : o.guard = none) (s x : Operand) (t u e : TypeId)
    (ho : o.op = .call { callee := .builtin .append, args := #[s, x], argTypes := #[t, u] })
    (ht : P.underlying t = some (.slice e)) (hu : P.underlying u = some .string) (hinfo : (P.info? e).map (fun i => (i.zero, i.size, i.bytes)) = some (some (.int .u8 0), 1, 1))
    (v : Value) (xs : List Int) (y : ByteArray) (hs : a.eval s = v) (hx : a.eval x = .string y)
    (HO : (Kd.int .u8).R e W base (fun _ => True) v xs) (HB : Below base w0 W) (hbase : base ≤ W.heap.size) (hl : xs.length + y.size ≤ 140737488355328)
    (h : ∀ v1 w1, (Kd.int .u8).R e w1 base (fun _ => True) v1 (xs ++ bytesOf y) → Below base w0 w1 → W.grownBy w1 v.ownBlock → K (a.put o.dst v1) w1) :
    if Region.wanted o (yielded ops a.tmps) = true then Oper.wp P o a W K Q else E := by
  have hw : Region.wanted o (yielded ops a.tmps) = true := by simp [Region.wanted, hgd]
  rw [if_pos hw]
  obtain ⟨i0, hi, hzz⟩ := Option.map_eq_some_iff.1 hinfo
  simp only [Prod.mk.injEq] at hzz
  obtain ⟨hz0, hz1, hz2⟩ := hzz
  have hown := Kd.own_of_R HO
  obtain ⟨v1, w1, hr, h2, h3, h4⟩ := Lib.run_append_own_string (P := P) W base t u o.type e i0 ht hu hi hz0 hz1 hz2 v xs.length (nums .u8 xs) hown y (by simp only [maxLen]; omega) hl hbase
  have hl2 : (xs ++ bytesOf y).length = xs.length + y.size := by rw [List.length_append, bytesOf_length]
  have hc : nums .u8 (xs ++ bytesOf y) = nums .u8 xs ++ Lib.strCells y := by
    rw [nums_append]
    congr 1
    simp [nums, bytesOf, Lib.strCells]
  unfold Oper.wp execOp
  simp only [ho, resolve, invoke, builtin, Sem.run_bind, Sem.run_pure, Result.andThen_ok, List.map_toArray, List.map_cons, List.map_nil, hs, hx, hr]
  exact h v1 w1 (Kd.R_of_own (by rw [hl2]; show w1.ownsRow base e 1 v1 _ (nums .u8 (xs ++ bytesOf y)); rw [hc]; exact h2) (fun _ _ => trivial)) (HB.grown h3 hbase (own_base hown)) h3
/-- Where nothing panics, no panic's way is asked. -/
def OnlyN (K : Act → World → Prop) : Exit → Act → World → Prop
  | .normal, a, w => K a w
  | _, _, _ => False
theorem wp_onlyN {P : Program} {c : Code} {Q : Exit → Act → World → Prop} {a : Act} {w : World} (h : c.wp P (OnlyN fun a w => Q .normal a w) a w) : c.wp P Q a w :=
  Code.wp_mono (fun e a w h => by cases e <;> first | exact h | exact h.elim) h
/-- The writer's cell and its row, told apart. -/
theorem IsW.opened {w0 W : World} {g : Nat} {xs : List Int} (h : IsW w0 W g xs) : ∃ A k, W.heap[g]? = some (.cells #[.slice A xs.length k] 67 (0, 0)) ∧ Kd.R (Kd.int .u8) 5 W w0.heap.size (fun _ => True) (.slice A xs.length k) xs := by
  obtain ⟨v, hb, _, hr⟩ := h
  obtain ⟨A, k, rfl⟩ := Kd.R_slice hr
  exact ⟨A, k, hb, hr⟩
theorem Res.app {w0 W w1 : World} {b g : Nat} {v : Value} {xs : List Int} (h : Res w0 W b) (hR : Kd.R (Kd.int .u8) 5 W w0.heap.size (fun _ => True) v xs) (hg : W.drew.grownBy w1 v.ownBlock) (hb1 : Below w0.heap.size w0 w1) (hgb : b + 1 < g) (u : Value) : Res w0 (w1.setCell ⟨g, 0, none⟩ u) b :=
  ⟨blk_far (p := ⟨g, 0, none⟩) (blk_grown (show W.drew.heap[b]? = _ from h.b0) hg (Kd.R_ne hR h.b0 (by decide))) (show b ≠ g by omega) u, blk_far (p := ⟨g, 0, none⟩) (blk_grown (show W.drew.heap[b + 1]? = _ from h.b1) hg (Kd.R_ne hR h.b1 (by decide))) (show b + 1 ≠ g by omega) u, h.ge, below_set hb1 (by have := h.ge; omega)⟩
theorem IsW.app {w0 w1 : World} {g : Nat} {v u : Value} {ys : List Int} (hb : w1.heap[g]? = some (.cells #[u] 67 (0, 0))) (hR : Kd.R (Kd.int .u8) 5 w1 w0.heap.size (fun _ => True) v ys) (hge : w0.heap.size ≤ g) : IsW w0 (w1.setCell ⟨g, 0, none⟩ v) g ys :=
  ⟨v, blk_set hb 0 _, hge, Kd.R_mono (Kd.R_far (p := ⟨g, 0, none⟩) (Kd.R_types hR hb (by decide)) (fun _ hk => hk.2) _) (fun _ _ => trivial)⟩
set_option maxHeartbeats 8000000 in
set_option maxRecDepth 100000 in
theorem item1_good (d : ByteArray) (inc holds : Int) (has dir : Bool) (rn re rr rm : Int) (A : Option Addr) (c : Nat) (l : List S27) (vn ve vr vm nb ix tt : Int) (w : World) (h0 : d.size ≤ 1023) :
    Calls Try.prog 11 #[.agg #[.int .i64 1, .string d, .int .u32 inc, .int .u64 holds, .bool has, .bool dir, .int .u64 rn, .int .u64 re, .int .i64 rr, .int .u64 rm, .slice A l.length c, .int .u64 vn, .int .u64 ve, .int .i64 vr, .int .u64 vm, .int .u64 nb, .int .i64 ix, .int .i64 tt]] w fun e w' => e = .returned (.tuple #[.string (strOfNums (([] ++ Pure.putL 1 1) ++ bytesOf d)), .int .i64 0]) ∧ Below w.heap.size w w' := by
  have HD := Aside0.mk h0
  clear h0
  have hmf : ∀ (fn : Fn) (first cap : Array Value) (w : World), (Instr.makeFunc fn first cap).run Try.prog w = .ok (.func fn first cap) w := fun _ _ _ _ => rfl
  go_enter_defers Try.func11, Try.ntmps11
  go_wp2_with (first | ((with_reducible refine gate_dst (N := 1) rfl ?_); refine box_event ?hg (N := 1) ?hd (cs := #[.int .i64 1, .string d, .int .u32 inc, .int .u64 holds, .bool has, .bool dir, .int .u64 rn, .int .u64 re, .int .i64 rr, .int .u64 rm, .slice A l.length c, .int .u64 vn, .int .u64 ve, .int .i64 vr, .int .u64 vm, .int .u64 nb, .int .i64 ix, .int .i64 tt]) (t := 34) ?hr ?_; (case hd => rfl); (case hg => rfl); (case hr => first | (go_simp; done) | (go_simp; rfl)); intro gb hg w7 hbox hb; have HB7 := Aside0.mk hb; have HX7 := Aside0.mk hbox; have HGB := Aside0.mk hg; clear hbox hb hg; have HB1 := Aside0.mk (show Below w.heap.size w (prW w7) from below_alloc (below_alloc (below_alloc HB7.out _) _) _); have HK1 := Aside0.mk (KeepBut.refl (prW w7) (w7.heap.size + 1 + 1) none); have HX1 := Aside0.mk (show (prW w7).heap[gb]? = _ from heap_old (heap_old (heap_old HX7.out _) _) _); have HNE := Aside0.mk (show gb ≠ w7.heap.size + 1 + 1 by have := blk_lt HX7.out; omega); have HRS := Aside0.mk (show Res w (prW w7) w7.heap.size from ⟨heap_old resW_b0 _, heap_old resW_b1 _, HB7.out.size, HB1.out⟩); have HI1 := Aside0.mk (newW (w := w) (w8 := prW w7) (g := w7.heap.size + 1 + 1) (by have := HB7.out.size; omega) (by have := heap_alloc_new (resW w7) (.cells #[.slice none 0 0] 67); rwa [resW_size] at this)); have c0 := cellAt (i := 0) HX1.out rfl; have c1 := cellAt (i := 1) HX1.out rfl; ) | (go_at_call 26; (with_reducible refine (bad_no _ _).mono ?_); rintro e w_ ⟨rfl, rfl⟩) | (go_at_call 22; (with_reducible refine (writer_num' (w7.heap.size + 1 + 1) [] 1 1 1 rfl w _ HI1.out HB1.out (by (try simp only [List.length_append, Pure.putL_length, List.length_nil]); omega)).mono ?_); clear c0 c1; rintro e w_2 ⟨rfl, hi, hb, hk⟩; have HI2 := Aside0.mk hi; have HB2 := Aside0.mk hb; have HK2 := Aside0.mk (HK1.out.trans hk (.inl rfl)); have HX2 := Aside0.mk (hk.blk HX1.out HNE.out (by simp)); have c0 := cellAt (i := 0) HX2.out rfl; have c1 := cellAt (i := 1) HX2.out rfl;  obtain ⟨A2, k2, hbw, hrw⟩ := HI2.out.opened; obtain ⟨XS, hXS⟩ : ∃ X, X = ([] ++ Pure.putL 1 1) := ⟨_, rfl⟩; rw [← hXS] at hbw hrw; have HXS := Aside0.mk hXS; have HR2 := Aside0.mk hrw; have HBW := Aside0.mk hbw; have cw := cellAt (i := 0) hbw rfl; clear hXS hbw hrw; clear hi hb hk))
  have HLX := Aside0.mk (show XS.length + d.size ≤ 140737488355328 by have hd := HD.out; rw [HXS.out]; simp only [List.length_append, Pure.putL_length, List.length_nil]; omega)
  obtain ⟨YS, hYS⟩ : ∃ Y, Y = XS ++ bytesOf d := ⟨_, rfl⟩
  have HYS := Aside0.mk hYS
  clear hYS
  go_cut [99] from 92 to 102 (fun v99 wx => Aside0 (IsW w wx (w7.heap.size + 1 + 1) YS) ∧ Aside0 (Res w wx w7.heap.size))
  case first =>
    refine wp_onlyN ?_
    go_region_law (refine step_append_str (w0 := w) w.heap.size rfl (.tmp 96) (.tmp 98) 65 9 5 rfl Try.underlying65 Try.underlying9 info5 (.slice A2 XS.length k2) XS d (by simp [Act.eval, Act.put]) (by simp [Act.eval, Act.put]) (Kd.R_drew HR2.out) (below_drew HB2.out) HB2.out.size HLX.out ?_; intro v1 w1 ho hb hg; rw [← HYS.out] at ho; obtain ⟨A1, k1, rfl⟩ := Kd.R_slice ho; have HBW1 := Aside0.mk (blk_grown (show w_2.drew.heap[w7.heap.size + 1 + 1]? = _ from HBW.out) hg (Kd.R_ne HR2.out HBW.out (by decide))); have cw1 := cellAt (i := 0) HBW1.out rfl; have fw1 := blk_frozen HBW1.out 0; have HR3 := Aside0.mk ho; have HB3_ := Aside0.mk hb; have HG3 := Aside0.mk hg; clear ho hb hg)
    all_goals
      dsimp only [OnlyN]
      go_wp2_with fail
      go_meet
      case rel => exact ⟨⟨IsW.app HBW1.out HR3.out (by have := HB7.out.size; omega)⟩, ⟨(HRS.out.keep HK2.out (by omega) HB2.out).app HR2.out HG3.out HB3_.out (by omega) _⟩⟩
  case rest =>
    obtain ⟨HI9, HRE⟩ := hcut
    obtain ⟨A9, k9, hbw, hrw⟩ := HI9.out.opened
    have b20 : decide ((1024 : Int) < (YS.length : Int)) = false := decide_eq_false (by have hd := HD.out; rw [HYS.out, HXS.out]; simp only [List.length_append, Pure.putL_length, List.length_nil, bytesOf_length]; omega)
    clear c0 c1 cw
    have cw := cellAt (i := 0) hbw rfl
    have hcv := own_string (P := Try.prog) Try.underlying65 Try.underlying5 Try.underlying9 (Kd.own_of_R hrw)
    obtain ⟨S, hS⟩ : ∃ S, S = strOfNums YS := ⟨_, rfl⟩
    rw [← hS] at hcv
    have HS := Aside0.mk hS
    obtain ⟨⟨r0, f0⟩, ⟨r1, f1⟩⟩ := HRE.out.cells S
    clear hbw hrw hS
    go_wp2_with (first | (go_at_call 26; (with_reducible refine (bad_no _ _).mono ?_); rintro e w_ ⟨rfl, rfl⟩))
    clear r0 r1 f0 f1 hcv cw
    refine leaves_cons (f := 30) (args := #[.pointer (some ⟨w7.heap.size, 0, none⟩), .pointer (some ⟨w7.heap.size + 1, 0, none⟩)]) (by simp) (by simp [go_sem]) ?_
    refine (printItem_idle w7.heap.size (w7.heap.size + 1) _).mono ?_
    rintro e u' w'' ⟨rfl, rfl, rfl⟩
    obtain ⟨W8, h8, c1, c2, hb⟩ := HRE.out.end_ S 0
    rw [← h8]
    clear h8
    simp [Leaves, settle, results, Try.results11, go_sem, c1, c2]
    exact ⟨by rw [HS.out, HYS.out, HXS.out]; rfl, hb⟩
end Go.Proofs.Ytlkemknhmfjdpaa.P
/- PrintItem's contract, whole. -/
namespace Go.Proofs.Ytlkemknhmfjdpaa.P
open Go.RowKit Go.Proofs.YtlkemknhmfjdpaaW.PrintWords Go.Proofs.YtlkemknhmfjdpaaW.PrintLast Go.Proofs.YtlkemknhmfjdpaaW.PrintMore
set_option linter.unusedVariables false
set_option linter.unusedSimpArgs false

end Go.Proofs.Ytlkemknhmfjdpaa.P
