/- Copy of the chunks; their state with its map told. -/
import Derived.Test.YtgpldjckohlkfaaHandM
import Derived.Laws.Externs
import Derived.MapKept
import Derived.RegionCalls
import Derived.Deep.RegionWith
namespace Go.Proofs.Ytgpldjckohlkfaa.P
open Go.Proofs.YtgpldjckohlkfaaOv Go.RowKit Go.Proofs.YtgpldjckohlkfaaW.PrintWords Go.Proofs.YtgpldjckohlkfaaW.PrintLast Go.Proofs.YtgpldjckohlkfaaW.PrintMore Go.Proofs.YtgpldjckohlkfaaIMap
set_option linter.unusedVariables false
set_option linter.unusedSimpArgs false

theorem equalIn_map_nil {P : Program} (w : World) (d : Nat) (t k e : TypeId) (p : Option Nat) (h : P.underlying t = some (.map k e)) :
    (Op.equalIn (d + 1) t (.map p) (.map none)).run P w = .ok p.isNone w := by
  cases p <;> simp [Op.equalIn, run_underlying h]
theorem eql_map_nil {P : Program} (w : World) (t k e : TypeId) (p : Option Nat) (h : P.underlying t = some (.map k e)) :
    (binOp .eql t (.map p) (.map none)).run P w = .ok (.bool p.isNone) w := by
  simp only [binOp]
  simp [show Op.equal t (.map p) (.map none) = Op.equalIn (9999 + 1) t (.map p) (.map none) from rfl, equalIn_map_nil w 9999 t k e p h]
theorem cellAt {W : World} {g : Nat} {t : TypeId} {cs : Array Value} {i : Nat} {v : Value} (h : W.heap[g]? = some (.cells cs t (0, 0))) (e : cs[i]? = some v) : W.cell? ⟨g, i, none⟩ = some v := (blk_cell h i).trans e
theorem assert_map {P : Program} (w : World) (t xT k e : TypeId) (v : Value) (h : P.underlying t = some (.map k e)) : (Instr.typeAssert (.iface t v) xT t false).run P w = .ok v w := by
  simp [Instr.typeAssert, run_underlying h, go_sem, Result.andThen]
theorem clone_run {P : Program} (w : World) {r : Nat} {es : Array MapEntry} {clock : Nat} (t : TypeId) (hb : w.heap[r]? = some (.map es clock)) :
    (Extern.MapsClone.clone #[.iface t (.map (some r))]).run P w = .ok (.iface t (.map (some w.heap.size))) (w.alloc (.map es clock)) := by
  have e : Extern.MapsClone.clone #[.iface t (.map (some r))] = (getObj r >>= fun o => match o with
      | .map entries clock => (newObj (.map entries clock) >>= fun n => pure (.iface t (.map (some n))))
      | _ => stuck "maps.clone: a map expected") := rfl
  rw [e]
  simp [MapKept.run_getObj_map hb, Result.andThen, go_sem]
set_option maxHeartbeats 2000000 in
theorem clone_calls (b : Nat) (es : Array MapEntry) (clock : Nat) (w : World) (hb : w.heap[b]? = some (.map es clock)) :
    Calls Try.prog 19 #[.map (some b)] w fun e w' => e = .returned (.map (some w.heap.size)) ∧ w' = w.alloc (.map es clock) := by
  have hq := fun w => eql_map_nil (P := Try.prog) w 63 _ _ (some b) Try.underlying63
  go_enter Try.func19, Try.ntmps19
  go_wp2
  rw [run_callFunc_extern (f := 22) Try.func22 (by kernel_rfl) (by kernel_rfl) (by kernel_rfl) (e := Extern.MapsClone.clone) (by kernel_rfl), clone_run w 63 hb]
  simp only [Result.andThen]
  rw [Oper.upon_value]
  go_wp2
  rw [assert_map _ 63 20 _ _ _ Try.underlying63]
  simp only [Result.andThen]
  rw [Oper.upon_value]
  go_wp2
  go_ret
  exact ⟨rfl, rfl⟩
theorem val_ {P : Program} {ops : Array Oper} {oi : Oper} {a : Act} {w w1 : World} {K : Act → World → Prop} {Q : Exit → Act → World → Prop} {v : Value} {E : Prop} (hw : Region.wanted oi (yielded ops a.tmps) = true) (hrun : (execOp a.eval oi).run P w = .ok (.value v) w1)
    (h : K (a.put oi.dst v) w1) : if Region.wanted oi (yielded ops a.tmps) = true then Oper.wp P oi a w K Q else E := by
  rw [if_pos hw]
  unfold Oper.wp
  rw [hrun, Oper.upon_value]
  exact h
/-- The chunks at block g, their map at block mb. -/
structure Sx (w0 W : World) (g mb : Nat) (s0 s1 : Int) (l : List (Int × ByteArray)) : Prop where
  blk : W.heap[g]? = some (.cells #[.int .u64 s0, .int .i64 s1, .map (some mb)] 65 (0, 0))
  mp : MapB W mb .i64 encS l
  gg : w0.heap.size ≤ g
  gm : w0.heap.size ≤ mb
section
variable {w0 w W W1 : World} {g mb g2 mb2 : Nat} {s0 s1 t0 t1 : Int} {l l2 : List (Int × ByteArray)}
theorem Sx.below (h : Sx w0 W g mb s0 s1 l) (hb : Below W.heap.size W W1) : Sx w0 W1 g mb s0 s1 l := ⟨(hb.block g (blk_lt h.blk)).trans h.blk, h.mp.below hb, h.gg, h.gm⟩
theorem Sx.st (h : Sx w0 W g mb s0 s1 l) (hB : Below w0.heap.size w0 W) : St w0 W W g mb s0 s1 l := ⟨h.blk, h.mp, h.gg, h.gm, hB, Nat.le_refl _, fun _ _ _ _ => rfl⟩
theorem St.sx (h : St w0 w W g mb s0 s1 l) : Sx w0 W g mb s0 s1 l := ⟨h.blk, h.mp, h.gg, h.gm⟩
theorem Sx.is (h : Sx w0 W g mb s0 s1 l) : IsS65 w0 W g s0 s1 l := ⟨mb, h.blk, h.gg, h.gm, h.mp⟩
/-- Another map is as it was. -/
theorem St.map2 {α : Type} {q : IntKind} {enc : α → Value} {lm : List (Int × α)} {ms : Nat} {r0 r1 : Int} {l1 : List (Int × ByteArray)} (hs : St w0 w W g mb s0 s1 l) (h1 : Sx w0 w g mb r0 r1 l1) (hm : MapIs w ms q enc lm) (hne : mb ≠ ms) : MapIs W ms q enc lm :=
  hm.move (hs.keep ms hm.lt (fun e => hm.ne_cells (e ▸ h1.blk) rfl) (fun e => hne e.symm))
/-- Another state is as it was. -/
theorem Sx.other (h : Sx w0 w g2 mb2 t0 t1 l2) {r0 r1 : Int} {l1 : List (Int × ByteArray)} (h1 : Sx w0 w g mb r0 r1 l1) (hs : St w0 w W g mb s0 s1 l) (hg : g ≠ g2) (hm : mb ≠ mb2) : Sx w0 W g2 mb2 t0 t1 l2 := by
  have n1 : mb2 ≠ g := fun e => h.mp.ne_cells (e ▸ h1.blk) rfl
  have n2 : mb ≠ g2 := fun e => h1.mp.ne_cells (e ▸ h.blk) rfl
  exact ⟨(hs.keep g2 (blk_lt h.blk) (fun e => hg e.symm) (fun e => n2 e.symm)).trans h.blk, h.mp.move (hs.keep mb2 h.mp.lt n1 (fun e => hm e.symm)), h.gg, h.gm⟩
/-- A store to another map. -/
theorem Sx.grown (h : Sx w0 W g mb s0 s1 l) {ms : Nat} {α : Type} {q : IntKind} {enc : α → Value} {lm : List (Int × α)} (hm : MapIs W ms q enc lm) (hg : W.grownBy W1 (some ms)) (hne : mb ≠ ms) : Sx w0 W1 g mb s0 s1 l :=
  ⟨(hg.block g (blk_lt h.blk) (fun e => by injection e with e; exact hm.ne_cells (e ▸ h.blk) rfl)).trans h.blk, h.mp.move (hg.block mb h.mp.lt (fun e => by injection e with e; exact hne e)), h.gg, h.gm⟩
end
set_option maxHeartbeats 4000000 in
set_option maxRecDepth 100000 in
theorem chunk_Copy.callsM {w0 w : World} {g mb : Nat} {s0 s1 : Int} {l : List (Int × ByteArray)} (h : Sx w0 w g mb s0 s1 l) (h0 : w0.heap.size ≤ w.heap.size) :
    Calls Try.prog 14 #[.pointer (some ⟨g, 0, none⟩)] w fun e w' => ∃ g2 mb2 : Nat, e = .returned (.pointer (some ⟨g2, 0, none⟩)) ∧ Sx w0 w' g2 mb2 s0 s1 l ∧ w.heap.size ≤ g2 ∧ w.heap.size ≤ mb2 ∧ Below w.heap.size w w' := by
  obtain ⟨es, cl, hm, hs⟩ := h.mp
  have H0 := Aside0.mk h
  have HM := Aside0.mk hm
  have HS := Aside0.mk hs
  have HL0 := Aside0.mk h0
  clear h hm hs h0
  have hu := Try.underlying65
  go_enter Try.func14, Try.ntmps14
  go_wp2
  refine start_ (n := 16) (S := fun w' : World => w'.heap[g]? = some (.cells #[.int .u64 s0, .int .i64 s1, .map (some mb)] 65 (0, 0)) ∧ w'.heap[mb]? = some (.map es cl)) (ds := []) #[false, false, false, false, false, false, false, false, false, false, false, false, false, false, false, false] (by kernel_rfl) rfl rfl ⟨H0.out.blk, HM.out⟩ (fun hHeld => ?_)
  have H1 := Aside0.mk (H0.out.below (W1 := w.drew) (below_drew (Below.refl _ _)))
  have HB1 := Aside0.mk (show Below w.heap.size w w.drew from below_drew (Below.refl _ _))
  generalize w.drew = w1 at H1 HB1 hHeld ⊢
  refine pure_ (i := 0) (N := some 3) (v := ?_) (a' := ?_) #[true, false, false, false, false, false, false, false, false, false, false, false, false, false, false, false] rfl rfl (by kernel_rfl) (fun _ _ _ h => h) (Or.inl ⟨by rfl, ?_⟩) ?_ ?_
  rotate_left
  · intro w'
    go_simp
    with_reducible rfl
  rotate_left
  · simp only [Act.put, List.setIfInBounds_toArray, List.set_cons_zero, List.set_cons_succ, i64_w, i32_w]
    rfl
  refine pure_ (i := 1) (N := some 4) (v := ?_) (a' := ?_) #[true, true, false, false, false, false, false, false, false, false, false, false, false, false, false, false] rfl rfl (by kernel_rfl) (fun _ _ _ h => h) (Or.inl ⟨by rfl, ?_⟩) ?_ ?_
  rotate_left
  · intro w'
    go_simp
    with_reducible rfl
  rotate_left
  · simp only [Act.put, List.setIfInBounds_toArray, List.set_cons_zero, List.set_cons_succ, i64_w, i32_w]
    rfl
  refine pure_ (i := 2) (N := some 5) (v := ?_) (a' := ?_) #[true, true, true, false, false, false, false, false, false, false, false, false, false, false, false, false] rfl rfl (by kernel_rfl) (fun _ _ _ h => h) (Or.inl ⟨by rfl, ?_⟩) ?_ ?_
  rotate_left
  · intro w'
    go_simp
    with_reducible rfl
  rotate_left
  · simp only [Act.put, List.setIfInBounds_toArray, List.set_cons_zero, List.set_cons_succ, i64_w, i32_w]
    rfl
  refine take_ (i := 3) (N := some 6) (v := ?_) (a' := ?_) #[true, true, true, true, false, false, false, false, false, false, false, false, false, false, false, false] rfl rfl (by kernel_rfl) (fun _ _ _ h => h) (Or.inl ⟨by rfl, ?_⟩) hHeld ?_ ?_
  rotate_left
  · rintro w' ⟨g1, g2⟩; have s0_ := cellAt (i := 0) g1 rfl; have s1_ := cellAt (i := 1) g1 rfl; have s2_ := cellAt (i := 2) g1 rfl
    go_simp
    with_reducible rfl
  rotate_left
  · simp only [Act.put, List.setIfInBounds_toArray, List.set_cons_zero, List.set_cons_succ, i64_w, i32_w]
    rfl
  refine pure_ (i := 4) (N := some 7) (v := ?_) (a' := ?_) #[true, true, true, true, true, false, false, false, false, false, false, false, false, false, false, false] rfl rfl (by kernel_rfl) (fun _ _ _ h => h) (Or.inl ⟨by rfl, ?_⟩) ?_ ?_
  rotate_left
  · intro w'
    go_simp
    with_reducible rfl
  rotate_left
  · simp only [Act.put, List.setIfInBounds_toArray, List.set_cons_zero, List.set_cons_succ, i64_w, i32_w]
    rfl
  refine pure_ (i := 5) (N := some 8) (v := ?_) (a' := ?_) #[true, true, true, true, true, true, false, false, false, false, false, false, false, false, false, false] rfl rfl (by kernel_rfl) (fun _ _ _ h => h) (Or.inl ⟨by rfl, ?_⟩) ?_ ?_
  rotate_left
  · intro w'
    go_simp
    with_reducible rfl
  rotate_left
  · simp only [Act.put, List.setIfInBounds_toArray, List.set_cons_zero, List.set_cons_succ, i64_w, i32_w]
    rfl
  refine pure_ (i := 6) (N := some 9) (v := ?_) (a' := ?_) #[true, true, true, true, true, true, true, false, false, false, false, false, false, false, false, false] rfl rfl (by kernel_rfl) (fun _ _ _ h => h) (Or.inl ⟨by rfl, ?_⟩) ?_ ?_
  rotate_left
  · intro w'
    go_simp
    with_reducible rfl
  rotate_left
  · simp only [Act.put, List.setIfInBounds_toArray, List.set_cons_zero, List.set_cons_succ, i64_w, i32_w]
    rfl
  refine take_ (i := 7) (N := some 10) (v := ?_) (a' := ?_) #[true, true, true, true, true, true, true, true, false, false, false, false, false, false, false, false] rfl rfl (by kernel_rfl) (fun _ _ _ h => h) (Or.inl ⟨by rfl, ?_⟩) hHeld ?_ ?_
  rotate_left
  · rintro w' ⟨g1, g2⟩; have s0_ := cellAt (i := 0) g1 rfl; have s1_ := cellAt (i := 1) g1 rfl; have s2_ := cellAt (i := 2) g1 rfl
    go_simp
    with_reducible rfl
  rotate_left
  · simp only [Act.put, List.setIfInBounds_toArray, List.set_cons_zero, List.set_cons_succ, i64_w, i32_w]
    rfl
  refine pure_ (i := 8) (N := some 11) (v := ?_) (a' := ?_) #[true, true, true, true, true, true, true, true, true, false, false, false, false, false, false, false] rfl rfl (by kernel_rfl) (fun _ _ _ h => h) (Or.inl ⟨by rfl, ?_⟩) ?_ ?_
  rotate_left
  · intro w'
    go_simp
    with_reducible rfl
  rotate_left
  · simp only [Act.put, List.setIfInBounds_toArray, List.set_cons_zero, List.set_cons_succ, i64_w, i32_w]
    rfl
  refine pure_ (i := 9) (N := some 12) (v := ?_) (a' := ?_) #[true, true, true, true, true, true, true, true, true, true, false, false, false, false, false, false] rfl rfl (by kernel_rfl) (fun _ _ _ h => h) (Or.inl ⟨by rfl, ?_⟩) ?_ ?_
  rotate_left
  · intro w'
    go_simp
    with_reducible rfl
  rotate_left
  · simp only [Act.put, List.setIfInBounds_toArray, List.set_cons_zero, List.set_cons_succ, i64_w, i32_w]
    rfl
  refine pure_ (i := 10) (N := some 13) (v := ?_) (a' := ?_) #[true, true, true, true, true, true, true, true, true, true, true, false, false, false, false, false] rfl rfl (by kernel_rfl) (fun _ _ _ h => h) (Or.inl ⟨by rfl, ?_⟩) ?_ ?_
  rotate_left
  · intro w'
    go_simp
    with_reducible rfl
  rotate_left
  · simp only [Act.put, List.setIfInBounds_toArray, List.set_cons_zero, List.set_cons_succ, i64_w, i32_w]
    rfl
  refine take_ (i := 11) (N := some 14) (v := ?_) (a' := ?_) #[true, true, true, true, true, true, true, true, true, true, true, true, false, false, false, false] rfl rfl (by kernel_rfl) (fun _ _ _ h => h) (Or.inl ⟨by rfl, ?_⟩) hHeld ?_ ?_
  rotate_left
  · rintro w' ⟨g1, g2⟩; have s0_ := cellAt (i := 0) g1 rfl; have s1_ := cellAt (i := 1) g1 rfl; have s2_ := cellAt (i := 2) g1 rfl
    go_simp
    with_reducible rfl
  rotate_left
  · simp only [Act.put, List.setIfInBounds_toArray, List.set_cons_zero, List.set_cons_succ, i64_w, i32_w]
    rfl
  refine one_ (i := 12) (N := some 15) #[true, true, true, true, true, true, true, true, true, true, true, true, true, false, false, false] rfl rfl (by kernel_rfl) (by decide) (fun K hK => ?_)
  refine goes_ Try.func19 (by kernel_rfl) rfl #[.map (some mb)] (by rfl) rfl rfl (by (try simp only [List.map_toArray, List.map_cons, List.map_nil]); first | done | rfl) ?_
  with_reducible refine (clone_calls mb es cl w1 hHeld.2).mono ?_
  rintro _ w2 ⟨rfl, rfl⟩
  refine ⟨_, rfl, ?_⟩
  have HX := Aside0.mk (show Below w1.heap.size w1 (w1.alloc (.map es cl)) from below_alloc (Below.refl _ _) _)
  have HN := Aside0.mk (heap_alloc_new w1 (.map es cl))
  have H2 := Aside0.mk (H1.out.below HX.out)
  have HB2 := Aside0.mk (below_step HB1.out HX.out)
  have HM2 := Aside0.mk ((HX.out.block mb (blk_lt hHeld.2)).trans hHeld.2)
  have HGE := Aside0.mk HB1.out.size
  generalize w1.alloc (.map es cl) = w2 at HX HN H2 HB2 HM2 ⊢
  refine hK.out _ _ ⟨H2.out.blk, HM2.out⟩ (fun hHeld => ?_)
  clear hK K
  refine norm_ (a' := ?_) ?_ ?_
  rotate_left
  · show Act.put _ (some 15) _ = _
    simp only [Act.put, List.setIfInBounds_toArray, List.set_cons_zero, List.set_cons_succ, i64_w, i32_w]
    rfl
  refine pure_ (i := 13) (N := some 16) (v := ?_) (a' := ?_) #[true, true, true, true, true, true, true, true, true, true, true, true, true, true, false, false] rfl rfl (by kernel_rfl) (fun _ _ _ h => h) (Or.inl ⟨by rfl, ?_⟩) ?_ ?_
  rotate_left
  · intro w'
    go_simp
    with_reducible rfl
  rotate_left
  · simp only [Act.put, List.setIfInBounds_toArray, List.set_cons_zero, List.set_cons_succ, i64_w, i32_w]
    rfl
  have HC3 := Aside0.mk (heap_alloc_new w2 (.cells #[.int .u64 s0, .int .i64 s1, .map (some w1.heap.size)] 65))
  have HX3 := Aside0.mk (show Below w2.heap.size w2 (w2.alloc (.cells #[.int .u64 s0, .int .i64 s1, .map (some w1.heap.size)] 65)) from below_alloc (Below.refl _ _) _)
  refine one_ (i := 14) (N := some 17) #[true, true, true, true, true, true, true, true, true, true, true, true, true, true, true, false] rfl rfl (by kernel_rfl) (by decide) (fun K hK => ?_)
  refine val_ (w1 := w2.alloc (.cells #[.int .u64 s0, .int .i64 s1, .map (some w1.heap.size)] 65)) (v := .pointer (some ⟨w2.heap.size, 0, none⟩)) (by rfl) (by first | (go_simp; done) | (go_simp; rfl)) ?_
  refine hK.out _ _ ⟨(H2.out.below HX3.out).blk, (HX3.out.block mb (blk_lt HM2.out)).trans HM2.out⟩ (fun hHeld => ?_)
  clear hK K
  refine norm_ (a' := ?_) ?_ ?_
  rotate_left
  · show Act.put _ (some 17) _ = _
    simp only [Act.put, List.setIfInBounds_toArray, List.set_cons_zero, List.set_cons_succ, i64_w, i32_w]
    rfl
  refine pure_ (i := 15) (N := some 2) (v := ?_) (a' := ?_) #[true, true, true, true, true, true, true, true, true, true, true, true, true, true, true, true] rfl rfl (by kernel_rfl) (fun _ _ _ h => h) (Or.inl ⟨by rfl, ?_⟩) ?_ ?_
  rotate_left
  · intro w'
    go_simp
    with_reducible rfl
  rotate_left
  · simp only [Act.put, List.setIfInBounds_toArray, List.set_cons_zero, List.set_cons_succ, i64_w, i32_w]
    rfl
  refine done_ (by kernel_rfl) ?_
  go_wp2
  go_ret
  refine ⟨w2.heap.size, w1.heap.size, rfl, ⟨HC3.out, ⟨es, cl, (HX3.out.block _ (blk_lt HN.out)).trans HN.out, HS.out⟩, by have := HL0.out; have := HB2.out.size; omega, by have := HL0.out; have := HGE.out; omega⟩, HB2.out.size, HGE.out, below_step HB2.out HX3.out⟩
end Go.Proofs.Ytgpldjckohlkfaa.P
