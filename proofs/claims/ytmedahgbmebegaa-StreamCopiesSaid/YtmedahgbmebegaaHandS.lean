/- The stream's contracts, by hand: its state is a block of three cells and a map. -/
import Derived.Test.YtmedahgbmebegaaPx0
import Derived.Test.YtmedahgbmebegaaIMap
import Derived.Test.YtmedahgbmebegaaPSx1
import Derived.Lib.Hide
import Derived.Deep.RegionHeld3
import Derived.RegionTactic
import Derived.BigRegion
import Derived.Outline
namespace Go.Proofs.Ytmedahgbmebegaa.P
open Go.Proofs.YtmedahgbmebegaaOv Go.RowKit Go.Proofs.YtmedahgbmebegaaW.PrintWords Go.Proofs.YtmedahgbmebegaaW.PrintLast Go.Proofs.YtmedahgbmebegaaW.PrintMore Go.Proofs.YtmedahgbmebegaaIMap
attribute [local go_sem] max2_int min2_int max_two min_two max_three min_three max_four min_four
set_option linter.unusedVariables false
set_option linter.unusedSimpArgs false
set_option linter.unusedSectionVars false
variable [TheW]

/-- But block g, and one map, all is kept. -/
def KeepM (w w' : World) (g : Nat) : Prop := w.heap.size ≤ w'.heap.size ∧ ∃ mb es cl, w.heap[mb]? = some (.map es cl) ∧ ∀ i, i < w.heap.size → i ≠ g → i ≠ mb → w'.heap[i]? = w.heap[i]?
theorem Kd.R_keep {α : Type} {d : Kd α} {e base : Nat} {ok : Nat → Prop} {w w1 : World} {v : Value} {xs : List α} {g : Nat} (h : d.R e w base ok v xs) (hk : KeepM w w1 g) (hok : ∀ k, ok k → k ≠ g) : d.R e w1 base ok v xs := by
  obtain ⟨_, mb, es, cl, hm, hkk⟩ := hk
  refine Kd.R_mono (Kd.R_move (Kd.R_bound h) (fun k hk => hkk k hk.2.2.1 (hok k hk.1) ?_)) (fun _ hk => hk.1)
  rintro rfl
  obtain ⟨_, _, _, q, _, cells, hc⟩ := hk
  rw [hm] at hc
  cases hc
theorem Kd.R_oldK {α : Type} {d : Kd α} {e base : Nat} {ok : Nat → Prop} {w w1 : World} {v : Value} {xs : List α} {g : Nat} (h : d.R e w base (fun k => ok k ∧ k ≠ g) v xs) (hk : KeepM w w1 g) : d.R e w1 base (fun k => ok k ∧ k < w.heap.size) v xs :=
  Kd.R_mono (Kd.R_keep (Kd.R_bound h) hk (fun _ hk => hk.1.2)) (fun _ hk => ⟨hk.1.1, hk.2.2.1⟩)
theorem KeepBut.blk {w w1 : World} {g g' : Nat} {o : Obj} (h : KeepM w w1 g) (hb : w.heap[g']? = some o) (hg : g' ≠ g) (hr : ∀ es cl, o ≠ .map es cl) : w1.heap[g']? = some o := by
  obtain ⟨_, mb, es, cl, hm, hkk⟩ := h
  refine (hkk g' (blk_lt hb) hg ?_).trans hb
  rintro rfl
  rw [hm] at hb
  exact hr _ _ (Option.some.inj hb).symm

def enc37 (x : S37) : Value := .agg #[.int .i64 x.f0, .int .u32 x.f1, .int .u64 x.f2, .int .i64 x.f3, .slice x.f4.A x.f4.n x.f4.c, .string x.f5]
/-- A stream at block g: its size, its count, what it holds; none of it is older than w0. -/
def IsS56 (w0 W : World) (g : Nat) (f0 f1 : Int) (f2 : List (Int × S37)) : Prop := ∃ mb, W.heap[g]? = some (.cells #[.int .i64 f0, .int .u32 f1, .map (some mb)] 56 (0, 0)) ∧ w0.heap.size ≤ g ∧ w0.heap.size ≤ mb ∧ MapIs W mb .u32 enc37 f2
section
variable {w0 W : World} {g : Nat} {f0 f1 : Int} {f2 : List (Int × S37)}
theorem IsS56.below {W1 : World} (h : IsS56 w0 W g f0 f1 f2) (hw : Below W.heap.size W W1) : IsS56 w0 W1 g f0 f1 f2 := by
  obtain ⟨mb, hb, hg, hm, hM⟩ := h
  exact ⟨mb, (hw.block g (blk_lt hb)).trans hb, hg, hm, hM.below hw⟩
theorem IsS56.grown {W1 : World} {row : Option Nat} (h : IsS56 w0 W g f0 f1 f2) (hw : W.grownBy W1 row) (hn : some g ≠ row ∧ ∀ k, row = some k → ∃ cs t fr, W.heap[k]? = some (.cells cs t fr)) : IsS56 w0 W1 g f0 f1 f2 := by
  obtain ⟨mb, hb, hg, hm, hM⟩ := h
  obtain ⟨hne, hc⟩ := hn
  refine ⟨mb, (hw.block g (blk_lt hb) hne).trans hb, hg, hm, hM.move (hw.block mb hM.lt ?_)⟩
  intro e
  obtain ⟨cs, t, fr, hk⟩ := hc mb e.symm
  exact hM.ne_cells hk rfl
theorem IsS56.alloc (h : IsS56 w0 W g f0 f1 f2) (o : Obj) : IsS56 w0 (W.alloc o) g f0 f1 f2 := h.below (below_alloc (Below.refl _ _) o)
theorem IsS56.drewN (h : IsS56 w0 W g f0 f1 f2) (m : Nat) : IsS56 w0 (W.drewN m) g f0 f1 f2 := h
theorem IsS56.drew (h : IsS56 w0 W g f0 f1 f2) : IsS56 w0 W.drew g f0 f1 f2 := h
theorem IsS56.at_ {w' : World} {m : Nat} (hq : W.drewN m = w') (h : IsS56 w0 W g f0 f1 f2) : IsS56 w0 w' g f0 f1 f2 := by subst hq; exact h
theorem IsS56.apart {α : Type} {d : Kd α} {e base : Nat} {ok : Nat → Prop} {v : Value} {xs : List α} (h : IsS56 w0 W g f0 f1 f2) (ho : d.R e W base ok v xs) (ht : ∀ q, q ∈ e :: d.E → q ≠ 56) : d.R e W base (fun k => ok k ∧ k ≠ g) v xs := by
  obtain ⟨mb, hb, _⟩ := h
  exact Kd.R_types ho hb ht
theorem IsS56.own_ne {α : Type} {d : Kd α} {e base : Nat} {ok : Nat → Prop} {v : Value} {xs : List α} (h : IsS56 w0 W g f0 f1 f2) (ho : d.R e W base ok v xs) (ht : e ≠ 56) : some g ≠ v.ownBlock ∧ ∀ k, v.ownBlock = some k → ∃ cs t fr, W.heap[k]? = some (.cells cs t fr) := by
  obtain ⟨mb, hb, _⟩ := h
  refine ⟨Kd.R_ne ho hb ht, fun k hk => ?_⟩
  obtain ⟨_, _, _, q, _, cells, hc⟩ := (Kd.R_bound ho).1 k hk
  exact ⟨cells, q, _, hc⟩
theorem IsS56.kept {W1 : World} {v : Value} (h : IsS56 w0 W g f0 f1 f2) (hk : Kept W W1 (fun k_ => some k_ = v.ownBlock)) (hn : some g ≠ v.ownBlock ∧ ∀ k, v.ownBlock = some k → ∃ cs t fr, W.heap[k]? = some (.cells cs t fr)) : IsS56 w0 W1 g f0 f1 f2 := by
  obtain ⟨mb, hb, hg, hm, hM⟩ := h
  obtain ⟨hne, hc⟩ := hn
  refine ⟨mb, (hk.2 g (blk_lt hb) hne).trans hb, hg, hm, hM.move (hk.2 mb hM.lt fun e => ?_)⟩
  obtain ⟨cs, t, fr, hk⟩ := hc mb e.symm
  exact hM.ne_cells hk rfl
theorem IsS56.fresh (h : IsS56 w0 W g f0 f1 f2) : ∀ k, W.heap.size ≤ k → k ≠ g := by
  obtain ⟨mb, hb, _⟩ := h
  exact Kd.freshB hb
theorem IsS56.lt (h : IsS56 w0 W g f0 f1 f2) : g < W.heap.size := by
  obtain ⟨mb, hb, _⟩ := h
  exact blk_lt hb
theorem IsS56.ge (h : IsS56 w0 W g f0 f1 f2) : w0.heap.size ≤ g := by
  obtain ⟨mb, hb, hg, _⟩ := h
  exact hg
theorem IsS56.ne_blk {a : Nat} {cs : Array Value} {t : TypeId} {fr : Nat × Nat} (h : IsS56 w0 W g f0 f1 f2) (hb2 : W.heap[a]? = some (.cells cs t fr)) (ht : t ≠ 56) : g ≠ a := by
  obtain ⟨mb, hb, _⟩ := h
  rintro rfl
  rw [hb] at hb2
  injection hb2 with hb2
  injection hb2 with _ ht2
  exact ht ht2.symm
theorem IsS56.far {p : Addr} (h : IsS56 w0 W g f0 f1 f2) (hne : g ≠ p.block) (u : Value) : IsS56 w0 (W.setCell p u) g f0 f1 f2 := by
  obtain ⟨mb, hb, hg, hm, hM⟩ := h
  exact ⟨mb, blk_far hb hne u, hg, hm, hM.setAny p u⟩
end

/-! ### New -/
theorem IsS56.new {w0 w : World} (x : Int) (hB : Below w0.heap.size w0 w) : IsS56 w0 ((w.alloc (.map #[] 0)).alloc (.cells #[.int .i64 x, .int .u32 0, .map (some w.heap.size)] 56)) (w.heap.size + 1) x 0 [] :=
  ⟨w.heap.size, by have := heap_alloc_new (w.alloc (.map #[] 0)) (.cells #[.int .i64 x, .int .u32 0, .map (some w.heap.size)] 56); simpa using this, by have := hB.size; omega, hB.size, (MapIs.made w .u32 enc37).alloc _⟩
def stream_New.f (a0 : Int) : Option (Int × Int × List (Int × S37)) := some (mx 1 (mn a0 64), 0, [])
set_option maxHeartbeats 1000000 in
theorem stream_New.calls (a0 : Int) (r1 r2 : Int) (r3 : List (Int × S37)) (w0 w : World) (hB : Below w0.heap.size w0 w) (h : stream_New.f a0 = some (r1, r2, r3)) :
    Calls Try.prog 9 #[.int .i64 a0] w fun e w' => ∃ g_ : Nat, e = .returned (.pointer (some ⟨g_, 0, none⟩)) ∧ IsS56 w0 w' g_ r1 r2 r3 ∧ Below w0.heap.size w0 w' ∧ Below w.heap.size w w' := by
  simp only [stream_New.f, Option.some.injEq, Prod.mk.injEq] at h
  obtain ⟨rfl, rfl, rfl⟩ := h
  have HB := Aside0.mk hB
  clear hB
  have hu := Try.underlying56
  have hmm := @run_makeMap Try.prog
  go_enter Try.func9, Try.ntmps9
  go_wp2
  all_goals
    go_ret
    have hmx : ∀ x : Int, mx 1 (mn a0 64) = x → IsS56 w0 ((w.alloc (.map #[] 0)).alloc (.cells #[.int .i64 x, .int .u32 0, .map (some w.heap.size)] 56)) (w.heap.size + 1) (mx 1 (mn a0 64)) 0 [] := fun x hx => by rw [hx]; exact IsS56.new x HB.out
    refine ⟨_, rfl, hmx _ (by unfold mx mn; (repeat' split) <;> omega), below_step HB.out ?_, ?_⟩
    all_goals exact below_alloc (below_alloc (Below.refl _ _) _) _
/-! ### Count, Held, Lacks -/
theorem KeepM.of_below {w0 w w1 : World} {g : Nat} {f0 f1 : Int} {f2 : List (Int × S37)} (h : IsS56 w0 w g f0 f1 f2) (hb : Below w.heap.size w w1) : KeepM w w1 g := by
  obtain ⟨mb, _, _, _, es, cl, hm, _⟩ := h
  exact ⟨hb.size, mb, es, cl, hm, fun i hi _ _ => hb.block i hi⟩
def stream_Count.f (s0 s1 : Int) (s2 : List (Int × S37)) : Option (Int × Int × Int × List (Int × S37)) := some (s1, s0, s1, s2)
set_option maxHeartbeats 1000000 in
theorem stream_Count.calls (g : Nat) (s0 s1 : Int) (s2 : List (Int × S37)) (r1 r2 r3 : Int) (r4 : List (Int × S37)) (w0 w : World) (hI : IsS56 w0 w g s0 s1 s2) (hB : Below w0.heap.size w0 w) (h : stream_Count.f s0 s1 s2 = some (r1, r2, r3, r4)) :
    Calls Try.prog 16 #[.pointer (some ⟨g, 0, none⟩)] w fun e w' => e = .returned (.int .u32 r1) ∧ IsS56 w0 w' g r2 r3 r4 ∧ Below w0.heap.size w0 w' ∧ KeepM w w' g := by
  simp only [stream_Count.f, Option.some.injEq, Prod.mk.injEq] at h
  obtain ⟨rfl, rfl, rfl, rfl⟩ := h
  have HB := Aside0.mk hB
  have HI := Aside0.mk hI
  obtain ⟨mb, hb, hg, hm, hM⟩ := hI
  have c1 : w.cell? ⟨g, 1, none⟩ = some (.int .u32 s1) := (blk_cell hb 1).trans rfl
  clear hb hg hm hM hB
  have hu := Try.underlying56
  go_enter Try.func16, Try.ntmps16
  go_wp2
  go_ret
  exact ⟨rfl, HI.out, HB.out, KeepM.of_below HI.out (Below.refl _ _)⟩
def stream_Held.f (s0 s1 : Int) (s2 : List (Int × S37)) : Option (Int × Int × Int × List (Int × S37)) := if s2.length ≤ 1000000 then some (s2.length, s0, s1, s2) else none
set_option maxHeartbeats 1000000 in
theorem stream_Held.calls (g : Nat) (s0 s1 : Int) (s2 : List (Int × S37)) (r1 r2 r3 : Int) (r4 : List (Int × S37)) (w0 w : World) (hI : IsS56 w0 w g s0 s1 s2) (hB : Below w0.heap.size w0 w) (h : stream_Held.f s0 s1 s2 = some (r1, r2, r3, r4)) :
    Calls Try.prog 17 #[.pointer (some ⟨g, 0, none⟩)] w fun e w' => e = .returned (.int .i64 r1) ∧ IsS56 w0 w' g r2 r3 r4 ∧ Below w0.heap.size w0 w' ∧ KeepM w w' g := by
  unfold stream_Held.f at h
  by_cases hl : s2.length ≤ 1000000
  · simp only [if_pos hl, Option.some.injEq, Prod.mk.injEq] at h
    obtain ⟨rfl, rfl, rfl, rfl⟩ := h
    have HB := Aside0.mk hB
    have HI := Aside0.mk hI
    obtain ⟨mb, hb, hg, hm, hM⟩ := hI
    have c1 : w.cell? ⟨g, 2, none⟩ = some (.map (some mb)) := (blk_cell hb 2).trans rfl
    have hlen := fun ty => hM.len (P := Try.prog) (t := 54) ty Try.underlying54 (by omega)
    clear hb hg hm hM hB
    have hu := Try.underlying56
    go_enter Try.func17, Try.ntmps17
    go_wp2
    go_ret
    exact ⟨rfl, HI.out, HB.out, KeepM.of_below HI.out (Below.refl _ _)⟩
  · rw [if_neg hl] at h
    cases h
def stream_Lacks.f (s0 s1 : Int) (s2 : List (Int × S37)) (a1 : Int) : Option (Int × Bool × Int × Int × List (Int × S37)) := if s1 ≥ a1 then some (0, false, s0, s1, s2) else some ((s1 + 1) % 4294967296, true, s0, s1, s2)
set_option maxHeartbeats 1000000 in
theorem stream_Lacks.calls (g : Nat) (s0 s1 : Int) (s2 : List (Int × S37)) (a1 : Int) (r1 : Int) (r2 : Bool) (r3 r4 : Int) (r5 : List (Int × S37)) (w0 w : World) (hI : IsS56 w0 w g s0 s1 s2) (hB : Below w0.heap.size w0 w) (h : stream_Lacks.f s0 s1 s2 a1 = some (r1, r2, r3, r4, r5)) :
    Calls Try.prog 13 #[.pointer (some ⟨g, 0, none⟩), .int .u32 a1] w fun e w' => e = .returned (.tuple #[.int .u32 r1, .bool r2]) ∧ IsS56 w0 w' g r3 r4 r5 ∧ Below w0.heap.size w0 w' ∧ KeepM w w' g := by
  unfold stream_Lacks.f at h
  have HB := Aside0.mk hB
  have HI := Aside0.mk hI
  obtain ⟨mb, hb, hg, hm, hM⟩ := hI
  have c1 : w.cell? ⟨g, 1, none⟩ = some (.int .u32 s1) := (blk_cell hb 1).trans rfl
  clear hb hg hm hM hB
  have hu := Try.underlying56
  by_cases hc : s1 ≥ a1
  · simp only [if_pos hc, Option.some.injEq, Prod.mk.injEq] at h
    obtain ⟨rfl, rfl, rfl, rfl, rfl⟩ := h
    have hd : decide (a1 ≤ s1) = true := decide_eq_true hc
    go_enter Try.func13, Try.ntmps13
    go_wp2
    go_ret2
    exact ⟨rfl, HI.out, HB.out, KeepM.of_below HI.out (Below.refl _ _)⟩
  · simp only [if_neg hc, Option.some.injEq, Prod.mk.injEq] at h
    obtain ⟨rfl, rfl, rfl, rfl, rfl⟩ := h
    have hd : decide (a1 ≤ s1) = false := decide_eq_false hc
    go_enter Try.func13, Try.ntmps13
    go_wp2
    go_ret2
    exact ⟨rfl, HI.out, HB.out, KeepM.of_below HI.out (Below.refl _ _)⟩
/-! ### Same -/
def ref03_Same.f (k : Nat) (a0_0 a0_1 a0_2 a0_3 : Int) (a0_4 : OV) (a0_5 : ByteArray) (a1_0 a1_1 a1_2 a1_3 : Int) (a1_4 : OV) (a1_5 : ByteArray) : Option Bool :=
  PS.consortref03_Same.f k a0_0 a0_1 a0_2 a0_3 a0_4.l a0_5 a1_0 a1_1 a1_2 a1_3 a1_4.l a1_5
theorem ref03_Same.mono : ∀ a0 a1 a2 a3 a4 a5 a6 a7 a8 a9 a10 a11 k, LeO (ref03_Same.f k a0 a1 a2 a3 a4 a5 a6 a7 a8 a9 a10 a11) (ref03_Same.f (k + 1) a0 a1 a2 a3 a4 a5 a6 a7 a8 a9 a10 a11) :=
  fun _ _ _ _ _ _ _ _ _ _ _ _ k => PS.consortref03_Same.mono _ _ _ _ _ _ _ _ _ _ _ _ k
theorem ref03_Same.calls (k : Nat) (a0_0 a0_1 a0_2 a0_3 : Int) (a0_4 : OV) (a0_5 : ByteArray) (a1_0 a1_1 a1_2 a1_3 : Int) (a1_4 : OV) (a1_5 : ByteArray) (r : Bool) (w : World) (hW : Below TheW.w0.heap.size TheW.w0 w)
    (h : ref03_Same.f k a0_0 a0_1 a0_2 a0_3 a0_4 a0_5 a1_0 a1_1 a1_2 a1_3 a1_4 a1_5 = some r) :
    Calls Try.prog 18 #[.agg #[.int .i64 a0_0, .int .u32 a0_1, .int .u64 a0_2, .int .i64 a0_3, .slice a0_4.A a0_4.n a0_4.c, .string a0_5], .agg #[.int .i64 a1_0, .int .u32 a1_1, .int .u64 a1_2, .int .i64 a1_3, .slice a1_4.A a1_4.n a1_4.c, .string a1_5]] w fun e w' => e = .returned (.bool r) ∧ Below w.heap.size w w' := by
  have e0 : a0_4.n = a0_4.l.length := a0_4.hr.1.symm
  have e1 : a1_4.n = a1_4.l.length := a1_4.hr.1.symm
  have q0 := Kd.C_below a0_4.hr hW
  have q1 := Kd.C_below a1_4.hr hW
  have c0 := a0_4.hc
  have c1 := a1_4.hc
  rw [e0] at q0 c0 ⊢
  rw [e1] at q1 c1 ⊢
  exact PS.consortref03_Same.calls k a0_0 a0_1 a0_2 a0_3 _ _ a0_4.l a0_5 a1_0 a1_1 a1_2 a1_3 _ _ a1_4.l a1_5 r w q0 c0 q1 c1 h
end Go.Proofs.Ytmedahgbmebegaa.P
