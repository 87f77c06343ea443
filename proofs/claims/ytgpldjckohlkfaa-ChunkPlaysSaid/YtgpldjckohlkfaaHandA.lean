/- The chunks' contracts, by hand: their state is a block of three cells and a map. -/
import Derived.Test.YtgpldjckohlkfaaPx0
import Derived.Test.YtgpldjckohlkfaaIMap
import Derived.Lib.Hide
import Derived.Deep.RegionHeld3
import Derived.RegionTactic
import Derived.BigRegion
import Derived.BigQuiet
import Derived.Outline
namespace Go.Proofs.Ytgpldjckohlkfaa.P
open Go.Proofs.YtgpldjckohlkfaaOv Go.RowKit Go.Proofs.YtgpldjckohlkfaaW.PrintWords Go.Proofs.YtgpldjckohlkfaaW.PrintLast Go.Proofs.YtgpldjckohlkfaaW.PrintMore Go.Proofs.YtgpldjckohlkfaaIMap
attribute [local go_sem] max2_int min2_int max_two min_two max_three min_three max_four min_four
set_option linter.unusedVariables false
set_option linter.unusedSimpArgs false

/-- But block g, and one map, all is kept. -/
def KeepM (w w' : World) (g : Nat) : Prop := w.heap.size ≤ w'.heap.size ∧ ∃ mb es cl, w.heap[mb]? = some (.map es cl) ∧ ∀ i, i < w.heap.size → i ≠ g → i ≠ mb → w'.heap[i]? = w.heap[i]?
theorem Kd.R_keep {α : Type} {d : Kd α} {e base : Nat} {ok : Nat → Prop} {w w1 : World} {v : Value} {xs : List α} {g : Nat} (h : d.R e w base ok v xs) (hk : KeepM w w1 g) (hok : ∀ k, ok k → k ≠ g) : d.R e w1 base ok v xs := by
  obtain ⟨_, mb, es, cl, hm, hkk⟩ := hk
  refine Kd.R_mono (Kd.R_move (Kd.R_bound h) (fun k hk => hkk k hk.2.2.1 (hok k hk.1) ?_)) (fun _ hk => hk.1)
  rintro rfl
  obtain ⟨_, _, _, q, _, cells, hc⟩ := hk
  rw [hm] at hc
  cases hc
theorem Kd.R_oldK {α : Type} {d : Kd α} {e base : Nat} {ok : Nat → Prop} {w w1 : World} {v : Value} {xs : List α} {g : Nat} (h : d.R e w base (fun k => ok k ∧ k ≠ g) v xs) (hk : KeepM w w1 g) : d.R e w1 base (fun k => ok k ∧ k < w.heap.size) v xs :=
  Kd.R_mono (Kd.R_keep (Kd.R_bound h) hk (fun _ hk => hk.1.2)) (fun _ hk => ⟨hk.1.1, hk.2.2.1⟩)
theorem KeepBut.blk {w w1 : World} {g g' : Nat} {o : Obj} (h : KeepM w w1 g) (hb : w.heap[g']? = some o) (hg : g' ≠ g) (hr : ∀ es cl, o ≠ .map es cl) : w1.heap[g']? = some o := by
  obtain ⟨_, mb, es, cl, hm, hkk⟩ := h
  refine (hkk g' (blk_lt hb) hg ?_).trans hb
  rintro rfl
  rw [hm] at hb
  exact hr _ _ (Option.some.inj hb).symm

def encS (x : ByteArray) : Value := .string x
/-- Chunks that are put together at block g: their number, how many, what is there; none of it is older than w0. -/
def IsS65 (w0 W : World) (g : Nat) (f0 f1 : Int) (f2 : List (Int × ByteArray)) : Prop := ∃ mb, W.heap[g]? = some (.cells #[.int .u64 f0, .int .i64 f1, .map (some mb)] 65 (0, 0)) ∧ w0.heap.size ≤ g ∧ w0.heap.size ≤ mb ∧ MapB W mb .i64 encS f2
section
variable {w0 W : World} {g : Nat} {f0 f1 : Int} {f2 : List (Int × ByteArray)}
theorem IsS65.below {W1 : World} (h : IsS65 w0 W g f0 f1 f2) (hw : Below W.heap.size W W1) : IsS65 w0 W1 g f0 f1 f2 := by
  obtain ⟨mb, hb, hg, hm, hM⟩ := h
  exact ⟨mb, (hw.block g (blk_lt hb)).trans hb, hg, hm, hM.below hw⟩
theorem IsS65.grown {W1 : World} {row : Option Nat} (h : IsS65 w0 W g f0 f1 f2) (hw : W.grownBy W1 row) (hn : some g ≠ row ∧ ∀ k, row = some k → ∃ cs t fr, W.heap[k]? = some (.cells cs t fr)) : IsS65 w0 W1 g f0 f1 f2 := by
  obtain ⟨mb, hb, hg, hm, hM⟩ := h
  obtain ⟨hne, hc⟩ := hn
  refine ⟨mb, (hw.block g (blk_lt hb) hne).trans hb, hg, hm, hM.move (hw.block mb hM.lt ?_)⟩
  intro e
  obtain ⟨cs, t, fr, hk⟩ := hc mb e.symm
  exact hM.ne_cells hk rfl
theorem IsS65.alloc (h : IsS65 w0 W g f0 f1 f2) (o : Obj) : IsS65 w0 (W.alloc o) g f0 f1 f2 := h.below (below_alloc (Below.refl _ _) o)
theorem IsS65.drewN (h : IsS65 w0 W g f0 f1 f2) (m : Nat) : IsS65 w0 (W.drewN m) g f0 f1 f2 := h
theorem IsS65.drew (h : IsS65 w0 W g f0 f1 f2) : IsS65 w0 W.drew g f0 f1 f2 := h
theorem IsS65.at_ {w' : World} {m : Nat} (hq : W.drewN m = w') (h : IsS65 w0 W g f0 f1 f2) : IsS65 w0 w' g f0 f1 f2 := by subst hq; exact h
theorem IsS65.apart {α : Type} {d : Kd α} {e base : Nat} {ok : Nat → Prop} {v : Value} {xs : List α} (h : IsS65 w0 W g f0 f1 f2) (ho : d.R e W base ok v xs) (ht : ∀ q, q ∈ e :: d.E → q ≠ 65) : d.R e W base (fun k => ok k ∧ k ≠ g) v xs := by
  obtain ⟨mb, hb, _⟩ := h
  exact Kd.R_types ho hb ht
theorem IsS65.own_ne {α : Type} {d : Kd α} {e base : Nat} {ok : Nat → Prop} {v : Value} {xs : List α} (h : IsS65 w0 W g f0 f1 f2) (ho : d.R e W base ok v xs) (ht : e ≠ 65) : some g ≠ v.ownBlock ∧ ∀ k, v.ownBlock = some k → ∃ cs t fr, W.heap[k]? = some (.cells cs t fr) := by
  obtain ⟨mb, hb, _⟩ := h
  refine ⟨Kd.R_ne ho hb ht, fun k hk => ?_⟩
  obtain ⟨_, _, _, q, _, cells, hc⟩ := (Kd.R_bound ho).1 k hk
  exact ⟨cells, q, _, hc⟩
theorem IsS65.kept {W1 : World} {v : Value} (h : IsS65 w0 W g f0 f1 f2) (hk : Kept W W1 (fun k_ => some k_ = v.ownBlock)) (hn : some g ≠ v.ownBlock ∧ ∀ k, v.ownBlock = some k → ∃ cs t fr, W.heap[k]? = some (.cells cs t fr)) : IsS65 w0 W1 g f0 f1 f2 := by
  obtain ⟨mb, hb, hg, hm, hM⟩ := h
  obtain ⟨hne, hc⟩ := hn
  refine ⟨mb, (hk.2 g (blk_lt hb) hne).trans hb, hg, hm, hM.move (hk.2 mb hM.lt fun e => ?_)⟩
  obtain ⟨cs, t, fr, hk⟩ := hc mb e.symm
  exact hM.ne_cells hk rfl
theorem IsS65.fresh (h : IsS65 w0 W g f0 f1 f2) : ∀ k, W.heap.size ≤ k → k ≠ g := by
  obtain ⟨mb, hb, _⟩ := h
  exact Kd.freshB hb
theorem IsS65.lt (h : IsS65 w0 W g f0 f1 f2) : g < W.heap.size := by
  obtain ⟨mb, hb, _⟩ := h
  exact blk_lt hb
theorem IsS65.ge (h : IsS65 w0 W g f0 f1 f2) : w0.heap.size ≤ g := by
  obtain ⟨mb, hb, hg, _⟩ := h
  exact hg
theorem IsS65.ne_blk {a : Nat} {cs : Array Value} {t : TypeId} {fr : Nat × Nat} (h : IsS65 w0 W g f0 f1 f2) (hb2 : W.heap[a]? = some (.cells cs t fr)) (ht : t ≠ 65) : g ≠ a := by
  obtain ⟨mb, hb, _⟩ := h
  rintro rfl
  rw [hb] at hb2
  injection hb2 with hb2
  injection hb2 with _ ht2
  exact ht ht2.symm
theorem IsS65.far {p : Addr} (h : IsS65 w0 W g f0 f1 f2) (hne : g ≠ p.block) (u : Value) : IsS65 w0 (W.setCell p u) g f0 f1 f2 := by
  obtain ⟨mb, hb, hg, hm, hM⟩ := h
  exact ⟨mb, blk_far hb hne u, hg, hm, hM.setAny p u⟩
end

/-! ### New -/
theorem IsS65.new {w0 w : World} (x : Int) (hB : Below w0.heap.size w0 w) : IsS65 w0 ((w.alloc (.map #[] 0)).alloc (.cells #[.int .u64 x, .int .i64 0, .map (some w.heap.size)] 65)) (w.heap.size + 1) x 0 [] :=
  ⟨w.heap.size, by have := heap_alloc_new (w.alloc (.map #[] 0)) (.cells #[.int .u64 x, .int .i64 0, .map (some w.heap.size)] 65); simpa using this, by have := hB.size; omega, hB.size, (MapB.made w .i64 encS).alloc _⟩
def chunk_New.f (a0 : Int) : Option (Int × Int × List (Int × ByteArray)) := some (a0, 0, [])
set_option maxHeartbeats 1000000 in
theorem chunk_New.calls (a0 : Int) (r1 r2 : Int) (r3 : List (Int × ByteArray)) (w0 w : World) (hB : Below w0.heap.size w0 w) (h : chunk_New.f a0 = some (r1, r2, r3)) :
    Calls Try.prog 11 #[.int .u64 a0] w fun e w' => ∃ g_ : Nat, e = .returned (.pointer (some ⟨g_, 0, none⟩)) ∧ IsS65 w0 w' g_ r1 r2 r3 ∧ Below w0.heap.size w0 w' ∧ Below w.heap.size w w' := by
  simp only [chunk_New.f, Option.some.injEq, Prod.mk.injEq] at h
  obtain ⟨rfl, rfl, rfl⟩ := h
  have HB := Aside0.mk hB
  clear hB
  have hu := Try.underlying65
  have hmm := @run_makeMap Try.prog
  go_enter Try.func11, Try.ntmps11
  go_wp2
  all_goals
    go_ret
    refine ⟨_, rfl, IsS65.new _ HB.out, below_step HB.out ?_, ?_⟩
    all_goals exact below_alloc (below_alloc (Below.refl _ _) _) _
theorem KeepM.of_below {w0 w w1 : World} {g : Nat} {f0 f1 : Int} {f2 : List (Int × ByteArray)} (h : IsS65 w0 w g f0 f1 f2) (hb : Below w.heap.size w w1) : KeepM w w1 g := by
  obtain ⟨mb, _, _, _, es, cl, hm, _⟩ := h
  exact ⟨hb.size, mb, es, cl, hm, fun i hi _ _ => hb.block i hi⟩
end Go.Proofs.Ytgpldjckohlkfaa.P
