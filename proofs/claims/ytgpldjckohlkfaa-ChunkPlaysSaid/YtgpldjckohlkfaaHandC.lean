/- Whole of the chunks, by hand; and that two records without rows are the same. -/
import Derived.Test.YtgpldjckohlkfaaHandB
import Derived.Test.YtgpldjckohlkfaaPSx2
import Derived.Deep.Slices
namespace Go.Proofs.Ytgpldjckohlkfaa.P
open Go.Proofs.YtgpldjckohlkfaaOv Go.RowKit Go.Proofs.YtgpldjckohlkfaaW.PrintWords Go.Proofs.YtgpldjckohlkfaaW.PrintLast Go.Proofs.YtgpldjckohlkfaaW.PrintMore Go.Proofs.YtgpldjckohlkfaaIMap
set_option linter.unusedVariables false
set_option linter.unusedSimpArgs false

/-- What n places of a map hold from place i on, one behind the other, behind acc. -/
def cat (l : List (Int × ByteArray)) : Nat → Nat → ByteArray → Option ByteArray
  | 0, _, acc => some acc
  | n + 1, i, acc => if acc.size + ((mget l (i : Int)).getD ⟨#[]⟩).size ≤ 9223372036854775807 then cat l n (i + 1) (acc ++ (mget l (i : Int)).getD ⟨#[]⟩) else none
def chunk_Whole.f (s0 s1 : Int) (s2 : List (Int × ByteArray)) : Option (ByteArray × Bool × Int × Int × List (Int × ByteArray)) :=
  if s2.length ≤ 1000000 then
    if (s2.length : Int) = 0 then some (⟨#[]⟩, false, s0, s1, s2)
    else if (s2.length : Int) ≠ s1 then some (⟨#[]⟩, false, s0, s1, s2)
    else (cat s2 s1.toNat 0 ⟨#[]⟩).bind fun z => some (z, true, s0, s1, s2)
  else none
theorem look63f {W : World} {mb : Nat} {l : List (Int × ByteArray)} (h : MapIs W mb .i64 encS l) (k : Int) :
    (Instr.lookup 63 (.map (some mb)) (.int .i64 k) false).run Try.prog W = .ok (.string ((mget l k).getD ⟨#[]⟩)) W := by
  have hz : ((mget l k).map encS).getD (.string ⟨#[]⟩) = .string ((mget l k).getD ⟨#[]⟩) := by cases mget l k <;> rfl
  have := h.look false Try.underlying63 Try.underlying3 (zero9 _) k
  simp only [hz] at this
  exact this
set_option maxHeartbeats 8000000 in
set_option maxRecDepth 100000 in
theorem chunk_Whole.calls (g : Nat) (s0 s1 : Int) (s2 : List (Int × ByteArray)) (r1 : ByteArray) (r2 : Bool) (r3 r4 : Int) (r5 : List (Int × ByteArray)) (w0 w : World) (hI : IsS65 w0 w g s0 s1 s2) (hB : Below w0.heap.size w0 w)
    (h : chunk_Whole.f s0 s1 s2 = some (r1, r2, r3, r4, r5)) :
    Calls Try.prog 13 #[.pointer (some ⟨g, 0, none⟩)] w fun e w' =>
      e = .returned (.tuple #[.string r1, .bool r2]) ∧ IsS65 w0 w' g r3 r4 r5 ∧ Below w0.heap.size w0 w' ∧ KeepM w w' g := by
  unfold chunk_Whole.f at h
  by_cases hl : s2.length ≤ 1000000
  rotate_left
  · rw [if_neg hl] at h
    cases h
  rw [if_pos hl] at h
  have H := Aside0.mk h
  clear h
  have HI := Aside0.mk hI
  have HB := Aside0.mk hB
  obtain ⟨mb, hb, hg0, hm0, hM⟩ := hI
  have HLL := Aside0.mk hl
  have HM := Aside0.mk hM
  have HBL := Aside0.mk hb
  clear hl hb hM hg0 hm0 hB
  have hu := Try.underlying65
  have c1 : w.cell? ⟨g, 1, none⟩ = some (.int .i64 s1) := (blk_cell HBL.out 1).trans rfl
  have c2 : w.cell? ⟨g, 2, none⟩ = some (.map (some mb)) := (blk_cell HBL.out 2).trans rfl
  have hlenN := fun (n : Nat) ty => (show MapIs (w.drewN n) mb .i64 encS s2 from HM.out.is).len (P := Try.prog) (t := 63) ty Try.underlying63 (by have := HLL.out; omega)
  have hlen := fun ty => HM.out.is.len (P := Try.prog) (t := 63) ty Try.underlying63 (by have := HLL.out; omega)
  obtain ⟨L, hL⟩ : ∃ L, L = (s2.length : Int) := ⟨_, rfl⟩
  rw [← hL] at hlen hlenN
  have H1 := H.out
  rw [← hL] at H1
  have HL := Aside0.mk hL
  clear hL H
  go_enter Try.func13, Try.ntmps13
  by_cases d0 : L = 0
  · have b0 : (L == 0) = true := beq_iff_eq.mpr d0
    rw [if_pos d0] at H1
    simp only [Option.some.injEq, Prod.mk.injEq] at H1
    obtain ⟨rfl, rfl, rfl, rfl, rfl⟩ := H1
    clear d0
    go_wp2
    go_quiet (fail)
    go_wp2
    go_ret2
    exact ⟨rfl, HI.out.drewN _, pw_below_drewN HB.out _, KeepM.of_below HI.out (pw_below_drewN (Below.refl _ _) _)⟩
  have b0 : (L == 0) = false := beq_eq_false_iff_ne.mpr d0
  rw [if_neg d0] at H1
  clear d0
  by_cases d1 : L ≠ s1
  · have b1 : (L != s1) = true := bne_iff_ne.mpr d1
    rw [if_pos d1] at H1
    simp only [Option.some.injEq, Prod.mk.injEq] at H1
    obtain ⟨rfl, rfl, rfl, rfl, rfl⟩ := H1
    clear d1
    go_wp2
    go_quiet (fail)
    go_wp2
    go_ret2
    exact ⟨rfl, HI.out.drewN _, pw_below_drewN HB.out _, KeepM.of_below HI.out (pw_below_drewN (Below.refl _ _) _)⟩
  have b1 : (L != s1) = false := by simpa using d1
  rw [if_neg d1] at H1
  obtain ⟨z, hz, hzz⟩ := Option.bind_eq_some_iff.mp H1
  simp only [Option.some.injEq, Prod.mk.injEq] at hzz
  obtain ⟨rfl, rfl, rfl, rfl, rfl⟩ := hzz
  clear H1
  have HZ := Aside0.mk hz
  have HN := Aside0.mk (show s1 = ((s1.toNat : Nat) : Int) ∧ s1.toNat ≤ 1000000 by have := HL.out; have := HLL.out; simp at d1; omega)
  clear d1 hz
  go_wp2
  go_quiet (fail)
  have HId := Aside0.mk (show IsS65 w0 (w.drewN nq) g s0 s1 s2 from HI.out.drewN _)
  have HBd := Aside0.mk (pw_below_drewN HB.out nq)
  have HKd := Aside0.mk (KeepM.of_below HI.out (pw_below_drewN (Below.refl _ _) nq))
  have HMd := Aside0.mk (show MapIs (w.drewN nq) mb .i64 encS s2 from HM.out.is)
  have c1' : (w.drewN nq).cell? ⟨g, 1, none⟩ = some (.int .i64 s1) := c1
  have c2' : (w.drewN nq).cell? ⟨g, 2, none⟩ = some (.map (some mb)) := c2
  clear c1 c2 hlen hlenN b0 b1 HI HB HM HBL
  generalize w.drewN nq = wd at *
  go_wp2
  go_loopg [4, 5, 28] (s1.toNat + 1) (fun kq v4 v5 v28 wr => ∃ (i : Nat) (acc : ByteArray), wr = wd ∧ v28 = .int .i64 (i : Int) ∧ v4 = .string acc ∧ Aside0 (i + kq = s1.toNat + 1) ∧ Aside0 (i ≤ s1.toNat) ∧ Aside0 (cat s2 (s1.toNat - i) i acc = some z))
  case atStart => exact ⟨0, ⟨#[]⟩, rfl, rfl, rfl, ⟨by omega⟩, ⟨by omega⟩, HZ⟩
  case round =>
    obtain ⟨i, acc, rfl, rfl, rfl, HK, HLE, HC⟩ := hrel
    clear HZ
    cases gk with
    | zero => exact absurd HK.out (by have := HLE.out; omega)
    | succ k1 =>
      by_cases hi : i < s1.toNat
      · have b : decide ((i : Int) < s1) = true := decide_eq_true (by have := HN.out; omega)
        have hlk := look63f HMd.out (i : Int)
        have HC1 := HC.out
        rw [show s1.toNat - i = (s1.toNat - (i + 1)) + 1 by omega, cat] at HC1
        by_cases hsz : acc.size + ((mget s2 (i : Int)).getD ⟨#[]⟩).size ≤ 9223372036854775807
        rotate_left
        · rw [if_neg hsz] at HC1
          cases HC1
        rw [if_pos hsz] at HC1
        have HC2 := Aside0.mk HC1
        obtain ⟨x, hx⟩ : ∃ x, x = (mget s2 (i : Int)).getD ⟨#[]⟩ := ⟨_, rfl⟩
        rw [← hx] at hlk HC2 hsz
        have hsz2 : ¬ (9223372036854775807 < (acc.size : Int) + (x.size : Int)) := by omega
        have HLT := Aside0.mk hi
        clear HC1 hx hi HC
        go_wp2
        go_roundg k1
        case measure => exact Nat.lt_succ_self _
        case rel => exact ⟨i + 1, acc ++ x, rfl, by congr 1; have := HLT.out; have := HN.out.2; first | omega | (unfold wrap64; omega), rfl, ⟨by have := HK.out; omega⟩, ⟨by have := HLT.out; omega⟩, HC2⟩
      · have b : decide ((i : Int) < s1) = false := decide_eq_false (by have := HN.out; omega)
        have HC1 := HC.out
        rw [show s1.toNat - i = 0 by omega, cat] at HC1
        simp only [Option.some.injEq] at HC1
        subst HC1
        clear hi HC
        go_wp2
        go_ret2
        exact ⟨rfl, HId.out, HBd.out, HKd.out⟩
/-! ### Same, of records without pending ones -/
def ref18_Same.f (a0_0 a0_1 a0_2 a0_3 : Int) (a0_4 : OV) (a1_0 a1_1 a1_2 a1_3 : Int) (a1_4 : OV) : Option Bool :=
  if a0_4.n = 0 ∧ a1_4.n = 0 then PS.consortref18_Same.f 5 a0_0 a0_1 a0_2 a0_3 [] a1_0 a1_1 a1_2 a1_3 [] else none
theorem ref18_Same.calls (a0_0 a0_1 a0_2 a0_3 : Int) (a0_4 : OV) (a1_0 a1_1 a1_2 a1_3 : Int) (a1_4 : OV) (r : Bool) (w : World) (h : ref18_Same.f a0_0 a0_1 a0_2 a0_3 a0_4 a1_0 a1_1 a1_2 a1_3 a1_4 = some r) :
    Calls Try.prog 17 #[.agg #[.int .u64 a0_0, .int .u64 a0_1, .int .i64 a0_2, .int .u64 a0_3, .slice a0_4.A a0_4.n a0_4.c], .agg #[.int .u64 a1_0, .int .u64 a1_1, .int .i64 a1_2, .int .u64 a1_3, .slice a1_4.A a1_4.n a1_4.c]] w fun e w' => e = .returned (.bool r) ∧ Below w.heap.size w w' := by
  unfold ref18_Same.f at h
  by_cases hn : a0_4.n = 0 ∧ a1_4.n = 0
  rotate_left
  · rw [if_neg hn] at h
    cases h
  rw [if_pos hn] at h
  have hC : ∀ A, Kd.C PS.k33 w A 0 [] := fun A => ⟨rfl, by omega, fun h => absurd h (by omega)⟩
  rw [hn.1, hn.2]
  exact PS.consortref18_Same.calls 5 a0_0 a0_1 a0_2 a0_3 a0_4.A a0_4.c [] a1_0 a1_1 a1_2 a1_3 a1_4.A a1_4.c [] r w (hC _) (Nat.zero_le _) (hC _) (Nat.zero_le _) h
/-! ### The load of a struct of many cells, in one step -/
theorem load_cells {P : Program} {W : World} {p : Addr} : ∀ (cs : List Value) (i : Nat) (acc : Array Value), (∀ j u, cs[j]? = some u → W.cell? (p.add (i + j)) = some u) → (loadCellsFrom p i cs.length acc).run P W = .ok (acc ++ cs.toArray) W
  | [], i, acc, _ => by
    simp [loadCellsFrom]
  | v :: r, i, acc, h => by
    have h0 := h 0 v rfl
    simp only [Nat.add_zero] at h0
    have ih := load_cells (P := P) r (i + 1) (acc.push v) (fun j u hj => by have := h (j + 1) u (by simpa using hj); rwa [show i + 1 + j = i + (j + 1) by omega])
    simp only [List.length_cons, loadCellsFrom]
    go_simp
theorem load_agg {P : Program} {W : World} {p : Addr} {t : TypeId} (cs : List Value) (hg : (isAgg t).run P W = .ok true W) (hs : (sizeOf t).run P W = .ok cs.length W) (h : ∀ j u, cs[j]? = some u → W.cell? (p.add j) = some u) :
    (Instr.loadAt t (.pointer (some p))).run P W = .ok (.agg cs.toArray) W := by
  have := load_cells (P := P) (W := W) (p := p) cs 0 #[] (fun j u hj => by rw [Nat.zero_add]; exact h j u hj)
  simp only [Instr.loadAt, Instr.sureAddr, loadVar, loadCells]
  go_simp
section
variable {P : Program} {ops : Array Oper} {o : Oper} {rest : List Oper} {a : Act} {Q : Exit → Act → World → Prop}
theorem load_event {W : World} (hgd : o.guard = none) (x : Operand) (t : TypeId) (ho : o.op = .load t x) {p : Addr} (hx : a.eval x = .pointer (some p)) {v : Value}
    (hv : (Instr.loadAt t (.pointer (some p))).run P W = .ok v W) (h : wpList P ops Q rest (a.put o.dst v) W) : wpList P ops Q (o :: rest) a W := by
  refine Kd.event_run hgd ?_ h
  simp only [execOp, ho, hx]
  generalize Instr.loadAt t (.pointer (some p)) = m at *
  go_simp
end
def v42 (x : S42) : List Value := [.int .i64 x.f0, .string x.f1, .int .u32 x.f2, .int .u64 x.f3, .bool x.f4, .bool x.f5, .int .u64 x.f6.f0.f0, .int .u64 x.f6.f0.f1.f0, .int .i64 x.f6.f0.f1.f1, .int .u64 x.f6.f0.f2, .slice x.f6.f1.A x.f6.f1.n x.f6.f1.c, .int .u64 x.f7.f0, .int .u64 x.f7.f1.f0, .int .i64 x.f7.f1.f1, .int .u64 x.f7.f2, .int .u64 x.f8, .int .i64 x.f9, .int .i64 x.f10]
theorem load42 {W : World} {A : Option Addr} {ad : Addr} {n : Nat} {xs : List S42} (h : Kd.C k42 W A n xs) (e1 : A = some ad) (i : Int) (h0 : 0 ≤ i) (h1 : i < n) :
    (Instr.loadAt 42 (.pointer (some (ad.add (i.toNat * 18))))).run Try.prog W = .ok (.agg (v42 (rd_T42 xs i)).toArray) W := by
  obtain ⟨ad', c, e, _, hK, hc0⟩ := Kd.C_get h z42 i h0 h1
  have hc : ∀ j u, c[j]? = some u → W.cell? (ad'.add (i.toNat * 18 + j)) = some u := hc0
  rw [e1] at e
  cases e
  obtain rfl := k42_open hK
  refine load_agg _ (by kernel_rfl) (by kernel_rfl) (fun j u hj => ?_)
  have := hc j u hj
  rwa [Go.Deep.add_add]
theorem load42_0 {W : World} {ad : Addr} {n : Nat} {xs : List S42} (h : Kd.C k42 W (some ad) n xs) (h1 : (0 : Int) < n) :
    (Instr.loadAt 42 (.pointer (some ad))).run Try.prog W = .ok (.agg (v42 (rd_T42 xs 0)).toArray) W := by
  have := load42 h rfl 0 (Int.le_refl _) h1
  rwa [show (0 : Int).toNat * 18 = 0 from rfl, Addr.add_zero'] at this
end Go.Proofs.Ytgpldjckohlkfaa.P
