/- The law consort/consortlaw23.ChunkBack: for every input it returns true, and its arguments read as before. No condition beyond the row's own. -/
import Derived.Test.YtgpldjckohlkfaaRows
import Derived.Test.YtgpldjckohlkfaaPureChunkBack
import Derived.WalkKit
import Derived.ProofKit
import Derived.OpenShut
import Derived.ShutString
import Derived.ChangeOld
import Derived.Below
import Derived.SizedLaws
import Derived.KernelRfl
namespace Go.Proofs.Ytgpldjckohlkfaa.chunkBack
open Go.ChangeShapes Go.WideShapes Go.ChangeAt Go.RowKit Go.Proofs.Ytgpldjckohlkfaa.P Go.Proofs.YtgpldjckohlkfaaW.PrintWords Go.Proofs.YtgpldjckohlkfaaOpn Go.Proofs.YtgpldjckohlkfaaOv
open Go.ChangeMaps (open_string shut_string)
set_option linter.unusedVariables false
set_option linter.unusedSimpArgs false
theorem own : ownKnob Try.prog.godebug = none := by kernel_rfl
theorem laidOut : laidOutB Try.prog = true := by kernel_rfl
set_option maxRecDepth 100000 in
set_option maxHeartbeats 1000000 in
theorem lifted (os : Os) (started : os.Started) (H : Type) (enc : TypeId × Value → H) :
    ReturnsInHanded {} Try.checked os 4 .any (Rows.chunkBackSpec.pre6 enc Try.prog Try.f4 Rows.chunkBackRow.domain false) (Rows.chunkBackSpec.post enc Try.prog Try.f4 false true false false) := by
  refine returnsInHanded_of_change_sized (C := Try.checked) own started (by kernel_rfl) Try.func4
    (ChangeSpec.witness6 (enc := enc) (C := Try.checked) false ⟨#[], #[.int .u64 0, .string ByteArray.empty, .slice none 0 0, .agg #[(.int .i64 0), (.string ⟨#[]⟩), (.int .u32 0), (.int .u64 0), (.bool false), (.bool false), (.int .u64 0), (.int .u64 0), (.int .i64 0), (.int .u64 0), (.slice none 0 0), (.int .u64 0), (.int .u64 0), (.int .i64 0), (.int .u64 0), (.int .u64 0), (.int .i64 0), (.int .i64 0)]], []⟩ 8 (by kernel_rfl) (by kernel_rfl) (by kernel_rfl) (by kernel_rfl)) ?_
  intro W base args ds gs before hval0 hW hcnd hsz0 _
  have hsz : (DataW.weightsEach Try.prog (Try.f4.params.toList ++ Rows.chunkBackSpec.plain.varTypes Try.prog) (ds ++ gs)).all (· ≤ reachBytes) = true := hsz0
  have hval : ∀ (j : Nat) t v, Try.f4.params[j]? = some t → args[j]? = some v → Value.okWide Try.prog W .any base t v := hval0
  have hW' := hW
  obtain ⟨p, q, hA0, hV, rfl, hfz, hnd⟩ := hW
  have hA : DataW.TrodAll enc Try.prog W 0 (fun _ => true) true Try.f4.params.toList args.toList ds p := hA0
  rw [Try.params4] at hA hval hsz
  obtain ⟨v0, vs0, d0, ds0, p0, q0, hargs, rfl, rfl, h0, r0⟩ := trodAll_cons hA
  obtain ⟨v1, vs1, d1, ds1, p1, q1, rfl, rfl, rfl, h1, r1⟩ := trodAll_cons r0
  obtain ⟨v2, vs2, d2, ds2, p2, q2, rfl, rfl, rfl, h2, r2⟩ := trodAll_cons r1
  obtain ⟨v3, vs3, d3, ds3, p3, q3, rfl, rfl, rfl, h3, r3⟩ := trodAll_cons r2
  obtain ⟨rfl, rfl, rfl⟩ := trodAll_nil r3
  obtain rfl : args = #[v0, v1, v2, v3] := by cases args; simp_all
  obtain ⟨rfl, rfl⟩ := trodVars_none hV
  obtain ⟨x0, rfl, rfl, rfl, w0⟩ := open_int Try.underlying22 (hval 0 22 v0 rfl rfl) h0
  obtain ⟨x1, rfl, rfl, rfl, y1⟩ := open_string Try.underlying9 (hval 1 9 v1 rfl rfl) h1
  have w1 : x1.size ≤ 140737488351232 := by
    have z := sized_string hsz (j := 1) (t := 9) rfl rfl
    rw [Array.length_toList] at z
    exact z
  have k2 := h2
  have lt2 : ∀ x ∈ p2, x.block < W.heap.size := by obtain ⟨m, hm⟩ := k2; exact DataW.trod_lt m _ _ _ hm
  have wt2 : ∀ q_ ∈ d2.weights Try.prog 44, q_ ≤ reachBytes := fun q_ hq_ => of_decide_eq_true (List.all_eq_true.1 hsz q_ (DataW.weights_mem_each (j := 2) (t := 44) (d := d2) rfl rfl q_ hq_))
  obtain ⟨a2, len2, cap2, rfl⟩ := okWide_slice Try.underlying44 (hval 2 44 v2 rfl rfl)
  obtain ⟨fu2, hf2⟩ := h2
  obtain ⟨x2, ⟨A2, c2, e2, hc2, hr2⟩, w2⟩ := (show Opn enc Try.prog W (Kd.slice 48 (Kd.int .u16)) 44 (fun l : List Int => l.length * 2 ≤ 140737488351232 ∧ l.length ≤ maxLen ∧ ∀ a ∈ l, (fun a : Int => (Lit.int .u16 a).wf = true) a) from (opn_slice Try.underlying44 (by kernel_rfl) (by kernel_rfl) (opn_int Try.underlying48 (by kernel_rfl)))).2 _ _ _ _ _ _ hf2 wt2
  simp only [Value.cells] at e2
  obtain ⟨rfl, rfl, rfl⟩ : a2 = A2 ∧ len2 = x2.length ∧ cap2 = c2 := by simpa using e2
  have k3 := h3
  have lt3 : ∀ x ∈ p3, x.block < W.heap.size := by obtain ⟨m, hm⟩ := k3; exact DataW.trod_lt m _ _ _ hm
  have wt3 : ∀ q_ ∈ d3.weights Try.prog 42, q_ ≤ reachBytes := fun q_ hq_ => of_decide_eq_true (List.all_eq_true.1 hsz q_ (DataW.weights_mem_each (j := 3) (t := 42) (d := d3) rfl rfl q_ hq_))
  obtain ⟨cs3, rfl, hs3⟩ := okWide_struct Try.underlying42 (hval 3 42 v3 rfl rfl)
  obtain ⟨fu3, hf3⟩ := h3
  obtain ⟨x3, K3, w3⟩ := (show Opn enc Try.prog W k42 42 wf42 from (opn42 enc W)).2 _ _ _ _ _ _ hf3 wt3
  obtain e3 := k42_open K3
  obtain rfl : cs3 = #[.int .i64 x3.f0, .string x3.f1, .int .u32 x3.f2, .int .u64 x3.f3, .bool x3.f4, .bool x3.f5, .int .u64 x3.f6.f0.f0, .int .u64 x3.f6.f0.f1.f0, .int .i64 x3.f6.f0.f1.f1, .int .u64 x3.f6.f0.f2, .slice x3.f6.f1.A x3.f6.f1.n x3.f6.f1.c, .int .u64 x3.f7.f0, .int .u64 x3.f7.f1.f0, .int .i64 x3.f7.f1.f1, .int .u64 x3.f7.f2, .int .u64 x3.f8, .int .i64 x3.f9, .int .i64 x3.f10] := by rw [← Array.toArray_toList (xs := cs3)]; exact congrArg List.toArray e3
  clear hA0 hval0 hsz0 hsz
  have h := Pure.ChunkBack x0 x1 x2 x3 w0 w1 w2 w3
  refine (P.consortlaw23_ChunkBack.calls x0 x1 _ _ x2 x3.f0 x3.f1 x3.f2 x3.f3 x3.f4 x3.f5 x3.f6.f0.f0 x3.f6.f0.f1.f0 x3.f6.f0.f1.f1 x3.f6.f0.f2 x3.f6.f1 x3.f7.f0 x3.f7.f1.f0 x3.f7.f1.f1 x3.f7.f2 x3.f8 x3.f9 x3.f10 W hr2 hc2 h).mono fun e W' ⟨he, hd⟩ => ?_
  have bel : Below W.heap.size W W' := hd
  subst he
  exact ⟨_, rfl, _, _, _, [], _, [], hW', trodAll_mk1 (shut_bool Try.underlying4 _), (trodAll_cons_mk (shut_int Try.underlying22 w0) (trodAll_cons_mk (shut_string Try.underlying9 y1) (trodAll_cons_mk (Below.trod laidOut (by kernel_rfl) (of_decide_eq_true (by kernel_rfl)) k2 bel lt2) (trodAll_cons_mk (Below.trod laidOut (by kernel_rfl) (of_decide_eq_true (by kernel_rfl)) k3 bel lt3) trodAll_mk0)))), rfl, bel.frame _, fun h => by cases h⟩
theorem over : Rows.chunkBackRow.holds Try.pinned (OpenSpec.ofChange Rows.chunkBackSpec) :=
  OpenClaim.holds_of_wide 4 Try.f4 rfl rfl rfl rfl rfl rfl rfl ⟨rfl, rfl, rfl, rfl, rfl⟩ rfl rfl rfl rfl rfl (by kernel_rfl) Try.func4 (by kernel_rfl)
    (of_decide_eq_true (by kernel_rfl)) (by unfold Func.isWrapper; first | (rw [if_pos (by decide +kernel)]; kernel_rfl) | (rw [if_neg (by decide +kernel)]; exact ⟨rfl, rfl⟩))
    (fun os started H enc _ => lifted os started H enc)
theorem proved : Rows.ChunkBackSaid := over
#print axioms proved
end Go.Proofs.Ytgpldjckohlkfaa.chunkBack
namespace Go.Proofs.Ytgpldjckohlkfaa
/-- The row, under a short name, for the claim. -/
theorem chunkBack_holds : Rows.ChunkBackSaid := chunkBack.proved
end Go.Proofs.Ytgpldjckohlkfaa
