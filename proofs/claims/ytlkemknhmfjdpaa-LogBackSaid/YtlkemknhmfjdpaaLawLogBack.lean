/- The law consort/consortlaw19.LogBack: for every input it returns true, and its arguments read as before. No condition beyond the row's own. -/
import Derived.Test.YtlkemknhmfjdpaaRows
import Derived.Test.YtlkemknhmfjdpaaPureLogBack
import Derived.WalkKit
import Derived.ProofKit
import Derived.OpenShut
import Derived.ShutString
import Derived.ChangeOld
import Derived.Below
import Derived.SizedLaws
import Derived.KernelRfl
namespace Go.Proofs.Ytlkemknhmfjdpaa.logBack
open Go.ChangeShapes Go.WideShapes Go.ChangeAt Go.RowKit Go.Proofs.Ytlkemknhmfjdpaa.P Go.Proofs.YtlkemknhmfjdpaaW.PrintWords Go.Proofs.YtlkemknhmfjdpaaOpn
open Go.ChangeMaps (open_string shut_string)
set_option linter.unusedVariables false
set_option linter.unusedSimpArgs false
theorem own : ownKnob Try.prog.godebug = none := by kernel_rfl
theorem laidOut : laidOutB Try.prog = true := by kernel_rfl
set_option maxRecDepth 100000 in
set_option maxHeartbeats 1000000 in
theorem lifted (os : Os) (started : os.Started) (H : Type) (enc : TypeId × Value → H) :
    ReturnsInHanded {} Try.checked os 3 .any (Rows.logBackSpec.pre6 enc Try.prog Try.f3 Rows.logBackRow.domain false) (Rows.logBackSpec.post enc Try.prog Try.f3 false true false false) := by
  refine returnsInHanded_of_change_sized (C := Try.checked) own started (by kernel_rfl) Try.func3
    (ChangeSpec.witness6 (enc := enc) (C := Try.checked) false ⟨#[], #[.agg #[(.int .u64 0), (.int .u32 0), (.int .u64 0), (.int .u64 0), (.int .i64 0), (.int .u64 0), (.slice none 0 0)], .agg #[(.int .i64 0), (.string ⟨#[]⟩), (.int .u32 0), (.int .u64 0), (.bool false), (.bool false), (.int .u64 0), (.int .u64 0), (.int .i64 0), (.int .u64 0), (.slice none 0 0), (.int .u64 0), (.int .u64 0), (.int .i64 0), (.int .u64 0), (.int .u64 0), (.int .i64 0), (.int .i64 0)], .string ByteArray.empty], []⟩ 8 (by kernel_rfl) (by kernel_rfl) (by kernel_rfl) (by kernel_rfl)) ?_
  intro W base args ds gs before hval0 hW hcnd hsz0 _
  have hsz : (DataW.weightsEach Try.prog (Try.f3.params.toList ++ Rows.logBackSpec.plain.varTypes Try.prog) (ds ++ gs)).all (· ≤ reachBytes) = true := hsz0
  have hval : ∀ (j : Nat) t v, Try.f3.params[j]? = some t → args[j]? = some v → Value.okWide Try.prog W .any base t v := hval0
  have hW' := hW
  obtain ⟨p, q, hA0, hV, rfl, hfz, hnd⟩ := hW
  have hA : DataW.TrodAll enc Try.prog W 0 (fun _ => true) true Try.f3.params.toList args.toList ds p := hA0
  rw [Try.params3] at hA hval hsz
  obtain ⟨v0, vs0, d0, ds0, p0, q0, hargs, rfl, rfl, h0, r0⟩ := trodAll_cons hA
  obtain ⟨v1, vs1, d1, ds1, p1, q1, rfl, rfl, rfl, h1, r1⟩ := trodAll_cons r0
  obtain ⟨v2, vs2, d2, ds2, p2, q2, rfl, rfl, rfl, h2, r2⟩ := trodAll_cons r1
  obtain ⟨rfl, rfl, rfl⟩ := trodAll_nil r2
  obtain rfl : args = #[v0, v1, v2] := by cases args; simp_all
  obtain ⟨rfl, rfl⟩ := trodVars_none hV
  have k0 := h0
  have lt0 : ∀ x ∈ p0, x.block < W.heap.size := by obtain ⟨m, hm⟩ := k0; exact DataW.trod_lt m _ _ _ hm
  have wt0 : ∀ q_ ∈ d0.weights Try.prog 32, q_ ≤ reachBytes := fun q_ hq_ => of_decide_eq_true (List.all_eq_true.1 hsz q_ (DataW.weights_mem_each (j := 0) (t := 32) (d := d0) rfl rfl q_ hq_))
  obtain ⟨cs0, rfl, hs0⟩ := okWide_struct Try.underlying32 (hval 0 32 v0 rfl rfl)
  obtain ⟨fu0, hf0⟩ := h0
  obtain ⟨x0, K0, w0⟩ := (show Opn enc Try.prog W k32 32 wf32 from (opn32 enc W)).2 _ _ _ _ _ _ hf0 wt0
  obtain ⟨A0_6, c0_6, e0, hc0_6, hr0_6⟩ := k32_open K0
  obtain rfl : cs0 = #[.int .u64 x0.f0, .int .u32 x0.f1, .int .u64 x0.f2.f0.f0, .int .u64 x0.f2.f0.f1.f0, .int .i64 x0.f2.f0.f1.f1, .int .u64 x0.f2.f0.f2, .slice A0_6 x0.f2.f1.length c0_6] := by rw [← Array.toArray_toList (xs := cs0)]; exact congrArg List.toArray e0
  have k1 := h1
  have lt1 : ∀ x ∈ p1, x.block < W.heap.size := by obtain ⟨m, hm⟩ := k1; exact DataW.trod_lt m _ _ _ hm
  have wt1 : ∀ q_ ∈ d1.weights Try.prog 34, q_ ≤ reachBytes := fun q_ hq_ => of_decide_eq_true (List.all_eq_true.1 hsz q_ (DataW.weights_mem_each (j := 1) (t := 34) (d := d1) rfl rfl q_ hq_))
  obtain ⟨cs1, rfl, hs1⟩ := okWide_struct Try.underlying34 (hval 1 34 v1 rfl rfl)
  obtain ⟨fu1, hf1⟩ := h1
  obtain ⟨x1, K1, w1⟩ := (show Opn enc Try.prog W k34 34 wf34 from (opn34 enc W)).2 _ _ _ _ _ _ hf1 wt1
  obtain ⟨A1_10, c1_10, e1, hc1_10, hr1_10⟩ := k34_open K1
  obtain rfl : cs1 = #[.int .i64 x1.f0, .string x1.f1, .int .u32 x1.f2, .int .u64 x1.f3, .bool x1.f4, .bool x1.f5, .int .u64 x1.f6.f0.f0, .int .u64 x1.f6.f0.f1.f0, .int .i64 x1.f6.f0.f1.f1, .int .u64 x1.f6.f0.f2, .slice A1_10 x1.f6.f1.length c1_10, .int .u64 x1.f7.f0, .int .u64 x1.f7.f1.f0, .int .i64 x1.f7.f1.f1, .int .u64 x1.f7.f2, .int .u64 x1.f8, .int .i64 x1.f9, .int .i64 x1.f10] := by rw [← Array.toArray_toList (xs := cs1)]; exact congrArg List.toArray e1
  obtain ⟨x2, rfl, rfl, rfl, y2⟩ := open_string Try.underlying9 (hval 2 9 v2 rfl rfl) h2
  have w2 : x2.size ≤ 140737488351232 := by
    have z := sized_string hsz (j := 2) (t := 9) rfl rfl
    rw [Array.length_toList] at z
    exact z
  clear hA0 hval0 hsz0 hsz
  have h := Pure.LogBack x0 x1 x2 w0 w1 w2
  refine (P.consortlaw19_LogBack.calls x0.f0 x0.f1 x0.f2.f0.f0 x0.f2.f0.f1.f0 x0.f2.f0.f1.f1 x0.f2.f0.f2 _ _ x0.f2.f1 x1.f0 x1.f1 x1.f2 x1.f3 x1.f4 x1.f5 x1.f6.f0.f0 x1.f6.f0.f1.f0 x1.f6.f0.f1.f1 x1.f6.f0.f2 _ _ x1.f6.f1 x1.f7.f0 x1.f7.f1.f0 x1.f7.f1.f1 x1.f7.f2 x1.f8 x1.f9 x1.f10 x2 W hr0_6 hc0_6 hr1_10 hc1_10 h).mono fun e W' ⟨he, hd⟩ => ?_
  have bel : Below W.heap.size W W' := hd
  subst he
  exact ⟨_, rfl, _, _, _, [], _, [], hW', trodAll_mk1 (shut_bool Try.underlying4 _), (trodAll_cons_mk (Below.trod laidOut (by kernel_rfl) (of_decide_eq_true (by kernel_rfl)) k0 bel lt0) (trodAll_cons_mk (Below.trod laidOut (by kernel_rfl) (of_decide_eq_true (by kernel_rfl)) k1 bel lt1) (trodAll_cons_mk (shut_string Try.underlying9 y2) trodAll_mk0))), rfl, bel.frame _, fun h => by cases h⟩
theorem over : Rows.logBackRow.holds Try.pinned (OpenSpec.ofChange Rows.logBackSpec) :=
  OpenClaim.holds_of_wide 3 Try.f3 rfl rfl rfl rfl rfl rfl rfl ⟨rfl, rfl, rfl, rfl, rfl⟩ rfl rfl rfl rfl rfl (by kernel_rfl) Try.func3 (by kernel_rfl)
    (of_decide_eq_true (by kernel_rfl)) (by unfold Func.isWrapper; first | (rw [if_pos (by decide +kernel)]; kernel_rfl) | (rw [if_neg (by decide +kernel)]; exact ⟨rfl, rfl⟩))
    (fun os started H enc _ => lifted os started H enc)
theorem proved : Rows.LogBackSaid := over
#print axioms proved
end Go.Proofs.Ytlkemknhmfjdpaa.logBack
namespace Go.Proofs.Ytlkemknhmfjdpaa
/-- The row, under a short name, for the claim. -/
theorem logBack_holds : Rows.LogBackSaid := logBack.proved
end Go.Proofs.Ytlkemknhmfjdpaa
