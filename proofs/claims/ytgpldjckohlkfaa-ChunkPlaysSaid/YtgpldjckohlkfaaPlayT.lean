/- Both Takes, and what they come to. -/
import Derived.Test.YtgpldjckohlkfaaHandTr
import Derived.Test.YtgpldjckohlkfaaPlayL
namespace Go.Proofs.Ytgpldjckohlkfaa.P
open Go.Proofs.YtgpldjckohlkfaaOv Go.RowKit Go.Proofs.YtgpldjckohlkfaaW.PrintWords Go.Proofs.YtgpldjckohlkfaaW.PrintLast Go.Proofs.YtgpldjckohlkfaaW.PrintMore Go.Proofs.YtgpldjckohlkfaaIMap
set_option linter.unusedVariables false
set_option linter.unusedSimpArgs false

/-- What a Take comes to: its answer, the total, the list. -/
def tkl (a0 s1 : Int) (l : List S38) (X : S38) : Bool × Int × List S38 :=
  if chunk_Take.no a0 s1 (l.map Pure.pr) X.f0 X.f8 X.f9 X.f10 then (false, s1, l)
  else if (mget (l.map Pure.pr) X.f9).isSome = true then (false, s1, l)
  else (decide ((l.length : Int) + 1 = X.f10), X.f10, l ++ [X])
theorem tkl_chunk {a0 s1 : Int} {l : List S38} (X : S38) (hl : l.length ≤ 1000) : chunk_Take.f a0 s1 (l.map Pure.pr) X.f0 X.f1 X.f2 X.f3 X.f4 X.f5 X.f6.f0.f0 X.f6.f0.f1.f0 X.f6.f0.f1.f1 X.f6.f0.f2 X.f6.f1 X.f7.f0 X.f7.f1.f0 X.f7.f1.f1 X.f7.f2 X.f8 X.f9 X.f10 = some ((tkl a0 s1 l X).1, a0, (tkl a0 s1 l X).2.1, (tkl a0 s1 l X).2.2.map Pure.pr) := by
  unfold chunk_Take.f tkl
  rw [if_pos (by rw [List.length_map]; omega)]
  by_cases h1 : chunk_Take.no a0 s1 (l.map Pure.pr) X.f0 X.f8 X.f9 X.f10
  · rw [if_pos h1, if_pos h1]
  · rw [if_neg h1, if_neg h1]
    by_cases h2 : (mget (l.map Pure.pr) X.f9).isSome = true
    · rw [if_pos h2, if_pos h2]
    · rw [if_neg h2, if_neg h2, List.length_map, List.map_append]
      rfl
theorem no_not {a0 s1 : Int} {l : List S38} {X : S38} (h : ¬ chunk_Take.no a0 s1 (l.map Pure.pr) X.f0 X.f8 X.f9 X.f10) : X.f0 = 4 ∧ X.f8 = a0 ∧ 1 ≤ X.f10 ∧ X.f10 ≤ 16 ∧ 0 ≤ X.f9 ∧ X.f9 < X.f10 ∧ (l ≠ [] → X.f10 = s1) := by
  unfold chunk_Take.no at h
  rw [List.length_map] at h
  refine ⟨Classical.byContradiction fun e => h (.inl e), Classical.byContradiction fun e => h (.inr (.inl e)), ?_, ?_, ?_, ?_, fun hne => Classical.byContradiction fun e => h (.inr (.inr (.inr (.inr (.inr (.inr ⟨by have := List.length_pos_iff.2 hne; omega, e⟩))))))⟩
  · apply Classical.byContradiction; intro e; exact h (.inr (.inr (.inl (by omega))))
  · apply Classical.byContradiction; intro e; exact h (.inr (.inr (.inr (.inl (by omega)))))
  · apply Classical.byContradiction; intro e; exact h (.inr (.inr (.inr (.inr (.inl (by omega))))))
  · apply Classical.byContradiction; intro e; exact h (.inr (.inr (.inr (.inr (.inr (.inl (by omega)))))))
theorem tkl_rel {a0 s1 : Int} {l : List S38} {X : S38} (h : Pure.Rel s1 l) (hX : X.f1.size ≤ 140737488351232) : Pure.Rel (tkl a0 s1 l X).2.1 (tkl a0 s1 l X).2.2 := by
  unfold tkl
  by_cases h1 : chunk_Take.no a0 s1 (l.map Pure.pr) X.f0 X.f8 X.f9 X.f10
  · rw [if_pos h1]; exact h
  rw [if_neg h1]
  by_cases h2 : (mget (l.map Pure.pr) X.f9).isSome = true
  · rw [if_pos h2]; exact h
  rw [if_neg h2]
  obtain ⟨n0, n1, n2, n3, n4, n5, n6⟩ := no_not h1
  have h3 : ∀ x ∈ l, x.f9 ≠ X.f9 := fun x hx e => h2 (Pure.mget_some.2 ⟨x, hx, e⟩)
  refine ⟨fun _ => ⟨?_, n2, n3⟩, fun x hx => ?_, ?_⟩
  · by_cases h0 : l = []
    · subst h0; rfl
    · have hlen : 0 < l.length := List.length_pos_iff.2 h0
      have e1 := Pure.rd38 (l := l ++ [X]) (j := 0) (by simp)
      have e2 := Pure.rd38 (l := l) (j := 0) hlen
      have e3 : (l ++ [X])[0]'(by simp) = l[0] := List.getElem_append_left hlen
      have e4 : rd_T38 (l ++ [X]) 0 = rd_T38 l 0 := by
        show rd_T38 (l ++ [X]) ((0 : Nat) : Int) = rd_T38 l ((0 : Nat) : Int)
        rw [e1, e2, e3]
      show (rd_T38 (l ++ [X]) 0).f10 = X.f10
      rw [e4, (h.tot h0).1, n6 h0]
  · rcases List.mem_append.1 hx with hx | hx
    · have h0 : l ≠ [] := fun e => by rw [e] at hx; simp at hx
      have := h.key x hx
      have := n6 h0
      show 0 ≤ x.f9 ∧ x.f9 < X.f10 ∧ x.f1.size ≤ 140737488351232
      omega
    · simp at hx
      subst hx
      exact ⟨n4, n5, hX⟩
  · show ((l ++ [X]).map (·.f9)).Nodup
    rw [List.map_append, List.nodup_append]
    refine ⟨h.nd, by simp, fun a ha b hb => ?_⟩
    simp at hb
    subst hb
    obtain ⟨x, hx, rfl⟩ := List.mem_map.1 ha
    exact h3 x hx
theorem refTake_calls {a0 s1 : Int} {l : List S38} {X : S38} (h : Pure.Rel s1 l) (hX : X.f1.size ≤ 140737488351232) (A : Option Addr) (c : Nat) {base : Nat} {ok : Nat → Prop} (w : World) (hR : Kd.R k38 38 w base ok (.slice A l.length c) l) (hb : base ≤ w.heap.size) :
    Calls Try.prog 15 #[.agg #[.int .u64 a0, .slice A l.length c], .agg #[.int .i64 X.f0, .string X.f1, .int .u32 X.f2, .int .u64 X.f3, .bool X.f4, .bool X.f5, .int .u64 X.f6.f0.f0, .int .u64 X.f6.f0.f1.f0, .int .i64 X.f6.f0.f1.f1, .int .u64 X.f6.f0.f2, .slice X.f6.f1.A X.f6.f1.n X.f6.f1.c, .int .u64 X.f7.f0, .int .u64 X.f7.f1.f0, .int .i64 X.f7.f1.f1, .int .u64 X.f7.f2, .int .u64 X.f8, .int .i64 X.f9, .int .i64 X.f10]] w fun e w' =>
      ∃ A' c', e = .returned (.tuple #[.agg #[.int .u64 a0, .slice A' (tkl a0 s1 l X).2.2.length c'], .bool (tkl a0 s1 l X).1]) ∧ Kd.R k38 38 w' base (fun _ => True) (.slice A' (tkl a0 s1 l X).2.2.length c') (tkl a0 s1 l X).2.2 ∧ Below w.heap.size w w' := by
  have hC := (Kd.R_reads' hR).2.2
  have hcc := (Kd.R_reads' hR).2.1
  have hl := h.len
  have keep : ∀ w', Below w.heap.size w w' → Kd.R k38 38 w' base (fun _ => True) (.slice A l.length c) l := fun w' hb => Kd.R_mono (Kd.R_move (Kd.R_bound hR) (fun k hk => hb.block k hk.2.2.1)) (fun _ _ => trivial)
  have no : tkl a0 s1 l X = (false, s1, l) → (Calls Try.prog 15 #[.agg #[.int .u64 a0, .slice A l.length c], .agg #[.int .i64 X.f0, .string X.f1, .int .u32 X.f2, .int .u64 X.f3, .bool X.f4, .bool X.f5, .int .u64 X.f6.f0.f0, .int .u64 X.f6.f0.f1.f0, .int .i64 X.f6.f0.f1.f1, .int .u64 X.f6.f0.f2, .slice X.f6.f1.A X.f6.f1.n X.f6.f1.c, .int .u64 X.f7.f0, .int .u64 X.f7.f1.f0, .int .i64 X.f7.f1.f1, .int .u64 X.f7.f2, .int .u64 X.f8, .int .i64 X.f9, .int .i64 X.f10]] w fun e w' => e = .returned (.tuple #[.agg #[.int .u64 a0, .slice A l.length c], .bool false]) ∧ Below w.heap.size w w') → (Calls Try.prog 15 #[.agg #[.int .u64 a0, .slice A l.length c], .agg #[.int .i64 X.f0, .string X.f1, .int .u32 X.f2, .int .u64 X.f3, .bool X.f4, .bool X.f5, .int .u64 X.f6.f0.f0, .int .u64 X.f6.f0.f1.f0, .int .i64 X.f6.f0.f1.f1, .int .u64 X.f6.f0.f2, .slice X.f6.f1.A X.f6.f1.n X.f6.f1.c, .int .u64 X.f7.f0, .int .u64 X.f7.f1.f0, .int .i64 X.f7.f1.f1, .int .u64 X.f7.f2, .int .u64 X.f8, .int .i64 X.f9, .int .i64 X.f10]] w fun e w' => ∃ A' c', e = .returned (.tuple #[.agg #[.int .u64 a0, .slice A' (tkl a0 s1 l X).2.2.length c'], .bool (tkl a0 s1 l X).1]) ∧ Kd.R k38 38 w' base (fun _ => True) (.slice A' (tkl a0 s1 l X).2.2.length c') (tkl a0 s1 l X).2.2 ∧ Below w.heap.size w w') := fun e hc => by
    rw [e]
    exact hc.mono fun e w' hh => ⟨A, c, hh.1, keep w' hh.2, hh.2⟩
  by_cases h1 : chunk_Take.no a0 s1 (l.map Pure.pr) X.f0 X.f8 X.f9 X.f10
  · refine no (by unfold tkl; rw [if_pos h1]) ?_
    by_cases n0 : X.f0 ≠ 4
    · exact tr_no0 a0 A c l _ _ _ _ _ _ _ _ _ _ _ _ _ _ _ _ _ _ w (bne_iff_ne.mpr n0)
    have d0 : (X.f0 != 4) = false := by simpa using n0
    by_cases n1 : X.f8 ≠ a0
    · exact tr_no1 a0 A c l _ _ _ _ _ _ _ _ _ _ _ _ _ _ _ _ _ _ w d0 (bne_iff_ne.mpr n1)
    have d1 : (X.f8 != a0) = false := by simpa using n1
    by_cases n2 : X.f10 < 1
    · exact tr_no2 a0 A c l _ _ _ _ _ _ _ _ _ _ _ _ _ _ _ _ _ _ w d0 d1 (decide_eq_true n2)
    have d2 := decide_eq_false n2
    by_cases n3 : 16 < X.f10
    · exact tr_no3 a0 A c l _ _ _ _ _ _ _ _ _ _ _ _ _ _ _ _ _ _ w d0 d1 d2 (decide_eq_true n3)
    have d3 := decide_eq_false n3
    by_cases n4 : X.f9 < 0
    · exact tr_no4 a0 A c l _ _ _ _ _ _ _ _ _ _ _ _ _ _ _ _ _ _ w d0 d1 d2 d3 (decide_eq_true n4)
    have d4 := decide_eq_false n4
    by_cases n5 : X.f10 ≤ X.f9
    · exact tr_no5 a0 A c l _ _ _ _ _ _ _ _ _ _ _ _ _ _ _ _ _ _ w d0 d1 d2 d3 d4 (decide_eq_true n5)
    have d5 := decide_eq_false n5
    have n6 : 0 < l.length ∧ X.f10 ≠ s1 := by
      unfold chunk_Take.no at h1
      rw [List.length_map] at h1
      rcases h1 with h | h | h | h | h | h | h
      · exact absurd h n0
      · exact absurd h n1
      · exact absurd h n2
      · exact absurd h n3
      · exact absurd h n4
      · exact absurd h n5
      · exact ⟨by omega, h.2⟩
    exact tr_no6 a0 A c l _ _ _ _ _ _ _ _ _ _ _ _ _ _ _ _ _ _ w d0 d1 d2 d3 d4 d5 hC n6.1 (by rw [(h.tot (List.length_pos_iff.1 n6.1)).1]; exact fun e => n6.2 e.symm)
  obtain ⟨n0, n1, n2, n3, n4, n5, n6⟩ := no_not h1
  have d0 : (X.f0 != 4) = false := by rw [n0]; rfl
  have d1 : (X.f8 != a0) = false := by rw [n1]; exact bne_self_eq_false _
  have d2 : decide (X.f10 < 1) = false := decide_eq_false (by omega)
  have d3 : decide (16 < X.f10) = false := decide_eq_false (by omega)
  have d4 : decide (X.f9 < 0) = false := decide_eq_false (by omega)
  have d5 : decide (X.f10 ≤ X.f9) = false := decide_eq_false (by omega)
  have hfd := Pure.find_is 100 a0 X.f9 l (by omega) (by omega)
  by_cases h2 : (mget (l.map Pure.pr) X.f9).isSome = true
  · obtain ⟨d, hm⟩ := Option.isSome_iff_exists.1 h2
    have h0 : l ≠ [] := fun e => by rw [e] at hm; simp [mget] at hm
    have hf : Pure.fnd l X.f9 = (d, true) := by unfold Pure.fnd; rw [hm]
    rw [hf] at hfd
    exact no (by unfold tkl; rw [if_neg h1, if_pos h2]) (tr_found a0 A c l _ _ _ _ _ _ _ _ _ _ _ _ _ _ _ _ _ _ w d0 d1 d2 d3 d4 d5 hC hcc (List.length_pos_iff.2 h0) (by rw [(h.tot h0).1, n6 h0]) 100 d hfd)
  · have hm : mget (l.map Pure.pr) X.f9 = none := by simpa using h2
    have hf : Pure.fnd l X.f9 = (⟨#[]⟩, false) := by unfold Pure.fnd; rw [hm]
    rw [hf] at hfd
    have ht : tkl a0 s1 l X = (decide ((l.length : Int) + 1 = X.f10), X.f10, l ++ [X]) := by unfold tkl; rw [if_neg h1, if_neg h2]
    have hrel := tkl_rel (a0 := a0) (X := X) h hX
    rw [ht] at hrel
    obtain ⟨z, b, _, hw, hbb⟩ := Pure.whole_same (l := l ++ [X]) hrel a0 100 (by omega)
    have hb2 : b = decide ((l.length : Int) + 1 = X.f10) := by
      rw [hbb]
      exact decide_eq_decide.mpr ⟨fun hh => by have := hh.2; simp at this; exact this, fun hh => ⟨by simp, by simp; exact hh⟩⟩
    rw [ht, ← hb2]
    have fin : ∀ {e w'}, (∃ A' c', e = Ending.returned (.tuple #[.agg #[.int .u64 a0, .slice A' (l ++ [X]).length c'], .bool b]) ∧ Kd.R k38 38 w' w.heap.size (fun _ => True) (.slice A' (l ++ [X]).length c') (l ++ [X]) ∧ Below w.heap.size w w') → (∃ A' c', e = Ending.returned (.tuple #[.agg #[.int .u64 a0, .slice A' (l ++ [X]).length c'], .bool b]) ∧ Kd.R k38 38 w' base (fun _ => True) (.slice A' (l ++ [X]).length c') (l ++ [X]) ∧ Below w.heap.size w w') := by
      rintro e w' ⟨A', c', h1, h2, h3⟩
      exact ⟨A', c', h1, Kd.R_lower h2 hb, h3⟩
    by_cases h0 : l = []
    · subst h0
      exact (tr_new0 a0 A c _ _ _ _ _ _ _ _ _ _ _ _ _ _ _ _ _ _ w d0 d1 d2 d3 d4 d5 ([] ++ [X]) rfl hC hcc 100 _ z b hfd hw).mono fun e w' hh => fin hh
    · exact (tr_new1 a0 A c l _ _ _ _ _ _ _ _ _ _ _ _ _ _ _ _ _ _ w d0 d1 d2 d3 d4 d5 (l ++ [X]) rfl hC hcc (by omega) (List.length_pos_iff.2 h0) (by rw [(h.tot h0).1, n6 h0]) 100 _ z b hfd hw).mono fun e w' hh => fin hh
end Go.Proofs.Ytgpldjckohlkfaa.P
