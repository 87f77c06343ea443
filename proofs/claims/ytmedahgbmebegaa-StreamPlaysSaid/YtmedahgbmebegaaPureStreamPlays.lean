/- Whatever messages come, each is answered just as the document says. -/
import Derived.Test.YtmedahgbmebegaaStaStreamPlays
import Derived.Test.YtmedahgbmebegaaStreamLaw2
namespace Go.Proofs.Ytmedahgbmebegaa.Pure
open Go.RowKit Go.Proofs.Ytmedahgbmebegaa.P Go.Proofs.YtmedahgbmebegaaW.PrintWords Go.Proofs.YtmedahgbmebegaaW.PrintLast Go.Proofs.YtmedahgbmebegaaIMap
open Go.Proofs.YtmedahgbmebegaaOv
set_option linter.unusedVariables false
set_option linter.unusedSimpArgs false
variable [TheW]
set_option maxHeartbeats 400000
set_option maxRecDepth 10000

/-- The place of a held one, by its number. -/
theorem find_l0 (seq s0 c : Int) (held : List S37) (hh : held.length ≤ 1000) : ∀ (l : List (Int × S37)) k (i : Nat), held.drop i = l.map (·.2) → (∀ p ∈ l, p.2.f1 = p.1) → l.length < k →
    consortref10_find.l0 k seq i s0 c held = some (if (mget l seq).isSome then (i : Int) + midx l seq else -1)
  | _, 0, _, _, _, h => by omega
  | [], k + 1, i, hd, _, _ => by
    rw [consortref10_find.l0]
    have : held.length ≤ i := by simpa using hd
    rw [if_neg (by omega)]
    simp [mget]
  | p :: l, k + 1, i, hd, hkey, hk => by
    rw [consortref10_find.l0]
    have hlt : i < held.length := by
      rcases Nat.lt_or_ge i held.length with h | h
      · exact h
      · rw [List.drop_eq_nil_of_le h] at hd; simp at hd
    rw [List.drop_eq_getElem_cons hlt, List.map_cons] at hd
    injection hd with h1 h2
    rw [if_pos (by omega), if_pos (by omega), rd_is hlt, h1, hkey p List.mem_cons_self]
    have e : wrap64 ((i : Int) + 1) = ((i + 1 : Nat) : Int) := by rw [w64_ (by omega)]; omega
    by_cases hp : p.1 = seq
    · rw [if_pos hp]
      simp [mget, midx, hp]
    · rw [if_neg hp, e, find_l0 seq s0 c held hh l k (i + 1) h2 (fun q hq => hkey q (List.mem_cons_of_mem _ hq)) (by simp at hk; omega)]
      simp only [mget, midx, if_neg hp]
      split <;> simp <;> omega
theorem find_is (seq s0 c : Int) (l : List (Int × S37)) (k : Nat) (hl : l.length ≤ 1000) (hkey : ∀ p ∈ l, p.2.f1 = p.1) (hk : l.length < k) :
    consortref10_find.f k s0 c (l.map (·.2)) seq = some (if (mget l seq).isSome then (midx l seq : Int) else -1) := by
  unfold consortref10_find.f
  have := find_l0 seq s0 c (l.map (·.2)) (by simpa using hl) l k 0 rfl hkey hk
  simpa using this
theorem mget_at : ∀ (l : List (Int × S37)) (k : Int) (x : S37), mget l k = some x → ∃ h : midx l k < (l.map (·.2)).length, (l.map (·.2))[midx l k] = x
  | p :: l, k, x, h => by
    by_cases hp : p.1 = k
    · simp only [mget, if_pos hp, Option.some.injEq] at h
      simp [midx, hp, h]
    · simp only [mget, if_neg hp] at h
      obtain ⟨h1, h2⟩ := mget_at l k x h
      simp only [midx, if_neg hp, List.map_cons, List.length_cons, List.getElem_cons_succ]
      exact ⟨by omega, h2⟩
theorem mdel_cut : ∀ (l : List (Int × S37)) (k : Int) (x : S37), mget l k = some x → (mdel l k).map (·.2) = (l.map (·.2)).take (midx l k) ++ (l.map (·.2)).drop (midx l k + 1)
  | p :: l, k, x, h => by
    by_cases hp : p.1 = k
    · simp [midx, mdel, hp]
    · simp only [mget, if_neg hp] at h
      simp [midx, mdel, hp, mdel_cut l k x h]
theorem mem_mdel_of {k : Int} {p : Int × S37} : ∀ {l : List (Int × S37)}, p ∈ mdel l k → p ∈ l
  | q :: l, h => by
    by_cases hq : q.1 = k
    · simp only [mdel, if_pos hq] at h
      exact List.mem_cons_of_mem _ h
    · simp only [mdel, if_neg hq, List.mem_cons] at h
      rcases h with rfl | h
      · exact List.mem_cons_self
      · exact List.mem_cons_of_mem _ (mem_mdel_of h)

theorem sim (s0 : Int) : ∀ (d k : Nat) (c : Int) (l : List (Int × S37)) (out o : List S37) (c' : Int) (l' : List (Int × S37)), Go.Proofs.Ytmedahgbmebegaa.P.drain d c l out = some (o, c', l') → (∀ p ∈ l, p.2.f1 = p.1 ∧ 0 < p.1) → 0 ≤ c → c ≤ 4294967295 →
    out.length + l.length ≤ 1000 → d + l.length < k → consortref10_Take.l0 k out s0 c (l.map (·.2)) = some (s0, c', l'.map (·.2), o, 0)
  | 0, k, c, l, out, o, c', l', h, _, _, _, _, _ => by simp [Go.Proofs.Ytmedahgbmebegaa.P.drain] at h
  | d + 1, 0, c, l, out, o, c', l', h, _, _, _, _, hk => by omega
  | d + 1, k + 1, c, l, out, o, c', l', h, hkey, h0, h1, hl, hk => by
    rw [consortref10_Take.l0, find_is _ _ _ _ _ (by omega) (fun p hp => (hkey p hp).1) (by omega), Option.bind_some]
    rw [Go.Proofs.Ytmedahgbmebegaa.P.drain] at h
    cases hm : mget l ((c + 1) % 4294967296) with
    | none =>
      rw [hm] at h
      simp only [Option.some.injEq, Prod.mk.injEq] at h
      obtain ⟨rfl, rfl, rfl⟩ := h
      simp
    | some x =>
      rw [hm] at h
      simp only at h
      have hx := hkey _ (mget_mem hm)
      simp only at hx
      rw [if_neg (by omega), if_pos (by omega)] at h
      obtain ⟨g1, g2⟩ := mget_at _ _ _ hm
      have hlen := mdel_len hm
      simp only [List.length_map] at g1
      have e : wrap64 ((midx l ((c + 1) % 4294967296) : Int) + 1) = ((midx l ((c + 1) % 4294967296) + 1 : Nat) : Int) := by rw [w64_ (by omega)]; omega
      have hcut := mdel_cut _ _ _ hm
      generalize hmi : midx l ((c + 1) % 4294967296) = mi at *
      simp only [Option.isSome_some, if_true, rd_is (show mi < (l.map (·.2)).length by simpa using g1), g2, Option.bind_some, List.nil_append, e, Int.toNat_natCast, List.length_nil, List.length_map, List.length_take, List.length_drop, List.length_singleton]
      clear e g2
      rw [if_neg (by omega), if_pos (by omega), if_pos (by omega), if_pos (by omega), if_pos (by omega), if_pos (by omega), if_pos (by omega), if_pos (by omega), if_pos (by omega), ← hcut]
      exact sim s0 d k _ _ _ _ _ _ h (fun p hp => hkey p (mem_mdel_of hp)) (by omega) (by omega) (by simp only [List.length_append, List.length_singleton]; omega) (by omega)

theorem take_ref {s0 c : Int} {l : List (Int × S37)} (h : Inv s0 c l) (m : S37) (h0 : 0 ≤ m.f1) (h4 : m.f1 ≤ 4294967295) (k : Nat) (hk : 300 < k) :
    ∃ outs code c' l', tk s0 c l m = some (outs, code, s0, c', l') ∧ Inv s0 c' l' ∧ (∀ x ∈ outs, x = m ∨ ∃ p ∈ l, p.2 = x) ∧ (∀ p ∈ l', p.2 = m ∨ p ∈ l) ∧
      consortref10_Take.f k s0 c (l.map (·.2)) m.f0 m.f1 m.f2 m.f3 m.f4 m.f5 = some (s0, c', l'.map (·.2), outs, code) := by
  have hl := h.len
  have hs := h.hs
  have hc := h.hc
  have hkey : ∀ p ∈ l, p.2.f1 = p.1 := fun p hp => (h.key p hp).2.2.2
  obtain ⟨k, rfl⟩ : ∃ k', k = k' + 1 := ⟨k - 1, by omega⟩
  by_cases hyes : c < m.f1 ∧ mget l m.f1 = none ∧ m.f1 ≤ c + s0
  · obtain ⟨y1, y2, y3⟩ := hyes
    obtain ⟨outs, l', ht, hI, _, hout, hmem⟩ := take_ok h m y1 y2 y3 h4
    refine ⟨outs, 0, _, l', ht, hI, ?_, ?_, ?_⟩
    · intro x hx
      obtain ⟨i, hi⟩ := List.getElem?_of_mem hx
      rcases (hout i x hi).2 with h1 | h1
      · exact .inr ⟨_, h1, rfl⟩
      · exact .inl h1.2
    · intro p hp
      rcases ((hmem p).1 hp).1 with h1 | h1
      · exact .inr h1
      · exact .inl (by rw [h1])
    · unfold consortref10_Take.f
      rw [if_neg (by omega), if_neg (by omega), find_is _ _ _ _ _ (by omega) hkey (by omega), Option.bind_some, y2]
      rw [consortref10_Take.j0]
      have e1 : wrap64 m.f1 = m.f1 := w64_ (by omega)
      have e2 : wrap64 (wrap64 c + s0) = c + s0 := by rw [w64_ (x := c) (by omega), w64_ (by omega)]
      simp only [Option.isSome_none, Bool.false_eq_true, if_false, e1, e2, Option.bind_some, List.nil_append, List.length_nil, List.length_map, List.length_singleton]
      rw [if_neg (by simp), if_neg (by omega), if_pos (by omega), if_pos (by omega)]
      simp only [tk, stream_Take.f] at ht
      rw [if_pos ⟨hs, hc, h0, h4⟩, if_neg (by omega), if_neg (by omega), if_neg (by simp [y2]), if_neg (by omega), mset_new _ _ _ y2] at ht
      obtain ⟨z, hz, hzz⟩ := Option.bind_eq_some_iff.mp ht
      obtain ⟨z1, z2, z3⟩ := z
      simp only [Option.some.injEq, Prod.mk.injEq] at hzz
      obtain ⟨rfl, _, _, rfl, rfl⟩ := hzz
      have := sim s0 _ k c _ _ _ _ _ hz (fun p hp => by
        simp only [List.mem_append, List.mem_singleton] at hp
        rcases hp with hp | rfl
        · have := h.key p hp; exact ⟨this.2.2.2, by omega⟩
        · exact ⟨rfl, by simp only; omega⟩) hc.1 hc.2 (by simp; omega) (by simp; omega)
      rw [List.map_append] at this
      exact this
  · refine ⟨[], _, c, l, take_no h m h0 h4 hyes, h, by simp, fun p hp => .inr hp, ?_⟩
    unfold consortref10_Take.f
    by_cases z : m.f1 = 0
    · rw [if_pos z, if_pos z]
    rw [if_neg z, if_neg z]
    by_cases z1 : m.f1 ≤ c
    · rw [if_pos z1, if_pos (.inl z1), consortref10_Take.j0, if_pos rfl]
    rw [if_neg z1, find_is _ _ _ _ _ (by omega) hkey (by omega), Option.bind_some, consortref10_Take.j0]
    by_cases z2 : (mget l m.f1).isSome = true
    · have hcode : (if m.f1 ≤ c ∨ (mget l m.f1).isSome = true then (12 : Int) else 6) = 12 := if_pos (.inr z2)
      rw [if_pos z2, hcode, if_pos (by simp)]
    · have : mget l m.f1 = none := by simpa using z2
      have h5 : ¬ (m.f1 ≤ c + s0) := fun hh => hyes ⟨by omega, this, hh⟩
      have e1 : wrap64 m.f1 = m.f1 := w64_ (by omega)
      have e2 : wrap64 (wrap64 c + s0) = c + s0 := by rw [w64_ (x := c) (by omega), w64_ (by omega)]
      have hcode : (if m.f1 ≤ c ∨ (mget l m.f1).isSome = true then (12 : Int) else 6) = 6 := if_neg (by rintro (x | x); exact z1 x; exact z2 x)
      rw [if_neg z2, hcode, if_neg (by simp), e1, e2, if_pos (by omega)]

theorem all_l0 (o : List S37) (B : Nat) (ho : o.length ≤ 1000) (hB : ∀ x ∈ o, x.f4.l.length ≤ B) : ∀ d k (i : Nat), i + d = o.length → d + B + 2 < k → consortref03_All.l0 k o o i = some true
  | _, 0, _, _, h => by omega
  | 0, k + 1, i, hi, hk => by
    rw [consortref03_All.l0, if_neg (by omega)]
  | d + 1, k + 1, i, hi, hk => by
    have hlt : i < o.length := by omega
    have e : wrap64 ((i : Int) + 1) = ((i + 1 : Nat) : Int) := by rw [w64_ (by omega)]; omega
    obtain ⟨b, h1, h2⟩ := same_is o[i] o[i] k (by have := hB _ (List.getElem_mem hlt); omega)
    rw [consortref03_All.l0, if_pos (by omega), if_pos (by omega), if_pos (by omega), rd_is hlt, h1, h2 rfl, Option.bind_some, if_pos rfl, e]
    exact all_l0 o B ho hB d k (i + 1) (by omega) (by omega)

theorem plays_l0 (x1 : List S37) (x2 : Int) (hx2 : 0 ≤ x2 ∧ x2 ≤ 4294967295) (hlen : x1.length ≤ 301) (hw : ∀ x ∈ x1, wf37 x) (s0 : Int) (B : Nat) (hB : deps x1 + 1500 ≤ B) : ∀ d k (i : Nat) (c : Int) (l : List (Int × S37)), i + d = x1.length → d + B < k → Inv s0 c l → (∀ p ∈ l, p.2 ∈ x1) →
    consortlaw10_StreamPlays.l0 k x1 x2 i s0 c l s0 c (l.map (·.2)) = some true
  | _, 0, _, _, _, _, h, _, _ => by omega
  | 0, k + 1, i, c, l, hi, hk, hI, hin => by
    rw [consortlaw10_StreamPlays.l0, if_neg (by omega)]
  | d + 1, k + 1, i, c, l, hi, hk, hI, hin => by
    have hlt : i < x1.length := by omega
    have hm := List.getElem_mem hlt
    have e : wrap64 ((i : Int) + 1) = ((i + 1 : Nat) : Int) := by rw [w64_ (by omega)]; omega
    obtain ⟨outs, code, c', l', ht, hI', ho, hl', href⟩ := take_ref hI x1[i] (seq_in (hw _ hm)).1 (seq_in (hw _ hm)).2 k (by omega)
    simp only [tk] at ht
    have hout : ∀ x ∈ outs, x ∈ x1 := fun x hx => by
      rcases ho x hx with rfl | ⟨p, hp, rfl⟩
      · exact hm
      · exact hin p hp
    have hol : outs.length ≤ 1000 := by
      by_cases hyes : c < x1[i].f1 ∧ mget l x1[i].f1 = none ∧ x1[i].f1 ≤ c + s0
      · obtain ⟨outs2, l2, ht2, _, hs2, _⟩ := take_ok hI x1[i] hyes.1 hyes.2.1 hyes.2.2 (seq_in (hw _ hm)).2
        simp only [tk] at ht2
        rw [ht] at ht2
        simp only [Option.some.injEq, Prod.mk.injEq] at ht2
        obtain ⟨rfl, _⟩ := ht2
        have := hI.len
        omega
      · have ht2 := take_no hI x1[i] (seq_in (hw _ hm)).1 (seq_in (hw _ hm)).2 hyes
        simp only [tk] at ht2
        rw [ht] at ht2
        simp only [Option.some.injEq, Prod.mk.injEq] at ht2
        obtain ⟨rfl, _⟩ := ht2
        simp
    have hall : consortref03_All.f k outs outs = some true := by
      unfold consortref03_All.f
      rw [if_pos rfl]
      exact all_l0 outs (deps x1) hol (fun x hx => deps_le (hout x hx)) outs.length k 0 (by omega) (by
        have := hI.len
        have := hI'.len
        by_cases hyes : c < x1[i].f1 ∧ mget l x1[i].f1 = none ∧ x1[i].f1 ≤ c + s0
        · obtain ⟨outs2, l2, ht2, _, hs2, _⟩ := take_ok hI x1[i] hyes.1 hyes.2.1 hyes.2.2 (seq_in (hw _ hm)).2
          simp only [tk] at ht2
          rw [ht] at ht2
          simp only [Option.some.injEq, Prod.mk.injEq] at ht2
          obtain ⟨rfl, _⟩ := ht2
          omega
        · have ht2 := take_no hI x1[i] (seq_in (hw _ hm)).1 (seq_in (hw _ hm)).2 hyes
          simp only [tk] at ht2
          rw [ht] at ht2
          simp only [Option.some.injEq, Prod.mk.injEq] at ht2
          obtain ⟨rfl, _⟩ := ht2
          simp; omega)
    have hrec := plays_l0 x1 x2 hx2 hlen hw s0 B hB d k (i + 1) c' l' (by omega) (by omega) hI' (fun p hp => by
      rcases hl' p hp with h1 | h1
      · rw [h1]; exact hm
      · exact hin p h1)
    have hc' := hI'.hc
    have hll := hI'.len
    rw [consortlaw10_StreamPlays.l0, if_pos (by omega), if_pos (by omega), rd_is hlt, ht, Option.bind_some, href, Option.bind_some]
    by_cases hcx : c' ≥ x2
    · simp only [stream_Lacks.f, consortref10_Lacks.f, stream_Count.f, stream_Held.f, if_pos hcx, if_neg (show ¬ c' < x2 by omega), Option.bind_some, hall, if_true, List.length_map, e, if_pos (show l'.length ≤ 1000000 by omega)]
      simpa using hrec
    · simp only [stream_Lacks.f, consortref10_Lacks.f, stream_Count.f, stream_Held.f, if_neg hcx, if_pos (show c' < x2 by omega), Option.bind_some, hall, if_true, List.length_map, e, if_pos (show l'.length ≤ 1000000 by omega)]
      simpa using hrec

theorem StreamPlays : consortlaw10_StreamPlays.Pure := by
  intro x0 x1 x2 h0 h1 h2
  simp only [Lit.wf, Bool.and_eq_true, decide_eq_true_eq] at h0 h2
  refine ⟨deps x1 + 2000, ?_⟩
  unfold consortlaw10_StreamPlays.f
  obtain ⟨b, hb, hbl⟩ := few_is x1 (deps x1 + 2000) (by omega)
  rw [stream_awake_is, Option.bind_some, if_pos rfl, hb, Option.bind_some]
  cases b with
  | false => rfl
  | true =>
    rw [if_pos rfl]
    have hl := hbl rfl
    have hn : ∃ s, stream_New.f x0 = some (s, 0, []) ∧ consortref10_New.f x0 = some (s, 0, []) ∧ 1 ≤ s ∧ s ≤ 64 := by
      refine ⟨mx 1 (mn x0 64), rfl, ?_, ?_, ?_⟩
      · unfold consortref10_New.f mx mn
        split
        · rw [if_neg (by decide)]
          congr 2 <;> ((repeat' split) <;> omega)
        · split <;> (congr 2 <;> ((repeat' split) <;> omega))
      · unfold mx mn; (repeat' split) <;> omega
      · unfold mx mn; (repeat' split) <;> omega
    obtain ⟨s, e1, e2, s1, s2⟩ := hn
    rw [e1, Option.bind_some, e2, Option.bind_some]
    exact plays_l0 x1 x2 h2 hl h1.2.2 s (deps x1 + 1500) (Nat.le_refl _) x1.length (deps x1 + 2000) 0 0 [] (by omega) (by omega) (Inv.new s ⟨s1, s2⟩) (by simp)
end Go.Proofs.Ytmedahgbmebegaa.Pure
