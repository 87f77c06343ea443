/- Plain laws of the stream: no program in sight. -/
import Derived.Test.YtmedahgbmebegaaHandT
namespace Go.Proofs.Ytmedahgbmebegaa.P
open Go.Proofs.YtmedahgbmebegaaOv Go.RowKit Go.Proofs.YtmedahgbmebegaaW.PrintWords Go.Proofs.YtmedahgbmebegaaIMap
set_option linter.unusedVariables false
set_option linter.unusedSimpArgs false
set_option linter.unusedSectionVars false
variable [TheW]

section
variable {α : Type}
theorem mget_none {k : Int} : ∀ {l : List (Int × α)}, mget l k = none ↔ ∀ p ∈ l, p.1 ≠ k
  | [] => by simp [mget]
  | p :: l => by
    by_cases hk : p.1 = k
    · simp [mget, hk]
    · simp [mget, hk, mget_none (l := l)]
theorem mget_mem {k : Int} {u : α} : ∀ {l : List (Int × α)}, mget l k = some u → (k, u) ∈ l
  | [], h => by simp [mget] at h
  | p :: l, h => by
    by_cases hk : p.1 = k
    · simp only [mget, if_pos hk, Option.some.injEq] at h
      subst h; subst hk
      exact List.mem_cons_self
    · simp only [mget, if_neg hk] at h
      exact List.mem_cons_of_mem _ (mget_mem h)
theorem mdel_len {k : Int} {u : α} : ∀ {l : List (Int × α)}, mget l k = some u → (mdel l k).length + 1 = l.length
  | [], h => by simp [mget] at h
  | p :: l, h => by
    by_cases hk : p.1 = k
    · simp [mdel, hk]
    · simp only [mget, if_neg hk] at h
      have := mdel_len h
      simp only [mdel, if_neg hk, List.length_cons]
      omega
theorem mem_mdel {k : Int} : ∀ {l : List (Int × α)} {p : Int × α}, (l.map (·.1)).Nodup → (p ∈ mdel l k ↔ p ∈ l ∧ p.1 ≠ k)
  | [], p, _ => by simp [mdel]
  | q :: l, p, h => by
    simp only [List.map_cons, List.nodup_cons] at h
    by_cases hk : q.1 = k
    · simp only [mdel, if_pos hk, List.mem_cons]
      constructor
      · intro hp
        refine ⟨.inr hp, fun e => h.1 ?_⟩
        rw [hk, ← e]
        exact List.mem_map.2 ⟨p, hp, rfl⟩
      · rintro ⟨rfl | hp, hne⟩
        · exact absurd hk hne
        · exact hp
    · simp only [mdel, if_neg hk, List.mem_cons, mem_mdel h.2]
      constructor
      · rintro (rfl | ⟨hp, hne⟩)
        · exact ⟨.inl rfl, hk⟩
        · exact ⟨.inr hp, hne⟩
      · rintro ⟨rfl | hp, hne⟩
        · exact .inl rfl
        · exact .inr ⟨hp, hne⟩
theorem mdel_nodup {k : Int} : ∀ {l : List (Int × α)}, (l.map (·.1)).Nodup → ((mdel l k).map (·.1)).Nodup
  | [], _ => by simp [mdel]
  | q :: l, h => by
    have h' := h
    simp only [List.map_cons, List.nodup_cons] at h
    by_cases hk : q.1 = k
    · simpa only [mdel, if_pos hk] using h.2
    · simp only [mdel, if_neg hk, List.map_cons, List.nodup_cons]
      refine ⟨fun hm => h.1 ?_, mdel_nodup h.2⟩
      obtain ⟨p, hp, e⟩ := List.mem_map.1 hm
      exact List.mem_map.2 ⟨p, ((mem_mdel h.2).1 hp).1, e⟩
/-- Whole numbers, each but once, between two bounds: no more than these let in. -/
theorem nodup_len : ∀ (n : Nat) (a : Int) (l : List Int), l.Nodup → (∀ x ∈ l, a < x ∧ x ≤ a + n) → l.length ≤ n
  | 0, a, l, _, h => by
    cases l with
    | nil => simp
    | cons x l => have := h x List.mem_cons_self; omega
  | n + 1, a, l, hn, h => by
    have := nodup_len n a (l.erase (a + n + 1)) (hn.erase _) (fun x hx => by
      have h1 := (hn.mem_erase_iff).1 hx
      have := h x h1.2
      have := h1.1
      omega)
    have h2 : l.length ≤ (l.erase (a + n + 1)).length + 1 := by rw [List.length_erase]; split <;> omega
    omega
end

theorem drain_spec : ∀ (k : Nat) (c : Int) (l : List (Int × S37)) (out : List S37), l.length < k → 0 ≤ c → c ≤ 4294967295 → (l.map (·.1)).Nodup →
    (∀ p ∈ l, c < p.1 ∧ p.1 ≤ 4294967295 ∧ p.2.f1 = p.1) → out.length + l.length < 1954687338268 →
    ∃ outs l', drain k c l out = some (out ++ outs, c + outs.length, l') ∧ l.length = outs.length + l'.length ∧ (∀ (i : Nat) x, outs[i]? = some x → x.f1 = c + 1 + i ∧ (c + 1 + (i : Int), x) ∈ l) ∧
      (∀ p, p ∈ l' ↔ p ∈ l ∧ c + outs.length < p.1) ∧ (∀ p ∈ l', c + outs.length + 1 < p.1) ∧ (l'.map (·.1)).Nodup ∧ c + outs.length ≤ 4294967295
  | 0, c, l, out, h, _, _, _, _, _ => by omega
  | k + 1, c, l, out, hk, h0, h1, hn, hl, ho => by
    unfold drain
    cases hm : mget l ((c + 1) % 4294967296) with
    | none =>
      refine ⟨[], l, by simp, by simp, by simp, fun p => ⟨fun hp => ⟨hp, by have := hl p hp; simp; omega⟩, fun hp => hp.1⟩, fun p hp => ?_, hn, by simpa using h1⟩
      have h3 := hl p hp
      have h4 := mget_none.1 hm p hp
      simp only [List.length_nil]
      omega
    | some x =>
      have hx := hl _ (mget_mem hm)
      simp only at hx
      have e : (c + 1) % 4294967296 = c + 1 := by omega
      rw [e] at hm ⊢
      have hx := hl _ (mget_mem hm)
      simp only at hx
      simp only
      rw [if_neg (by omega), if_pos (by omega)]
      have hlen := mdel_len hm
      obtain ⟨outs, l', hd, hsum, hout, hmem, hb, hn', hc⟩ := drain_spec k (c + 1) (mdel l (c + 1)) (out ++ [x]) (by omega) (by omega) (by omega) (mdel_nodup hn)
        (fun p hp => by have := (mem_mdel hn).1 hp; have h2 := hl p this.1; omega) (by simp only [List.length_append, List.length_singleton]; omega)
      refine ⟨x :: outs, l', by rw [hd]; simp only [List.append_assoc, List.singleton_append, List.length_cons]; congr 3; omega, by simp only [List.length_cons]; omega, ?_, ?_, ?_, hn', by simp only [List.length_cons]; omega⟩
      · intro i y hi
        cases i with
        | zero =>
          simp only [List.getElem?_cons_zero, Option.some.injEq] at hi
          subst hi
          exact ⟨by simpa using hx.2.2, by simpa using mget_mem hm⟩
        | succ i =>
          simp only [List.getElem?_cons_succ] at hi
          obtain ⟨e1, e2⟩ := hout i y hi
          have e3 : c + 1 + ((i + 1 : Nat) : Int) = c + 1 + 1 + i := by omega
          rw [e3]
          exact ⟨e1, ((mem_mdel hn).1 e2).1⟩
      · intro p
        rw [hmem p, mem_mdel hn]
        simp only [List.length_cons]
        constructor
        · rintro ⟨⟨a, b⟩, d⟩
          exact ⟨a, by omega⟩
        · rintro ⟨a, b⟩
          exact ⟨⟨a, by omega⟩, by omega⟩
      · intro p hp
        have := hb p hp
        simp only [List.length_cons]
        omega
/-- What a stream always is. -/
structure Inv (s0 c : Int) (l : List (Int × S37)) : Prop where
  hs : 1 ≤ s0 ∧ s0 ≤ 64
  hc : 0 ≤ c ∧ c ≤ 4294967295
  nd : (l.map (·.1)).Nodup
  key : ∀ p ∈ l, c + 1 < p.1 ∧ p.1 ≤ c + s0 ∧ p.1 ≤ 4294967295 ∧ p.2.f1 = p.1
theorem Inv.len {s0 c : Int} {l : List (Int × S37)} (h : Inv s0 c l) : l.length ≤ 63 := by
  have := nodup_len 63 (c + 1) (l.map (·.1)) h.nd (fun x hx => by
    obtain ⟨p, hp, rfl⟩ := List.mem_map.1 hx
    have := h.key p hp
    have := h.hs
    omega)
  simpa using this
theorem Inv.new (x : Int) (h : 1 ≤ x ∧ x ≤ 64) : Inv x 0 [] := ⟨h, ⟨by omega, by omega⟩, by simp, by simp⟩
def tk (s0 c : Int) (l : List (Int × S37)) (m : S37) := stream_Take.f s0 c l m.f0 m.f1 m.f2 m.f3 m.f4 m.f5
theorem take_ok {s0 c : Int} {l : List (Int × S37)} (h : Inv s0 c l) (m : S37) (h1 : c < m.f1) (h2 : mget l m.f1 = none) (h3 : m.f1 ≤ c + s0) (h4 : m.f1 ≤ 4294967295) :
    ∃ outs l', tk s0 c l m = some (outs, 0, s0, c + outs.length, l') ∧ Inv s0 (c + outs.length) l' ∧ l.length + 1 = outs.length + l'.length ∧
      (∀ (i : Nat) x, outs[i]? = some x → x.f1 = c + 1 + i ∧ ((c + 1 + (i : Int), x) ∈ l ∨ c + 1 + (i : Int) = m.f1 ∧ x = m)) ∧
      (∀ p, p ∈ l' ↔ (p ∈ l ∨ p = (m.f1, m)) ∧ c + outs.length < p.1) := by
  have hn := mget_none.1 h2
  have hl := h.len
  obtain ⟨⟨s1, s2⟩, ⟨c1, c2⟩, nd, key⟩ := h
  obtain ⟨outs, l', hd, hsum, hout, hmem, hb, hn', hc⟩ := drain_spec (l.length + 2) c (l ++ [(m.f1, m)]) [] (by simp) c1 c2
    (by
      simp only [List.map_append, List.map_cons, List.map_nil]
      rw [List.nodup_append]
      refine ⟨nd, by simp, fun a ha b hb => ?_⟩
      obtain ⟨p, hp, rfl⟩ := List.mem_map.1 ha
      simp only [List.mem_singleton] at hb
      subst hb
      exact hn p hp)
    (fun p hp => by
      simp only [List.mem_append, List.mem_singleton] at hp
      rcases hp with hp | rfl
      · have := key p hp; omega
      · exact ⟨h1, h4, rfl⟩) (by simp; omega)
  refine ⟨outs, l', ?_, ⟨⟨s1, s2⟩, ⟨by omega, hc⟩, hn', fun p hp => ?_⟩, by simp at hsum; omega, ?_, ?_⟩
  · simp only [tk, stream_Take.f]
    rw [if_pos ⟨⟨s1, s2⟩, ⟨c1, c2⟩, by omega, h4⟩, if_neg (by omega), if_neg (by omega), if_neg (by simp [h2]), if_neg (by omega)]
    rw [show (⟨m.f0, m.f1, m.f2, m.f3, m.f4, m.f5⟩ : S37) = m from rfl, mset_new _ _ _ h2, hd]
    simp
  · have h5 := hb p hp
    have h6 := (hmem p).1 hp
    simp only [List.mem_append, List.mem_singleton] at h6
    rcases h6.1 with h7 | rfl
    · have := key p h7; refine ⟨h5, by omega, by omega, this.2.2.2⟩
    · exact ⟨h5, by simp only; omega, h4, rfl⟩
  · intro i x hi
    obtain ⟨e1, e2⟩ := hout i x hi
    refine ⟨e1, ?_⟩
    simp only [List.mem_append, List.mem_singleton, Prod.mk.injEq] at e2
    exact e2
  · intro p
    rw [hmem p]
    simp only [List.mem_append, List.mem_singleton]
theorem take_no {s0 c : Int} {l : List (Int × S37)} (h : Inv s0 c l) (m : S37) (h0 : 0 ≤ m.f1) (h4 : m.f1 ≤ 4294967295) (hno : ¬ (c < m.f1 ∧ mget l m.f1 = none ∧ m.f1 ≤ c + s0)) :
    tk s0 c l m = some ([], (if m.f1 = 0 then 1 else if m.f1 ≤ c ∨ (mget l m.f1).isSome = true then 12 else 6), s0, c, l) := by
  simp only [tk, stream_Take.f]
  rw [if_pos ⟨h.hs, h.hc, h0, h4⟩]
  by_cases z : m.f1 = 0
  · simp [z]
  rw [if_neg z, if_neg z]
  by_cases z1 : m.f1 ≤ c
  · simp [z1]
  rw [if_neg z1]
  by_cases z2 : (mget l m.f1).isSome = true
  · simp [z2]
  have : mget l m.f1 = none := by simpa using z2
  have h5 : ¬ (m.f1 ≤ c + s0) := fun hh => hno ⟨by omega, this, hh⟩
  rw [if_neg z2, if_pos (by omega), if_neg (by rintro (x | x); exact z1 x; exact z2 x)]
end Go.Proofs.Ytmedahgbmebegaa.P
