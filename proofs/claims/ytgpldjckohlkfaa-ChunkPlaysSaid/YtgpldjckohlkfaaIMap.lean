/- Maps with keys of an integer kind, as lists of pairs: what a look-up, a store, a delete and len come to. -/
import Derived.MapKept
import Derived.Below
import Derived.Maps.Own
import Derived.Maps.OwnOps
import Derived.Maps.OwnSet
import Derived.WalkKit
import Derived.Test.YtgpldjckohlkfaaWMore
namespace Go.Proofs.YtgpldjckohlkfaaIMap
open Go.RowKit Go.MapKept Go.Proofs.YtgpldjckohlkfaaW.PrintWords
open Go.ChangeMaps (setBlock)
set_option linter.unusedVariables false

def mget {α : Type} : List (Int × α) → Int → Option α
  | [], _ => none
  | p :: l, k => if p.1 = k then some p.2 else mget l k
def mset {α : Type} : List (Int × α) → Int → α → List (Int × α)
  | [], k, v => [(k, v)]
  | p :: l, k, v => if p.1 = k then (k, v) :: l else p :: mset l k v
def mdel {α : Type} : List (Int × α) → Int → List (Int × α)
  | [], _ => []
  | p :: l, k => if p.1 = k then l else p :: mdel l k
def midx {α : Type} : List (Int × α) → Int → Nat
  | [], _ => 0
  | p :: l, k => if p.1 = k then 0 else midx l k + 1
section
variable {α : Type} {enc : α → Value} {q : IntKind}
/-- Some entries are the pairs of a list. -/
def Ents (q : IntKind) (enc : α → Value) (es : List MapEntry) (l : List (Int × α)) : Prop := es.map (fun e => (e.key, e.val)) = l.map (fun p => (Value.int q p.1, enc p.2))
theorem Ents.length {es : List MapEntry} {l : List (Int × α)} (h : Ents q enc es l) : es.length = l.length := by
  have := congrArg List.length h
  simpa using this
theorem ents_find : ∀ (es : List MapEntry) (l : List (Int × α)) (k : Int) (i : Nat), Ents q enc es l →
    Instr.findNow (.int q) (.int q k) es i = some ((mget l k).map fun v => (i + midx l k, enc v))
  | [], [], k, i, _ => rfl
  | [], _ :: _, _, _, h => by simp [Ents] at h
  | _ :: _, [], _, _, h => by simp [Ents] at h
  | e :: es, p :: l, k, i, h => by
    simp only [Ents, List.map_cons, List.cons.injEq, Prod.mk.injEq] at h
    obtain ⟨⟨h1, h2⟩, h3⟩ := h
    have ih := ents_find es l k (i + 1) h3
    unfold Instr.findNow
    rw [h1]
    simp only [Instr.sameNow, if_true]
    by_cases hk : p.1 = k
    · subst hk
      simp [mget, midx, h2]
    · have hk2 : (k == p.1) = false := by rw [beq_eq_false_iff_ne]; exact fun e => hk e.symm
      rw [hk2]
      simp only [mget, midx, if_neg hk, ih]
      congr 1
      cases mget l k with
      | none => rfl
      | some v => simp; omega
theorem ents_set : ∀ (es : List MapEntry) (l : List (Int × α)) (k : Int) (v : α) (u : α), Ents q enc es l → mget l k = some u →
    Ents q enc (es.modify (midx l k) fun e => { e with key := .int q k, val := enc v }) (mset l k v)
  | [], [], k, v, u, _, hg => by simp [mget] at hg
  | [], _ :: _, _, _, _, h, _ => by simp [Ents] at h
  | _ :: _, [], _, _, _, h, _ => by simp [Ents] at h
  | e :: es, p :: l, k, v, u, h, hg => by
    simp only [Ents, List.map_cons, List.cons.injEq, Prod.mk.injEq] at h
    obtain ⟨⟨h1, h2⟩, h3⟩ := h
    by_cases hk : p.1 = k
    · simp only [midx, mset, if_pos hk, List.modify_zero_cons, Ents, List.map_cons]
      rw [h3]
    · simp only [mget, if_neg hk] at hg
      have ih := ents_set es l k v u h3 hg
      simp only [midx, mset, if_neg hk, List.modify_succ_cons, Ents, List.map_cons]
      rw [h1, h2, ih]
theorem ents_del : ∀ (es : List MapEntry) (l : List (Int × α)) (k : Int) (u : α), Ents q enc es l → mget l k = some u → Ents q enc (es.eraseIdx (midx l k)) (mdel l k)
  | [], [], k, u, _, hg => by simp [mget] at hg
  | [], _ :: _, _, _, h, _ => by simp [Ents] at h
  | _ :: _, [], _, _, h, _ => by simp [Ents] at h
  | e :: es, p :: l, k, u, h, hg => by
    simp only [Ents, List.map_cons, List.cons.injEq, Prod.mk.injEq] at h
    obtain ⟨⟨h1, h2⟩, h3⟩ := h
    by_cases hk : p.1 = k
    · simp only [midx, mdel, if_pos hk, List.eraseIdx_cons_zero]
      exact h3
    · simp only [mget, if_neg hk] at hg
      have ih := ents_del es l k u h3 hg
      simp only [midx, mdel, if_neg hk, List.eraseIdx_cons_succ, Ents, List.map_cons]
      rw [h1, h2, ih]
theorem mget_lt : ∀ (l : List (Int × α)) (k : Int) (u : α), mget l k = some u → midx l k < l.length
  | [], k, u, h => by simp [mget] at h
  | p :: l, k, u, h => by
    by_cases hk : p.1 = k
    · simp [midx, hk]
    · simp only [mget, if_neg hk] at h
      have := mget_lt l k u h
      simp [midx, hk]
      exact this
theorem mset_new : ∀ (l : List (Int × α)) (k : Int) (v : α), mget l k = none → mset l k v = l ++ [(k, v)]
  | [], _, _, _ => rfl
  | p :: l, k, v, h => by
    by_cases hk : p.1 = k
    · simp [mget, hk] at h
    · simp only [mget, if_neg hk] at h
      simp only [mset, if_neg hk, mset_new l k v h, List.cons_append]
theorem mdel_none : ∀ (l : List (Int × α)) (k : Int), mget l k = none → mdel l k = l
  | [], _, _ => rfl
  | p :: l, k, h => by
    by_cases hk : p.1 = k
    · simp [mget, hk] at h
    · simp only [mget, if_neg hk] at h
      simp only [mdel, if_neg hk, mdel_none l k h]

/-- Block b is a map that holds the pairs of l. -/
def MapIs (w : World) (b : Nat) (q : IntKind) (enc : α → Value) (l : List (Int × α)) : Prop := ∃ es clock, w.heap[b]? = some (.map es clock) ∧ Ents q enc es.toList l
variable {w w1 : World} {b : Nat} {l : List (Int × α)} {P : Program} {t kt et : TypeId}
theorem MapIs.lt (h : MapIs w b q enc l) : b < w.heap.size := by
  obtain ⟨es, clock, hb, _⟩ := h
  exact (Array.getElem?_eq_some_iff.1 hb).1
theorem MapIs.move (h : MapIs w b q enc l) (hm : w1.heap[b]? = w.heap[b]?) : MapIs w1 b q enc l := by
  obtain ⟨es, clock, hb, he⟩ := h
  exact ⟨es, clock, hm.trans hb, he⟩
theorem MapIs.below (h : MapIs w b q enc l) (hb : Below w.heap.size w w1) : MapIs w1 b q enc l := h.move (hb.block b h.lt)
theorem MapIs.alloc (h : MapIs w b q enc l) (o : Obj) : MapIs (w.alloc o) b q enc l := h.below (below_alloc (Below.refl _ _) o)
theorem MapIs.drew (h : MapIs w b q enc l) : MapIs w.drew b q enc l := h
theorem MapIs.drewN (h : MapIs w b q enc l) (n : Nat) : MapIs (w.drewN n) b q enc l := h
theorem MapIs.made (w : World) (q : IntKind) (enc : α → Value) : MapIs (w.alloc (.map #[] 0)) w.heap.size q enc [] := ⟨#[], 0, (MapKept.heap_alloc w _).1, rfl⟩
theorem MapIs.ne_cells (h : MapIs w b q enc l) {g : Nat} {cs : Array Value} {ty : TypeId} {fr : Nat × Nat} (hg : w.heap[g]? = some (.cells cs ty fr)) : b ≠ g := by
  obtain ⟨es, clock, hb, _⟩ := h
  rintro rfl
  rw [hb] at hg
  cases hg
theorem MapIs.set_ (h : MapIs w b q enc l) {p : Addr} (hp : b ≠ p.block) (u : Value) : MapIs (w.setCell p u) b q enc l := h.move (Below.heap_setCell w p u b hp)
theorem MapIs.setAny (h : MapIs w b q enc l) (p : Addr) (u : Value) : MapIs (w.setCell p u) b q enc l := by
  obtain ⟨es, clock, hb, he⟩ := h
  refine ⟨es, clock, ?_, he⟩
  simp only [World.setCell, Array.getElem?_modify]
  split
  · rename_i e; subst e; rw [hb]; rfl
  · exact hb
/-- len -/
theorem MapIs.len (h : MapIs w b q enc l) (ty : TypeId) (ht : P.underlying t = some (.map kt et)) (hl : l.length ≤ 9223372036854775807) :
    (Builtin.len_ #[t] ty #[.map (some b)]).run P w = .ok (.int .i64 l.length) w := by
  obtain ⟨es, clock, hb, he⟩ := h
  have := he.length
  simp only [Array.length_toList] at this
  simp [Builtin.len_, run_underlying ht, MapKept.run_getObj_map hb, goInt, this]
/-- m[k], with ok or without. -/
theorem MapIs.look (h : MapIs w b q enc l) (c : Bool) (ht : P.underlying t = some (.map kt et)) (hk : P.underlying kt = some (.int q)) {z : Value} (hz : (zeroValue et).run P w = .ok z w) (k : Int) :
    (Instr.lookup t (.map (some b)) (.int q k) c).run P w = .ok (if c then .tuple #[((mget l k).map enc).getD z, .bool (mget l k).isSome] else ((mget l k).map enc).getD z) w := by
  obtain ⟨es, clock, hb, he⟩ := h
  have hf := run_findKey (P := P) (w := w) (kt := kt) hk (ents_find es.toList l k 0 he)
  have hc : ∀ em : Bool, (Instr.checkKey em 10000 kt (.int q k)).run P w = .ok () w := fun em => run_checkKey hk (by simp [IsKey]) em 9999
  cases hg : mget l k with
  | none => rw [hg] at hf; simp [Instr.lookup, run_underlying ht, MapKept.run_getObj_map hb, hc, hf, hz, Result.andThen]
  | some v => rw [hg] at hf; simp [Instr.lookup, run_underlying ht, MapKept.run_getObj_map hb, hc, hf, Result.andThen]
theorem MapIs.look_ok (h : MapIs w b q enc l) (ht : P.underlying t = some (.map kt et)) (hk : P.underlying kt = some (.int q)) {z : Value} (hz : (zeroValue et).run P w = .ok z w) (k : Int) :
    (Instr.lookup t (.map (some b)) (.int q k) true).run P w = .ok (.tuple #[((mget l k).map enc).getD z, .bool (mget l k).isSome]) w := by
  rw [h.look true ht hk hz k]
  simp
/-- Only block b has turned. -/
theorem setBlock_grown {o : Obj} (hlt : b < w.heap.size) : w.grownBy (setBlock w b o) (some b) :=
  ⟨rfl, rfl, rfl, by simp [setBlock], fun i _ hi => by
    have : i ≠ b := fun e => hi (by rw [e])
    simp [setBlock, Ne.symm this]⟩
/-- m[k] = v -/
theorem MapIs.store (h : MapIs w b q enc l) (ht : P.underlying t = some (.map kt et)) (hk : P.underlying kt = some (.int q)) (k : Int) (v : α) :
    ∃ w1, (Instr.mapUpdate t (.map (some b)) (.int q k) (enc v)).run P w = .ok () w1 ∧ MapIs w1 b q enc (mset l k v) ∧ w.grownBy w1 (some b) := by
  have hlt := h.lt
  obtain ⟨es, clock, hb, he⟩ := h
  have hf := run_findKey (P := P) (w := w) (kt := kt) hk (ents_find es.toList l k 0 he)
  have hc : (Instr.checkKey false 10000 kt (.int q k)).run P w = .ok () w := run_checkKey hk (by simp [IsKey]) false 9999
  have hs : (Instr.keyThatStays (.int q k) (.int q k)).run P w = .ok (.int q k) w := run_keyThatStays (d := .int q) (by simp [IsKey])
  cases hg : mget l k with
  | none =>
    rw [hg] at hf
    refine ⟨setBlock w b (.map (es.push { key := .int q k, val := enc v, born := clock }) (clock + 1)), ?_, ⟨_, _, ChangeMaps.heap_setBlock_same hb _, ?_⟩, setBlock_grown hlt⟩
    · simp [Instr.mapUpdate, run_underlying ht, MapKept.run_getObj_map hb, hc, hf, Result.andThen, MapKept.run_setObj_map _ hb, setBlock]
    · rw [mset_new l k v hg]
      simp only [Ents] at he ⊢
      simp [he]
  | some u =>
    rw [hg] at hf
    have hi := mget_lt l k u hg
    have hlen := he.length
    have hkey : ((es[midx l k]?).map (·.key)).getD (.int q k) = .int q k := by
      have h1 : es.toList[midx l k]? = es[midx l k]? := by simp
      have h2 := congrArg (fun z => z[midx l k]?) he
      simp only [List.getElem?_map] at h2
      have h3 : ∀ (l : List (Int × α)), mget l k = some u → (l[midx l k]?).map (·.1) = some k := by
        intro l
        induction l with
        | nil => intro h; simp [mget] at h
        | cons p l ih =>
          intro h
          by_cases hk : p.1 = k
          · simp [midx, hk]
          · simp only [mget, if_neg hk] at h
            simp only [midx, if_neg hk, List.getElem?_cons_succ]
            exact ih h
      have h4 := h3 l hg
      rw [List.getElem?_eq_getElem hi] at h2 h4
      rw [h1] at h2
      cases hes : es[midx l k]? with
      | none => rw [hes] at h2; cases h2
      | some e0 =>
        rw [hes] at h2
        simp only [Option.map_some, Option.some.injEq, Prod.mk.injEq] at h2 h4
        simp [h2.1, h4]
    refine ⟨setBlock w b (.map (es.modify (midx l k) fun e => { e with key := .int q k, val := enc v }) clock), ?_, ⟨_, _, ChangeMaps.heap_setBlock_same hb _, ?_⟩, setBlock_grown hlt⟩
    · simp only [Option.map_some, Nat.zero_add] at hf
      simp [Instr.mapUpdate, run_underlying ht, MapKept.run_getObj_map hb, hc, hf, hkey, hs, Result.andThen, MapKept.run_setObj_map _ hb, setBlock]
    · rw [Array.toList_modify]
      exact ents_set es.toList l k v u he hg
/-- delete(m, k) -/
theorem MapIs.drop_ (h : MapIs w b q enc l) (ty : TypeId) (ht : P.underlying t = some (.map kt et)) (hk : P.underlying kt = some (.int q)) (k : Int) :
    ∃ w1, (Builtin.delete_ #[t, kt] ty #[.map (some b), .int q k]).run P w = .ok (.tuple #[]) w1 ∧ MapIs w1 b q enc (mdel l k) ∧ w.grownBy w1 (some b) := by
  have hlt := h.lt
  obtain ⟨es, clock, hb, he⟩ := h
  have hf := run_findKey (P := P) (w := w) (kt := kt) hk (ents_find es.toList l k 0 he)
  have hc : ∀ em : Bool, (Instr.checkKey em 10000 kt (.int q k)).run P w = .ok () w := fun em => run_checkKey hk (by simp [IsKey]) em 9999
  cases hg : mget l k with
  | none =>
    rw [hg] at hf
    refine ⟨setBlock w b (.map es clock), ?_, ⟨_, _, ChangeMaps.heap_setBlock_same hb _, by rw [mdel_none l k hg]; exact he⟩, setBlock_grown hlt⟩
    simp [Builtin.delete_, run_underlying ht, MapKept.run_getObj_map hb, hc, hf, Result.andThen, MapKept.run_setObj_map _ hb, setBlock]
  | some u =>
    rw [hg] at hf
    have hi := mget_lt l k u hg
    have hlen := he.length
    refine ⟨setBlock w b (.map (es.eraseIdxIfInBounds (midx l k)) clock), ?_, ⟨_, _, ChangeMaps.heap_setBlock_same hb _, ?_⟩, setBlock_grown hlt⟩
    · simp only [Option.map_some, Nat.zero_add] at hf
      simp [Builtin.delete_, run_underlying ht, MapKept.run_getObj_map hb, hc, hf, Result.andThen, MapKept.run_setObj_map _ hb, setBlock]
    · have hin : midx l k < es.size := by simp at hlen; omega
      have : (es.eraseIdxIfInBounds (midx l k)).toList = es.toList.eraseIdx (midx l k) := by simp [Array.eraseIdxIfInBounds, hin]
      rw [this]
      exact ents_del es.toList l k u he hg
/-! ### With the entries' stamps -/
/-- A map, of which each entry was born ahead of its clock. -/
def MapB (w : World) (b : Nat) (q : IntKind) (enc : α → Value) (l : List (Int × α)) : Prop := ∃ es clock, w.heap[b]? = some (.map es clock) ∧ Ents q enc es.toList l ∧ ∀ e ∈ es.toList, e.born < clock
theorem MapB.is (h : MapB w b q enc l) : MapIs w b q enc l := by
  obtain ⟨es, clock, hb, he, _⟩ := h
  exact ⟨es, clock, hb, he⟩
theorem MapB.lt (h : MapB w b q enc l) : b < w.heap.size := h.is.lt
theorem MapB.move (h : MapB w b q enc l) (hm : w1.heap[b]? = w.heap[b]?) : MapB w1 b q enc l := by
  obtain ⟨es, clock, hb, he⟩ := h
  exact ⟨es, clock, hm.trans hb, he⟩
theorem MapB.below (h : MapB w b q enc l) (hb : Below w.heap.size w w1) : MapB w1 b q enc l := h.move (hb.block b h.lt)
theorem MapB.alloc (h : MapB w b q enc l) (o : Obj) : MapB (w.alloc o) b q enc l := h.below (below_alloc (Below.refl _ _) o)
theorem MapB.made (w : World) (q : IntKind) (enc : α → Value) : MapB (w.alloc (.map #[] 0)) w.heap.size q enc [] := ⟨#[], 0, (MapKept.heap_alloc w _).1, rfl, by simp⟩
theorem MapB.ne_cells (h : MapB w b q enc l) {g : Nat} {cs : Array Value} {ty : TypeId} {fr : Nat × Nat} (hg : w.heap[g]? = some (.cells cs ty fr)) : b ≠ g := h.is.ne_cells hg
theorem MapB.setAny (h : MapB w b q enc l) (p : Addr) (u : Value) : MapB (w.setCell p u) b q enc l := by
  obtain ⟨es, clock, hb, he⟩ := h
  refine ⟨es, clock, ?_, he⟩
  simp only [World.setCell, Array.getElem?_modify]
  split
  · rename_i e; subst e; rw [hb]; rfl
  · exact hb
theorem find_last {es : Array MapEntry} {clock : Nat} {key z : Value} (h : ∀ e ∈ es.toList, e.born < clock) : (es.push ⟨key, z, clock⟩).findIdx? (fun e => ((e.born : Nat) : Int) == ((clock : Nat) : Int)) = some es.size := by
  have h2 : ∀ l : List MapEntry, (∀ e ∈ l, e.born < clock) → (l ++ [(⟨key, z, clock⟩ : MapEntry)]).findIdx? (fun e : MapEntry => ((e.born : Nat) : Int) == ((clock : Nat) : Int)) = some l.length := by
    intro l
    induction l with
    | nil => intro _; simp [List.findIdx?_cons]
    | cons x l ih =>
      intro hl
      have hx := hl x List.mem_cons_self
      have : (((x.born : Nat) : Int) == ((clock : Nat) : Int)) = false := by simp; omega
      simp [List.findIdx?_cons, this, ih (fun e he => hl e (List.mem_cons_of_mem _ he))]
  have h1 : ∀ (xs : Array MapEntry) (p : MapEntry → Bool), xs.findIdx? p = xs.toList.findIdx? p := fun xs p => by cases xs; simp
  rw [h1]
  have h3 := h2 es.toList h
  rw [Array.toList_push, h3, Array.length_toList]
/-- m[k] = v, in two steps, where k is new. -/
theorem MapB.entry (h : MapB w b q enc l) (ht : P.underlying t = some (.map kt et)) (hk : P.underlying kt = some (.int q)) {z : Value} (hz : (zeroValue et).run P w = .ok z w) (k : Int) (hg : mget l k = none) :
    ∃ (c : Int) (w1 : World), (Instr.mapEntry t (.map (some b)) (.int q k)).run P w = .ok (.tuple #[z, .int .i64 c]) w1 ∧ w.grownBy w1 (some b) ∧
      ∀ W2 : World, W2.heap[b]? = w1.heap[b]? → ∀ v : α, ∃ w3, (Instr.entryStore t (.map (some b)) (.int .i64 c) (enc v)).run P W2 = .ok () w3 ∧ MapB w3 b q enc (l ++ [(k, v)]) ∧ W2.grownBy w3 (some b) := by
  have hlt := h.lt
  obtain ⟨es, clock, hb, he, hborn⟩ := h
  have hf := run_findKey (P := P) (w := w) (kt := kt) hk (ents_find es.toList l k 0 he)
  have hc : (Instr.checkKey false 10000 kt (.int q k)).run P w = .ok () w := run_checkKey hk (by simp [IsKey]) false 9999
  rw [hg] at hf
  refine ⟨clock, setBlock w b (.map (es.push { key := .int q k, val := z, born := clock }) (clock + 1)), ?_, setBlock_grown hlt, ?_⟩
  · simp [Instr.mapEntry, run_underlying ht, MapKept.run_getObj_map hb, hc, hf, hz, Result.andThen, MapKept.run_setObj_map _ hb, setBlock, goInt]
  · intro W2 hW2 v
    have hb2 : W2.heap[b]? = some (.map (es.push { key := .int q k, val := z, born := clock }) (clock + 1)) := hW2.trans (ChangeMaps.heap_setBlock_same hb _)
    have hl2 : b < W2.heap.size := (Array.getElem?_eq_some_iff.1 hb2).1
    have hidx := find_last (es := es) (clock := clock) (key := .int q k) (z := z) hborn
    refine ⟨setBlock W2 b (.map (es.push { key := .int q k, val := enc v, born := clock }) (clock + 1)), ?_, ⟨_, _, ChangeMaps.heap_setBlock_same hb2 _, ?_, ?_⟩, setBlock_grown hl2⟩
    · have hm : (es.push { key := .int q k, val := z, born := clock }).modify es.size (fun e => { e with val := enc v }) = es.push { key := .int q k, val := enc v, born := clock } := by
        apply Array.toList_inj.1
        rw [Array.toList_modify]
        simp only [Array.toList_push, ← Array.length_toList]
        generalize es.toList = ll
        induction ll with
        | nil => rfl
        | cons x ll ih => simpa using ih
      simp [Instr.entryStore, MapKept.run_getObj_map hb2, asInt, asIntOf, hidx, Result.andThen, MapKept.run_setObj_map _ hb2, setBlock, hm]
    · simp only [Ents] at he ⊢
      simp [he]
    · intro e hm
      simp only [Array.toList_push, List.mem_append, List.mem_singleton] at hm
      rcases hm with hm | rfl
      · have := hborn e hm; omega
      · simp
end
end Go.Proofs.YtgpldjckohlkfaaIMap
