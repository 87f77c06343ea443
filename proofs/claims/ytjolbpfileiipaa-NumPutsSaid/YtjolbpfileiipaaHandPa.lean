/- Rows of bytes with room behind them: what make and append leave. -/
import Derived.Test.YtjolbpfileiipaaPx2
import Derived.Lib.Hide
namespace Go.Proofs.Ytjolbpfileiipaa.P
open Go.RowKit Go.Proofs.YtjolbpfileiipaaW.PrintWords Go.Proofs.YtjolbpfileiipaaW.PrintLast Go.Proofs.YtjolbpfileiipaaW.PrintMore
set_option linter.unusedVariables false
set_option linter.unusedSimpArgs false

/-- The cells of a row of bytes, and n spare ones behind it. -/
def roomCells (l : List Int) (n : Nat) : List Value := nums .u8 l ++ List.replicate n (.int .u8 0)
theorem roomCells_length (l : List Int) (n : Nat) : (roomCells l n).length = l.length + n := by simp [roomCells, nums]
theorem made_u8 (n : Nat) : (madeCells (Value.int .u8 0).cells n).toList = List.replicate n (.int .u8 0) := by
  apply List.ext_getElem
  · simp [madeCells]
  · intro i h1 h2
    simp [madeCells, Value.cells, Nat.mod_one]
theorem make_room {P : Program} (w : World) (t e : TypeId) (i : TypeInfo) (ht : P.underlying t = some (.slice e)) (hi : P.info? e = some i) (hz : i.zero = some (.int .u8 0)) (hb : i.bytes = 1) (hs : i.size = 1) (m : Nat) (hn : m ≤ 1000000) :
    (Instr.makeSlice t (.int .i64 0) (.int .i64 (m : Int))).run P w = .ok (.slice (some ⟨w.heap.size, 0, none⟩) 0 m) (w.alloc (.cells (roomCells [] m).toArray e)) := by
  have hr := run_make (P := P) w t e i (.int .u8 0) ht hi hz .i64 .i64 (0 : Int) (m : Int) (by omega) (by omega) (by rw [hb]; omega) (by omega)
  rw [hs, Nat.mul_one] at hr
  have hc : madeCells (Value.int .u8 0).cells ((m : Int)).toNat = (roomCells [] m).toArray := by
    rw [Int.toNat_natCast]
    have h2 : (madeCells (Value.int .u8 0).cells m).toList = roomCells [] m := by rw [made_u8]; simp [roomCells, nums]
    rw [← h2]
  rw [hc] at hr
  exact hr
theorem C_cell {w W : World} {A : Option Addr} {n : Nat} {l : List Int} (h : Kd.C (Kd.int .u8) w A n l) (hb : Below w.heap.size w W) {ad : Addr} (ha : A = some ad) (j : Nat) (u : Value) (hj : (nums .u8 l)[j]? = some u) : W.cell? (ad.add j) = some u := by
  have hjl : j < l.length := by
    have := List.getElem?_eq_some_iff.1 hj
    obtain ⟨h1, _⟩ := this
    simpa [nums] using h1
  obtain ⟨ad', e, hc⟩ := h.2.2 (by have := h.1; omega)
  rw [ha] at e
  cases e
  obtain ⟨cs, hl, hK, hcs⟩ := hc j l[j] (List.getElem?_eq_getElem hjl)
  have hK' : cs = [.int .u8 l[j]] := hK
  subst hK'
  have h1 := hcs 0 (.int .u8 l[j]) rfl
  have hu : u = .int .u8 l[j] := by
    simp only [nums, List.getElem?_map, List.getElem?_eq_getElem hjl, Option.map_some, Option.some.injEq] at hj
    exact hj.symm
  rw [hu]
  have h2 := pw_cell_below hb h1
  simpa [show (Kd.int .u8).sz = 1 from rfl] using h2
/-- append(make([]byte, 0, len+m), b...): the bytes, and m zeros behind them. -/
theorem append_room {P : Program} (w W : World) (t ty e : TypeId) (i : TypeInfo) (ht : P.underlying t = some (.slice e)) (hi : P.info? e = some i) (hs : i.size = 1) (g m : Nat) (A : Option Addr) (c : Nat) (l : List Int) (hC : Kd.C (Kd.int .u8) w A l.length l) (hb : Below w.heap.size w W)
    (hg : W.heap[g]? = some (.cells (roomCells [] (l.length + m)).toArray e (0, 0))) (hge : w.heap.size ≤ g) :
    ∃ W1, (Builtin.append_ #[t, t] ty #[.slice (some ⟨g, 0, none⟩) 0 (l.length + m), .slice A l.length c]).run P W = .ok (.slice (some ⟨g, 0, none⟩) l.length (l.length + m)) W1 ∧
      W1.heap[g]? = some (.cells (roomCells l m).toArray e (0, 0)) ∧ Below w.heap.size w W1 := by
  cases A with
  | none =>
    have h0 : l = [] := by
      cases l with
      | nil => rfl
      | cons x l => obtain ⟨ad, e, _⟩ := hC.2.2 (by simp); cases e
    subst h0
    refine ⟨W, ?_, by simpa using hg, hb⟩
    simp [Builtin.append_, run_underlying ht, sizeOf, typeInfo, hi, Builtin.lenOf, Builtin.firstCells, storeCells]
  | some ad =>
    have hr := run_append_room (P := P) W t ty e i ht hi g 0 (l.length + m) _ hg ad l.length c (nums .u8 l) (by rw [hs]; simp [nums]) (fun j u hj => C_cell hC hb rfl j u hj) (fun u hu => by
      simp only [nums, List.mem_map] at hu
      obtain ⟨x, _, rfl⟩ := hu
      rfl) (by omega) (by simp [roomCells, nums])
    rw [Nat.zero_add] at hr
    have hcs : ((roomCells [] (l.length + m)).toArray.toList.take (0 * i.size) ++ nums .u8 l ++ (roomCells [] (l.length + m)).toArray.toList.drop (0 * i.size + (nums .u8 l).length)).toArray = (roomCells l m).toArray := by
      simp [roomCells, nums]
    rw [hcs] at hr
    refine ⟨_, hr, ?_, ?_⟩
    · exact setRow_heap W g _ _ e (0, 0) hg
    · exact ⟨hb.os, hb.tape, hb.output, by rw [setRow_size]; exact hb.size, fun k hk => (setRow_other W g k _ (by omega)).trans (hb.block k hk)⟩
theorem room_cell {W : World} {g e m : Nat} {l : List Int} (h : W.heap[g]? = some (.cells (roomCells l m).toArray e (0, 0))) (j : Nat) (u : Value) (hj : (roomCells l m)[j]? = some u) : W.cell? ⟨g, j, none⟩ = some u := by
  have := blk_cell h j
  rw [this]
  simpa using hj
theorem room_ahead (l : List Int) (m j : Nat) (hj : j < l.length) : (roomCells l m)[j]? = some (.int .u8 l[j]) := by
  rw [roomCells, List.getElem?_append_left (by simpa [nums] using hj)]
  simp [nums, List.getElem?_eq_getElem hj]
theorem room_spare (l : List Int) (m j : Nat) (h1 : l.length ≤ j) (hj : j < l.length + m) : (roomCells l m)[j]? = some (.int .u8 0) := by
  rw [roomCells, List.getElem?_append_right (by simpa [nums] using h1)]
  simp only [nums, List.length_map, List.getElem?_replicate]
  rw [if_pos (by omega)]
theorem room_C {W : World} {g e m : Nat} {l : List Int} (h : W.heap[g]? = some (.cells (roomCells l m).toArray e (0, 0))) (hl : l.length ≤ 1000000) : Kd.C (Kd.int .u8) W (some ⟨g, 0, none⟩) l.length l :=
  ⟨rfl, by omega, fun _ => ⟨⟨g, 0, none⟩, rfl, fun j p hj => by
    obtain ⟨hjl, rfl⟩ := List.getElem?_eq_some_iff.1 hj
    refine ⟨[.int .u8 l[j]], rfl, rfl, fun i u hu => ?_⟩
    cases i with
    | succ i => simp at hu
    | zero =>
      simp only [List.getElem?_cons_zero, Option.some.injEq] at hu
      subst hu
      have := room_cell h j _ (room_ahead l m j hjl)
      have e2 : (⟨g, 0, none⟩ : Addr).add (j * (Kd.int .u8).sz + 0) = ⟨g, j, none⟩ := by
        rw [show (Kd.int .u8).sz = 1 from rfl, add_plain]
        simp
      rw [e2]
      exact this⟩⟩
end Go.Proofs.Ytjolbpfileiipaa.P
