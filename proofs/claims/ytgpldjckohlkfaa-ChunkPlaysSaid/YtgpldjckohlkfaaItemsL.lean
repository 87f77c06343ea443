/- A state's chunks, awake: plain laws. -/
import Derived.Test.YtgpldjckohlkfaaPx2
import Derived.Test.YtgpldjckohlkfaaHandC
namespace Go.Proofs.Ytgpldjckohlkfaa.Pure
open Go.Proofs.YtgpldjckohlkfaaOv Go.RowKit Go.Proofs.Ytgpldjckohlkfaa.P Go.Proofs.YtgpldjckohlkfaaW.PrintWords Go.Proofs.YtgpldjckohlkfaaW.PrintLast Go.Proofs.YtgpldjckohlkfaaW.PrintMore Go.Proofs.YtgpldjckohlkfaaIMap
set_option linter.unusedVariables false
set_option linter.unusedSimpArgs false
set_option maxRecDepth 10000

theorem w64 {x : Int} (h : 0 ≤ x ∧ x ≤ 9223372036854775807) : wrap64 x = x := by unfold wrap64; omega
/-- The i-th part of a state. -/
def part (s : ByteArray) (i : Nat) : ByteArray := s.extract (i * 256) (min s.size ((i + 1) * 256))
def cnt (s : ByteArray) : Nat := max 1 ((s.size + 255) / 256)
def itemA (a0 : Int) (s : ByteArray) (i : Nat) : S42 := ⟨4, part s i, 0, 0, false, false, ⟨⟨0, ⟨0, 0⟩, 0⟩, OV.nil⟩, ⟨0, ⟨0, 0⟩, 0⟩, a0, i, cnt s⟩
theorem items_l0 (a0 : Int) (s : ByteArray) (hs : s.size ≤ 4096) : ∀ (d k i : Nat) (x6 : List S42), i + d = cnt s → d < k → x6.length = i → (∀ j, j < i → x6[j]? = some (itemA a0 s j)) →
    ∃ L, chunk_Items.l0 k a0 s (cnt s : Int) x6 (cnt s : Int) i = some L ∧ L.length = cnt s ∧ ∀ j, j < cnt s → L[j]? = some (itemA a0 s j) := by
  intro d
  induction d with
  | zero =>
    intro k i x6 hi hk hl hx
    obtain ⟨k, rfl⟩ : ∃ k', k = k' + 1 := ⟨k - 1, by omega⟩
    have hi' : i = cnt s := by omega
    subst hi'
    rw [chunk_Items.l0, if_neg (by omega)]
    exact ⟨x6, rfl, hl, hx⟩
  | succ d ih =>
    intro k i x6 hi hk hl hx
    obtain ⟨k, rfl⟩ : ∃ k', k = k' + 1 := ⟨k - 1, by omega⟩
    have hic : i < cnt s := by omega
    have hc16 : cnt s ≤ 16 := by unfold cnt; omega
    have hin : i * 256 ≤ s.size := by unfold cnt at hic; omega
    have h1 : (i : Int) < (cnt s : Int) := by omega
    have h2 : (0 : Int) ≤ ((i * 256 : Nat) : Int) := by omega
    have h3 : ((i * 256 : Nat) : Int) ≤ ((min s.size ((i + 1) * 256) : Nat) : Int) := by omega
    have h4 : ((min s.size ((i + 1) * 256) : Nat) : Int) ≤ (s.size : Int) := by omega
    have h5 : x6.length < 879609302220 := by omega
    have e1 := Aside0.mk (show wrap64 ((i : Int) * 256) = ((i * 256 : Nat) : Int) from by rw [w64 (by omega)]; omega)
    have e3 := Aside0.mk (show wrap64 ((i : Int) + 1) = ((i + 1 : Nat) : Int) from by rw [w64 (by omega)]; omega)
    have e2 := Aside0.mk (show mn (s.size : Int) (wrap64 (((i + 1 : Nat) : Int) * 256)) = ((min s.size ((i + 1) * 256) : Nat) : Int) from by
      rw [w64 (by omega)]
      unfold mn
      split <;> omega)
    rw [chunk_Items.l0, if_pos h1, e1.out, e3.out, e2.out, if_pos h2, if_pos h3, if_pos h4, if_pos h5, Int.toNat_natCast, Int.toNat_natCast]
    refine ih k (i + 1) (x6 ++ [itemA a0 s i]) (by omega) (by omega) (by simp [hl]) ?_
    intro j hj
    by_cases hji : j < i
    · rw [List.getElem?_append_left (by omega)]
      exact hx j hji
    · obtain rfl : j = i := by omega
      rw [List.getElem?_append_right (by omega), hl]
      simp
/-- The state, cut where it is too long. -/
def cutS (a1 : ByteArray) : ByteArray := a1.extract 0 (min a1.size 4096)
theorem cutS_size (a1 : ByteArray) : (cutS a1).size = min a1.size 4096 := by unfold cutS; rw [ByteArray.size_extract]; omega
theorem items_is (a0 : Int) (a1 : ByteArray) (k : Nat) (hk : 20 ≤ k) : ∃ L, chunk_Items.f k a0 a1 = some L ∧ L.length = cnt (cutS a1) ∧ ∀ j, j < cnt (cutS a1) → L[j]? = some (itemA a0 (cutS a1) j) := by
  have hsz := cutS_size a1
  have e0 : mn (a1.size : Int) 4096 = ((min a1.size 4096 : Nat) : Int) := by unfold mn; split <;> omega
  have hc16 : cnt (cutS a1) ≤ 16 := by unfold cnt; omega
  have h1 : (0 : Int) ≤ ((min a1.size 4096 : Nat) : Int) := by omega
  have h2 : ((min a1.size 4096 : Nat) : Int) ≤ (a1.size : Int) := by omega
  have e1 : mx 1 (wrap64 (Int.tdiv (wrap64 ((wrap64 (((cutS a1).size : Int) + 256)) - 1)) 256)) = ((cnt (cutS a1) : Nat) : Int) := by
    rw [w64 (x := ((cutS a1).size : Int) + 256) (by omega), w64 (x := ((cutS a1).size : Int) + 256 - 1) (by omega), Int.tdiv_eq_ediv_of_nonneg (by omega), w64 (by omega)]
    unfold mx cnt
    split <;> omega
  unfold chunk_Items.f
  rw [e0, if_pos h1, if_pos h2, Int.toNat_natCast]
  have h3 : a1.extract 0 (min a1.size 4096) = cutS a1 := rfl
  rw [h3, e1]
  exact items_l0 a0 (cutS a1) (by omega) (cnt (cutS a1)) k 0 [] (by omega) (by omega) rfl (by omega)

theorem rdA {L : List S42} {a0 : Int} {s : ByteArray} {i : Nat} (h : L[i]? = some (itemA a0 s i)) : rd_T42 L (i : Int) = itemA a0 s i := by
  unfold rd_T42
  rw [Int.toNat_natCast, List.getD_eq_getElem?_getD, h, Option.getD_some]
theorem whole0 : chunk_Whole.f 7 0 [] = some (⟨#[]⟩, false, 7, 0, []) := by kernel_rfl
theorem take1 (p : ByteArray) : chunk_Take.f 7 0 [] 4 p 0 0 false false 0 0 0 0 OV.nil 0 0 0 0 7 0 1 = some (true, 7, 1, [(0, p)]) := by
  unfold chunk_Take.f
  rw [if_pos (show ([] : List (Int × ByteArray)).length ≤ 1000000 by simp), if_neg (by unfold chunk_Take.no; simp), if_neg (by simp [mget])]
  rfl
theorem take2 (p : ByteArray) : chunk_Take.f 7 1 [(0, p)] 4 p 0 0 false false 0 0 0 0 OV.nil 0 0 0 0 7 0 1 = some (false, 7, 1, [(0, p)]) := by
  unfold chunk_Take.f
  rw [if_pos (by simp), if_neg (by unfold chunk_Take.no; simp), if_pos (by simp [mget])]
theorem whole1 (p : ByteArray) (hp : p.size ≤ 100) : chunk_Whole.f 7 1 [(0, p)] = some (⟨#[]⟩ ++ p, true, 7, 1, [(0, p)]) := by
  unfold chunk_Whole.f
  have h1 : ¬ ((([(0, p)] : List (Int × ByteArray)).length : Int) = 0) := by simp
  have h2 : ¬ ((([(0, p)] : List (Int × ByteArray)).length : Int) ≠ 1) := by simp
  rw [if_pos (by simp), if_neg h1, if_neg h2, show (1 : Int).toNat = 0 + 1 from rfl, cat]
  have h3 : (mget ([(0, p)] : List (Int × ByteArray)) ((0 : Nat) : Int)).getD ⟨#[]⟩ = p := by simp [mget]
  have h4 : (⟨#[]⟩ : ByteArray).size + p.size ≤ 9223372036854775807 := by
    have : (⟨#[]⟩ : ByteArray).size = 0 := rfl
    omega
  rw [h3, if_pos h4, cat, Option.bind_some]
def ab : ByteArray := ⟨#[97, 98]⟩
theorem cnt_ab : cnt (cutS ab) = 1 := by unfold cnt; rw [cutS_size]; rfl
theorem cnt_no : cnt (cutS ⟨#[]⟩) = 1 := by unfold cnt; rw [cutS_size]; rfl
theorem part_ab : ((⟨#[]⟩ : ByteArray) ++ part (cutS ab) 0).toList = [97, 98] := by
  rw [ByteArray.toList_eq]
  decide +kernel
theorem part_small : (part (cutS ab) 0).size ≤ 100 := by
  unfold part
  rw [ByteArray.size_extract, cutS_size]
  show min (min (min 2 4096) _) (min 2 4096) - _ ≤ 100
  omega
theorem awake_is (k : Nat) (hk : 60 ≤ k) : consortlaw23_awake.f k = some true := by
  obtain ⟨k, rfl⟩ : ∃ k', k = k' + 1 := ⟨k - 1, by omega⟩
  obtain ⟨L, hL, hl, gL⟩ := items_is 7 ab (k + 1) (by omega)
  obtain ⟨M, hM, hm, _⟩ := items_is 1 ⟨#[]⟩ k (by omega)
  rw [cnt_ab] at hl gL
  rw [cnt_no] at hm
  have r0 : rd_T42 L 0 = (⟨4, part (cutS ab) 0, 0, 0, false, false, ⟨⟨0, ⟨0, 0⟩, 0⟩, OV.nil⟩, ⟨0, ⟨0, 0⟩, 0⟩, 7, 0, 1⟩ : S42) := by
    have := rdA (i := 0) (gL 0 (by omega))
    unfold itemA at this
    rw [cnt_ab] at this
    exact this
  have h1 : (L.length : Int) = 1 := by omega
  have h2 : (0 : Int) < (L.length : Int) := by omega
  have h3 : (M.length : Int) = 1 := by omega
  have hp := part_small
  have hpl := part_ab
  clear gL
  generalize part (cutS ab) 0 = p at r0 hp hpl
  unfold consortlaw23_awake.f
  rw [show chunk_Items.f (k + 1) 7 (⟨#[97, 98]⟩ : ByteArray) = some L from hL, Option.bind_some, show chunk_New.f 7 = some (7, 0, []) from rfl, Option.bind_some, if_pos h1, if_pos h2, r0]
  rw [if_pos (by rfl), if_pos (by rfl), consortlaw23_awake.j0, if_neg (by simp), whole0, Option.bind_some, if_pos h2, r0]
  rw [show chunk_Take.f _ _ _ _ _ _ _ _ _ _ _ _ _ _ _ _ _ _ _ _ _ = _ from take1 p, Option.bind_some, show chunk_Whole.f _ _ _ = _ from whole1 p hp, Option.bind_some, if_neg (by simp), if_pos rfl, if_pos hpl, if_pos rfl,
    show chunk_Take.f _ _ _ _ _ _ _ _ _ _ _ _ _ _ _ _ _ _ _ _ _ = _ from take2 p, Option.bind_some, if_neg (by simp), hM, Option.bind_some, h3]
  rfl
end Go.Proofs.Ytgpldjckohlkfaa.Pure
