/- Any state's items are just the document's. -/
import Derived.Test.YtgpldjckohlkfaaPx4
namespace Go.Proofs.Ytgpldjckohlkfaa.Pure
open Go.Proofs.YtgpldjckohlkfaaOv Go.RowKit Go.Proofs.Ytgpldjckohlkfaa.P Go.Proofs.YtgpldjckohlkfaaW.PrintWords Go.Proofs.YtgpldjckohlkfaaW.PrintLast Go.Proofs.YtgpldjckohlkfaaW.PrintMore Go.Proofs.YtgpldjckohlkfaaIMap
set_option linter.unusedVariables false
set_option linter.unusedSimpArgs false
set_option maxRecDepth 10000

theorem w64 {x : Int} (h : 0 ≤ x ∧ x ≤ 9223372036854775807) : wrap64 x = x := by unfold wrap64; omega
/-- The i-th part of a state. -/
def part (s : ByteArray) (i : Nat) : ByteArray := s.extract (i * 256) (min s.size ((i + 1) * 256))
def cnt (s : ByteArray) : Nat := max 1 ((s.size + 255) / 256)
def itemA (a0 : Int) (s : ByteArray) (i : Nat) : S42 := ⟨4, part s i, 0, 0, false, false, ⟨⟨0, ⟨0, 0⟩, 0⟩, OV.nil⟩, ⟨0, ⟨0, 0⟩, 0⟩, a0, i, cnt s⟩
def itemB (a0 : Int) (s : ByteArray) (i : Nat) : S38 := ⟨4, part s i, 0, 0, false, false, ⟨⟨0, ⟨0, 0⟩, 0⟩, OV.nil⟩, ⟨0, ⟨0, 0⟩, 0⟩, a0, i, cnt s⟩

theorem items_l0 (a0 : Int) (s : ByteArray) (hs : s.size ≤ 4096) : ∀ (d k i : Nat) (x6 : List S42), i + d = cnt s → d < k → x6.length = i → (∀ j, j < i → x6[j]? = some (itemA a0 s j)) →
    ∃ L, chunk_Items.l0 k a0 s (cnt s : Int) x6 (cnt s : Int) i = some L ∧ L.length = cnt s ∧ ∀ j, j < cnt s → L[j]? = some (itemA a0 s j) := by
  intro d
  induction d with
  | zero =>
    intro k i x6 hi hk hl hx
    obtain ⟨k, rfl⟩ : ∃ k', k = k' + 1 := ⟨k - 1, by omega⟩
    have hi' : i = cnt s := by omega
    subst hi'
    rw [chunk_Items.l0, if_neg (by omega)]
    exact ⟨x6, rfl, hl, hx⟩
  | succ d ih =>
    intro k i x6 hi hk hl hx
    obtain ⟨k, rfl⟩ : ∃ k', k = k' + 1 := ⟨k - 1, by omega⟩
    have hic : i < cnt s := by omega
    have hc16 : cnt s ≤ 16 := by unfold cnt; omega
    have hin : i * 256 ≤ s.size := by unfold cnt at hic; omega
    have h1 : (i : Int) < (cnt s : Int) := by omega
    have h2 : (0 : Int) ≤ ((i * 256 : Nat) : Int) := by omega
    have h3 : ((i * 256 : Nat) : Int) ≤ ((min s.size ((i + 1) * 256) : Nat) : Int) := by omega
    have h4 : ((min s.size ((i + 1) * 256) : Nat) : Int) ≤ (s.size : Int) := by omega
    have h5 : x6.length < 879609302220 := by omega
    have e1 := Aside0.mk (show wrap64 ((i : Int) * 256) = ((i * 256 : Nat) : Int) from by rw [w64 (by omega)]; omega)
    have e3 := Aside0.mk (show wrap64 ((i : Int) + 1) = ((i + 1 : Nat) : Int) from by rw [w64 (by omega)]; omega)
    have e2 := Aside0.mk (show mn (s.size : Int) (wrap64 (((i + 1 : Nat) : Int) * 256)) = ((min s.size ((i + 1) * 256) : Nat) : Int) from by
      rw [w64 (by omega)]
      unfold mn
      split <;> omega)
    rw [chunk_Items.l0, if_pos h1, e1.out, e3.out, e2.out, if_pos h2, if_pos h3, if_pos h4, if_pos h5, Int.toNat_natCast, Int.toNat_natCast]
    refine ih k (i + 1) (x6 ++ [itemA a0 s i]) (by omega) (by omega) (by simp [hl]) ?_
    intro j hj
    by_cases hji : j < i
    · rw [List.getElem?_append_left (by omega)]
      exact hx j hji
    · obtain rfl : j = i := by omega
      rw [List.getElem?_append_right (by omega), hl]
      simp
/-- The state, cut where it is too long. -/
def cutS (a1 : ByteArray) : ByteArray := a1.extract 0 (min a1.size 4096)
theorem cutS_size (a1 : ByteArray) : (cutS a1).size = min a1.size 4096 := by unfold cutS; rw [ByteArray.size_extract]; omega
theorem items_is (a0 : Int) (a1 : ByteArray) (k : Nat) (hk : 20 ≤ k) : ∃ L, chunk_Items.f k a0 a1 = some L ∧ L.length = cnt (cutS a1) ∧ ∀ j, j < cnt (cutS a1) → L[j]? = some (itemA a0 (cutS a1) j) := by
  have hsz := cutS_size a1
  have e0 : mn (a1.size : Int) 4096 = ((min a1.size 4096 : Nat) : Int) := by unfold mn; split <;> omega
  have hc16 : cnt (cutS a1) ≤ 16 := by unfold cnt; omega
  have h1 : (0 : Int) ≤ ((min a1.size 4096 : Nat) : Int) := by omega
  have h2 : ((min a1.size 4096 : Nat) : Int) ≤ (a1.size : Int) := by omega
  have e1 : mx 1 (wrap64 (Int.tdiv (wrap64 ((wrap64 (((cutS a1).size : Int) + 256)) - 1)) 256)) = ((cnt (cutS a1) : Nat) : Int) := by
    rw [w64 (x := ((cutS a1).size : Int) + 256) (by omega), w64 (x := ((cutS a1).size : Int) + 256 - 1) (by omega), Int.tdiv_eq_ediv_of_nonneg (by omega), w64 (by omega)]
    unfold mx cnt
    split <;> omega
  unfold chunk_Items.f
  rw [e0, if_pos h1, if_pos h2, Int.toNat_natCast]
  have h3 : a1.extract 0 (min a1.size 4096) = cutS a1 := rfl
  rw [h3, e1]
  exact items_l0 a0 (cutS a1) (by omega) (cnt (cutS a1)) k 0 [] (by omega) (by omega) rfl (by omega)

theorem ref_l1 (a0 : Int) (s : ByteArray) (hc : cnt s ≤ 16) (x5 : List ByteArray) (h5 : x5.length = cnt s) (hx5 : ∀ j, j < cnt s → x5[j]? = some (part s j)) : ∀ (d k i : Nat) (x6 : List S38), i + d = cnt s → d < k → x6.length = i → (∀ j, j < i → x6[j]? = some (itemB a0 s j)) →
    ∃ L, consortref23_Items.l1 k a0 x5 x6 i = some L ∧ L.length = cnt s ∧ ∀ j, j < cnt s → L[j]? = some (itemB a0 s j) := by
  intro d
  induction d with
  | zero =>
    intro k i x6 hi hk hl hx
    obtain ⟨k, rfl⟩ : ∃ k', k = k' + 1 := ⟨k - 1, by omega⟩
    have hi' : i = cnt s := by omega
    subst hi'
    rw [consortref23_Items.l1, if_neg (by omega)]
    exact ⟨x6, rfl, hl, hx⟩
  | succ d ih =>
    intro k i x6 hi hk hl hx
    obtain ⟨k, rfl⟩ : ∃ k', k = k' + 1 := ⟨k - 1, by omega⟩
    have h1 : (i : Int) < (x5.length : Int) := by omega
    have h2 : (0 : Int) ≤ (i : Int) := by omega
    have h3 : x6.length < 879609302220 := by omega
    have e4 : rdOf ByteArray.empty x5 (i : Int) = part s i := by
      unfold rdOf
      rw [Int.toNat_natCast, List.getD_eq_getElem?_getD, hx5 i (by omega), Option.getD_some]
    have e3 := Aside0.mk (show wrap64 ((i : Int) + 1) = ((i + 1 : Nat) : Int) from by rw [w64 (by omega)]; omega)
    rw [consortref23_Items.l1, if_pos h1, if_pos h2, if_pos h3, e3.out, e4, h5]
    refine ih k (i + 1) (x6 ++ [itemB a0 s i]) (by omega) (by omega) (by simp [hl]) ?_
    intro j hj
    by_cases hji : j < i
    · rw [List.getElem?_append_left (by omega)]
      exact hx j hji
    · obtain rfl : j = i := by omega
      rw [List.getElem?_append_right (by omega), hl]
      simp

theorem ref_l0 (a0 : Int) (s : ByteArray) (hs : s.size ≤ 4096) : ∀ (d k j : Nat) (x5 : List ByteArray), s.size ≤ (j + 1 + d) * 256 → j * 256 ≤ s.size → (j = 0 ∨ j * 256 < s.size) → d + 30 < k → j ≤ 16 → x5.length = j → (∀ i, i < j → x5[i]? = some (part s i)) →
    ∃ L, consortref23_Items.l0 k a0 (s.extract (j * 256) s.size) x5 = some L ∧ L.length = cnt s ∧ ∀ j, j < cnt s → L[j]? = some (itemB a0 s j) := by
  intro d
  have last : ∀ (k j : Nat) (x5 : List ByteArray), s.size ≤ (j + 1) * 256 → j * 256 ≤ s.size → (j = 0 ∨ j * 256 < s.size) → 30 < k → j ≤ 16 → x5.length = j → (∀ i, i < j → x5[i]? = some (part s i)) →
      ∃ L, consortref23_Items.l0 k a0 (s.extract (j * 256) s.size) x5 = some L ∧ L.length = cnt s ∧ ∀ j, j < cnt s → L[j]? = some (itemB a0 s j) := by
    intro k j x5 h1 h2 h3 hk hj16 hl hx
    obtain ⟨k, rfl⟩ : ∃ k', k = k' + 1 := ⟨k - 1, by omega⟩
    have hsz : (s.extract (j * 256) s.size).size = s.size - j * 256 := by rw [ByteArray.size_extract]; omega
    have hcn : cnt s = j + 1 := by unfold cnt; omega
    have g1 : ¬ (((s.extract (j * 256) s.size).size : Int) > 256) := by omega
    have g2 : x5.length < 8796093022208 := by omega
    have hp : s.extract (j * 256) s.size = part s j := by unfold part; rw [show min s.size ((j + 1) * 256) = s.size by omega]
    rw [consortref23_Items.l0, if_neg g1, if_pos g2, hp]
    refine ref_l1 a0 s (by omega) (x5 ++ [part s j]) (by simp [hl, hcn]) ?_ (cnt s) k 0 [] (by omega) (by omega) rfl (by omega)
    intro i hi
    by_cases hij : i < j
    · rw [List.getElem?_append_left (by omega)]
      exact hx i hij
    · obtain rfl : i = j := by omega
      rw [List.getElem?_append_right (by omega), hl]
      simp
  induction d with
  | zero =>
    intro k j x5 h1 h2 h3 hk hj16 hl hx
    exact last k j x5 (by omega) h2 h3 (by omega) hj16 hl hx
  | succ d ih =>
    intro k j x5 h1 h2 h3 hk hj16 hl hx
    by_cases hle : s.size ≤ (j + 1) * 256
    · exact last k j x5 hle h2 h3 (by omega) hj16 hl hx
    obtain ⟨k, rfl⟩ : ∃ k', k = k' + 1 := ⟨k - 1, by omega⟩
    have hsz : (s.extract (j * 256) s.size).size = s.size - j * 256 := by rw [ByteArray.size_extract]; omega
    have g1 : ((s.extract (j * 256) s.size).size : Int) > 256 := by omega
    have g2 : x5.length < 8796093022208 := by omega
    have g3 : 256 ≤ ((s.extract (j * 256) s.size).size : Int) := by omega
    have hp : (s.extract (j * 256) s.size).extract 0 256 = part s j := by
      unfold part
      rw [ByteArray.extract_extract, show j * 256 + 0 = j * 256 by omega, show min (j * 256 + 256) s.size = min s.size ((j + 1) * 256) by omega]
    have hq : (s.extract (j * 256) s.size).extract 256 (s.extract (j * 256) s.size).size = s.extract ((j + 1) * 256) s.size := by
      rw [ByteArray.extract_extract, hsz, show j * 256 + 256 = (j + 1) * 256 by omega, show min (j * 256 + (s.size - j * 256)) s.size = s.size by omega]
    rw [consortref23_Items.l0, if_pos g1, if_pos (by decide), if_pos g3, if_pos g2, hp, hq]
    refine ih k (j + 1) (x5 ++ [part s j]) (by omega) (by omega) (.inr (by omega)) (by omega) (by omega) (by simp [hl]) ?_
    intro i hi
    by_cases hij : i < j
    · rw [List.getElem?_append_left (by omega)]
      exact hx i hij
    · obtain rfl : i = j := by omega
      rw [List.getElem?_append_right (by omega), hl]
      simp
theorem ref_is (a0 : Int) (a1 : ByteArray) (k : Nat) (hk : 60 ≤ k) : ∃ L, consortref23_Items.f k a0 a1 = some L ∧ L.length = cnt (cutS a1) ∧ ∀ j, j < cnt (cutS a1) → L[j]? = some (itemB a0 (cutS a1) j) := by
  have hsz := cutS_size a1
  obtain ⟨k, rfl⟩ : ∃ k', k = k' + 1 := ⟨k - 1, by omega⟩
  have hj : consortref23_Items.f (k + 1) a0 a1 = consortref23_Items.l0 k a0 (cutS a1) [] := by
    unfold consortref23_Items.f
    by_cases h : (a1.size : Int) > 4096
    · have h2 : (4096 : Int) ≤ (a1.size : Int) := by omega
      rw [if_pos h, if_pos (by decide), if_pos h2, consortref23_Items.j0]
      unfold cutS
      rw [show min a1.size 4096 = 4096 by omega]
    · rw [if_neg h, consortref23_Items.j0]
      unfold cutS
      rw [show min a1.size 4096 = a1.size by omega, ByteArray.extract_zero_size]
  rw [hj]
  have := ref_l0 a0 (cutS a1) (by omega) 16 k 0 [] (by omega) (by omega) (.inl rfl) (by omega) (by omega) rfl (by omega)
  rw [Nat.zero_mul, ByteArray.extract_zero_size] at this
  exact this
theorem same_nil : ref18_Same.f 0 0 0 0 OV.nil 0 0 0 0 OV.nil = some true := by kernel_rfl
theorem rdA {L : List S42} {a0 : Int} {s : ByteArray} {i : Nat} (h : L[i]? = some (itemA a0 s i)) : rd_T42 L (i : Int) = itemA a0 s i := by
  unfold rd_T42
  rw [Int.toNat_natCast, List.getD_eq_getElem?_getD, h, Option.getD_some]
theorem rdB {L : List S38} {a0 : Int} {s : ByteArray} {i : Nat} (h : L[i]? = some (itemB a0 s i)) : rd_T38 L (i : Int) = itemB a0 s i := by
  unfold rd_T38
  rw [Int.toNat_natCast, List.getD_eq_getElem?_getD, h, Option.getD_some]
theorem whole0 : chunk_Whole.f 7 0 [] = some (⟨#[]⟩, false, 7, 0, []) := by kernel_rfl
theorem take1 (p : ByteArray) : chunk_Take.f 7 0 [] 4 p 0 0 false false 0 0 0 0 OV.nil 0 0 0 0 7 0 1 = some (true, 7, 1, [(0, p)]) := by
  unfold chunk_Take.f
  rw [if_pos (show ([] : List (Int × ByteArray)).length ≤ 1000000 by simp), if_neg (by unfold chunk_Take.no; simp), if_neg (by simp [mget])]
  rfl
theorem take2 (p : ByteArray) : chunk_Take.f 7 1 [(0, p)] 4 p 0 0 false false 0 0 0 0 OV.nil 0 0 0 0 7 0 1 = some (false, 7, 1, [(0, p)]) := by
  unfold chunk_Take.f
  rw [if_pos (by simp), if_neg (by unfold chunk_Take.no; simp), if_pos (by simp [mget])]
theorem whole1 (p : ByteArray) (hp : p.size ≤ 100) : chunk_Whole.f 7 1 [(0, p)] = some (⟨#[]⟩ ++ p, true, 7, 1, [(0, p)]) := by
  unfold chunk_Whole.f
  have h1 : ¬ ((([(0, p)] : List (Int × ByteArray)).length : Int) = 0) := by simp
  have h2 : ¬ ((([(0, p)] : List (Int × ByteArray)).length : Int) ≠ 1) := by simp
  rw [if_pos (by simp), if_neg h1, if_neg h2, show (1 : Int).toNat = 0 + 1 from rfl, cat]
  have h3 : (mget ([(0, p)] : List (Int × ByteArray)) ((0 : Nat) : Int)).getD ⟨#[]⟩ = p := by simp [mget]
  have h4 : (⟨#[]⟩ : ByteArray).size + p.size ≤ 9223372036854775807 := by
    have : (⟨#[]⟩ : ByteArray).size = 0 := rfl
    omega
  rw [h3, if_pos h4, cat, Option.bind_some]
def ab : ByteArray := ⟨#[97, 98]⟩
theorem cnt_ab : cnt (cutS ab) = 1 := by unfold cnt; rw [cutS_size]; rfl
theorem cnt_no : cnt (cutS ⟨#[]⟩) = 1 := by unfold cnt; rw [cutS_size]; rfl
theorem part_ab : ((⟨#[]⟩ : ByteArray) ++ part (cutS ab) 0).toList = [97, 98] := by
  rw [ByteArray.toList_eq]
  decide +kernel
theorem part_small : (part (cutS ab) 0).size ≤ 100 := by
  unfold part
  rw [ByteArray.size_extract, cutS_size]
  show min (min (min 2 4096) _) (min 2 4096) - _ ≤ 100
  omega
theorem awake_is (k : Nat) (hk : 60 ≤ k) : consortlaw23_awake.f k = some true := by
  obtain ⟨k, rfl⟩ : ∃ k', k = k' + 1 := ⟨k - 1, by omega⟩
  obtain ⟨L, hL, hl, gL⟩ := items_is 7 ab (k + 1) (by omega)
  obtain ⟨M, hM, hm, _⟩ := items_is 1 ⟨#[]⟩ k (by omega)
  rw [cnt_ab] at hl gL
  rw [cnt_no] at hm
  have r0 : rd_T42 L 0 = (⟨4, part (cutS ab) 0, 0, 0, false, false, ⟨⟨0, ⟨0, 0⟩, 0⟩, OV.nil⟩, ⟨0, ⟨0, 0⟩, 0⟩, 7, 0, 1⟩ : S42) := by
    have := rdA (i := 0) (gL 0 (by omega))
    unfold itemA at this
    rw [cnt_ab] at this
    exact this
  have h1 : (L.length : Int) = 1 := by omega
  have h2 : (0 : Int) < (L.length : Int) := by omega
  have h3 : (M.length : Int) = 1 := by omega
  have hp := part_small
  have hpl := part_ab
  clear gL
  generalize part (cutS ab) 0 = p at r0 hp hpl
  unfold consortlaw23_awake.f
  rw [show chunk_Items.f (k + 1) 7 (⟨#[97, 98]⟩ : ByteArray) = some L from hL, Option.bind_some, show chunk_New.f 7 = some (7, 0, []) from rfl, Option.bind_some, if_pos h1, if_pos h2, r0]
  rw [if_pos (by rfl), if_pos (by rfl), consortlaw23_awake.j0, if_neg (by simp), whole0, Option.bind_some, if_pos h2, r0]
  rw [show chunk_Take.f _ _ _ _ _ _ _ _ _ _ _ _ _ _ _ _ _ _ _ _ _ = _ from take1 p, Option.bind_some, show chunk_Whole.f _ _ _ = _ from whole1 p hp, Option.bind_some, if_neg (by simp), if_pos rfl, if_pos hpl, if_pos rfl,
    show chunk_Take.f _ _ _ _ _ _ _ _ _ _ _ _ _ _ _ _ _ _ _ _ _ = _ from take2 p, Option.bind_some, if_neg (by simp), hM, Option.bind_some, h3]
  rfl
theorem cuts_l0 (a0 : Int) (s : ByteArray) (hc : cnt s ≤ 16) (L : List S42) (M : List S38) (hL : L.length = cnt s) (hM : M.length = cnt s) (gL : ∀ j, j < cnt s → L[j]? = some (itemA a0 s j)) (gM : ∀ j, j < cnt s → M[j]? = some (itemB a0 s j)) :
    ∀ (d k i : Nat), i + d = cnt s → d < k → consortlaw23_ChunkCuts.l0 k L M i = some true := by
  intro d
  induction d with
  | zero =>
    intro k i hi hk
    obtain ⟨k, rfl⟩ : ∃ k', k = k' + 1 := ⟨k - 1, by omega⟩
    rw [consortlaw23_ChunkCuts.l0, if_neg (by omega)]
  | succ d ih =>
    intro k i hi hk
    obtain ⟨k, rfl⟩ : ∃ k', k = k' + 1 := ⟨k - 1, by omega⟩
    have h1 : (i : Int) < (L.length : Int) := by omega
    have h2 : (i : Int) < (M.length : Int) := by omega
    have e3 := Aside0.mk (show wrap64 ((i : Int) + 1) = ((i + 1 : Nat) : Int) from by rw [w64 (by omega)]; omega)
    have hr := ih k (i + 1) (by omega) (by omega)
    rw [consortlaw23_ChunkCuts.l0, if_pos h1, if_pos (by omega), rdA (gL i (by omega)), rdB (gM i (by omega)), e3.out]
    simp only [itemA, itemB, consortlaw19_Item.f, consortlaw19_rec.f, Option.bind_some]
    rw [if_pos h2]
    simp only [consortref19_Items.f, same_nil, Option.bind_some, if_true, beq_self_eq_true, Bool.and_self]
    exact hr
theorem ChunkCuts : consortlaw23_ChunkCuts.Pure := by
  intro a0 a1 h0 h1
  obtain ⟨L, hL, hl, gL⟩ := items_is a0 a1 100 (by omega)
  obtain ⟨M, hM, hm, gM⟩ := ref_is a0 a1 100 (by omega)
  have hc16 : cnt (cutS a1) ≤ 16 := by have := cutS_size a1; unfold cnt; omega
  have he : (L.length : Int) = (M.length : Int) := by omega
  refine ⟨100, ?_⟩
  unfold consortlaw23_ChunkCuts.f
  rw [awake_is 100 (by omega), Option.bind_some, if_pos rfl]
  by_cases hs : (a1.size : Int) > 20000
  · rw [if_pos hs]
  · rw [if_neg hs, hL, Option.bind_some, hM, Option.bind_some, if_pos he]
    exact cuts_l0 a0 (cutS a1) hc16 L M hl hm gL gM (cnt (cutS a1)) 100 0 (by omega) (by omega)
end Go.Proofs.Ytgpldjckohlkfaa.Pure
