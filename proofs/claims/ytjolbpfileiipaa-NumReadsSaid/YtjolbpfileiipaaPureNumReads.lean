/- Every row of a reader's calls is answered just as the document says; where bytes lack it gives up, and goes nowhere. -/
import Derived.Test.YtjolbpfileiipaaStaNumReads
import Derived.Test.YtjolbpfileiipaaNumLaw
namespace Go.Proofs.Ytjolbpfileiipaa.Pure
open Go.RowKit Go.Proofs.Ytjolbpfileiipaa.P Go.Proofs.YtjolbpfileiipaaW.PrintWords Go.Proofs.YtjolbpfileiipaaW.PrintLast Go.Proofs.YtjolbpfileiipaaW.PrintMore
set_option linter.unusedVariables false

theorem refsize_is (n : Int) : consortref01_size.f n = some (((min n 8).toNat : Nat) : Int) := by
  unfold consortref01_size.f
  by_cases h1 : n < 0
  · rw [if_pos h1]; congr 1; omega
  · rw [if_neg h1]
    by_cases h2 : n > 8
    · rw [if_pos h2]; congr 1; omega
    · rw [if_neg h2]; congr 1; omega
theorem size8 (n : Int) : (min n 8).toNat ≤ 8 := by omega
/-- The next m bytes at a place, if there are so many. -/
theorem text_good (s : ByteArray) (a m : Nat) (n : Int) (hn : n ≤ 9223372036854775807) (hs : s.size ≤ 20000) (hm : max n 0 = m) (hle : a + m ≤ s.size) :
    num_Reader_Text.f s a n = some (s.extract a (a + m), s, ((a + m : Nat) : Int)) := by
  unfold num_Reader_Text.f num_Reader_Left.f mx
  have e0 : (if n < 0 then 0 else n) = (m : Int) := by split <;> omega
  have e1 : wrap64 ((s.size : Int) - a) = (s.size : Int) - a := wrap_in (by omega) (by omega)
  have e2 : wrap64 ((a : Int) + m) = ((a + m : Nat) : Int) := by rw [wrap_in (by omega) (by omega)]; omega
  simp only [Option.bind_some, e0, e1, e2]
  rw [if_neg (by omega), if_pos (by omega), if_pos (by omega), if_pos (by omega), Int.toNat_natCast, Int.toNat_natCast]
theorem reftext_good (s : ByteArray) (a m : Nat) (n : Int) (hn : n ≤ 9223372036854775807) (hs : s.size ≤ 20000) (hm : max n 0 = m) (hle : a + m ≤ s.size) :
    consortref01_Text.f s a n = some (s.extract a (a + m), ((a + m : Nat) : Int), true) := by
  unfold consortref01_Text.f
  have e1 : wrap64 ((s.size : Int) - a) = (s.size : Int) - a := wrap_in (by omega) (by omega)
  rw [e1]
  by_cases h : n < 0
  · obtain rfl : m = 0 := by omega
    have e2 : wrap64 ((a : Int) + 0) = ((a + 0 : Nat) : Int) := by rw [wrap_in (by omega) (by omega)]; omega
    rw [if_pos h, if_neg (by omega), if_pos (by omega), e2, if_pos (by omega), if_pos (by omega), Int.toNat_natCast, Int.toNat_natCast]
  · obtain rfl : n = (m : Int) := by omega
    have e2 : wrap64 ((a : Int) + m) = ((a + m : Nat) : Int) := by rw [wrap_in (by omega) (by omega)]; omega
    rw [if_neg h, if_neg (by omega), if_pos (by omega), e2, if_pos (by omega), if_pos (by omega), Int.toNat_natCast, Int.toNat_natCast]
theorem reftext_bad (s : ByteArray) (a : Nat) (n : Int) (hs : s.size ≤ 20000) (ha : a ≤ s.size) (hlt : (s.size : Int) - a < max n 0) :
    consortref01_Text.f s a n = some (⟨#[]⟩, (a : Int), false) := by
  unfold consortref01_Text.f
  have e1 : wrap64 ((s.size : Int) - a) = (s.size : Int) - a := wrap_in (by omega) (by omega)
  rw [e1, if_neg (by omega), if_pos (by omega)]
theorem extract_size (s : ByteArray) (a m : Nat) (hle : a + m ≤ s.size) : (s.extract a (a + m)).size = m := by rw [ByteArray.size_extract]; omega
theorem getR0 (t : ByteArray) (h8 : t.size ≤ 8) : ∃ b, getR t 0 (t.size : Int) = ((valN (D t) : Int), b) := by
  unfold getR
  by_cases h : t.size = 0
  · rw [if_neg (by omega)]
    refine ⟨false, ?_⟩
    have : D t = [] := List.eq_nil_of_length_eq_zero (by rw [D_size]; exact h)
    rw [this]
    rfl
  · rw [if_pos (by omega)]
    exact ⟨true, by rw [Int.toNat_zero, List.drop_zero, Int.toNat_natCast, ← D_size, List.take_length]⟩
theorem refnum_good (k : Nat) (hk : 12 ≤ k) (s : ByteArray) (a : Nat) (n : Int) (hs : s.size ≤ 20000) (hle : a + (min n 8).toNat ≤ s.size) :
    consortref01_Num.f k s a n = some ((valN (D (s.extract a (a + (min n 8).toNat))) : Int), ((a + (min n 8).toNat : Nat) : Int), true) := by
  unfold consortref01_Num.f
  have h8 := size8 n
  have hz := extract_size s a _ hle
  obtain ⟨b, hb⟩ := getR0 (s.extract a (a + (min n 8).toNat)) (by omega)
  rw [refsize_is, Option.bind_some, reftext_good s a _ _ (by omega) hs (by omega) hle, Option.bind_some]
  simp only []
  rw [refget_is k hk _ _ _ (by omega), Option.bind_some, hb]
theorem refnum_bad (k : Nat) (hk : 12 ≤ k) (s : ByteArray) (a : Nat) (n : Int) (hs : s.size ≤ 20000) (ha : a ≤ s.size) (hlt : s.size < a + (min n 8).toNat) :
    ∃ v, consortref01_Num.f k s a n = some (v, (a : Int), false) := by
  unfold consortref01_Num.f
  have hz : (⟨#[]⟩ : ByteArray).size = 0 := rfl
  rw [refsize_is, Option.bind_some, reftext_bad s a _ hs ha (by omega), Option.bind_some]
  simp only []
  rw [refget_is k hk _ _ _ (by omega), Option.bind_some]
  exact ⟨_, rfl⟩
theorem num_good (s : ByteArray) (a : Nat) (n : Int) (hs : s.size ≤ 20000) (hle : a + (min n 8).toNat ≤ s.size) :
    num_Reader_Num.f s a n = some ((valN (D (s.extract a (a + (min n 8).toNat))) : Int), s, ((a + (min n 8).toNat : Nat) : Int)) := by
  unfold num_Reader_Num.f
  have h8 := size8 n
  have hz := extract_size s a _ hle
  rw [size_is, Option.bind_some, text_good s a _ _ (by omega) hs (by omega) hle, Option.bind_some]
  simp only []
  rw [value_is _ (by omega), Option.bind_some]
theorem left_is (s : ByteArray) (a : Nat) (hs : s.size ≤ 20000) (ha : a ≤ s.size) : num_Reader_Left.f s a = some ((s.size : Int) - a, s, (a : Int)) := by
  unfold num_Reader_Left.f
  rw [wrap_in (by omega) (by omega)]
theorem mx_eq (n : Int) : mx n 0 = max n 0 := by unfold mx; split <;> omega
theorem mxmn_eq (n : Int) : mx 0 (mn n 8) = (((min n 8).toNat : Nat) : Int) := by unfold mx mn; (repeat' split) <;> omega
theorem once_text_good (s : ByteArray) (a m : Nat) (n : Int) (hn : n ≤ 9223372036854775807) (hs : s.size ≤ 20000) (hm : max n 0 = m) (hle : a + m ≤ s.size) :
    consortlaw01_once.f s a true n = some (0, s.extract a (a + m), true, s, ((a + m : Nat) : Int)) := by
  unfold consortlaw01_once.f
  rw [left_is s a hs (by omega), Option.bind_some, if_pos rfl]
  simp only []
  rw [mx_eq, if_neg (by omega), text_good s a m n hn hs hm hle, Option.bind_some]
theorem once_text_bad (s : ByteArray) (a : Nat) (n : Int) (hs : s.size ≤ 20000) (ha : a ≤ s.size) (hlt : (s.size : Int) - a < max n 0) :
    consortlaw01_once.f s a true n = some (0, ⟨#[]⟩, false, s, (a : Int)) := by
  unfold consortlaw01_once.f
  rw [left_is s a hs (by omega), Option.bind_some, if_pos rfl]
  simp only []
  rw [mx_eq, if_pos hlt]
theorem once_num_good (s : ByteArray) (a : Nat) (n : Int) (hs : s.size ≤ 20000) (hle : a + (min n 8).toNat ≤ s.size) :
    consortlaw01_once.f s a false n = some ((valN (D (s.extract a (a + (min n 8).toNat))) : Int), ⟨#[]⟩, true, s, ((a + (min n 8).toNat : Nat) : Int)) := by
  unfold consortlaw01_once.f
  rw [left_is s a hs (by omega), Option.bind_some, if_neg (by simp)]
  simp only []
  rw [mxmn_eq, if_neg (by omega), num_good s a n hs hle, Option.bind_some]
theorem once_num_bad (s : ByteArray) (a : Nat) (n : Int) (hs : s.size ≤ 20000) (ha : a ≤ s.size) (hlt : s.size < a + (min n 8).toNat) :
    consortlaw01_once.f s a false n = some (0, ⟨#[]⟩, false, s, (a : Int)) := by
  unfold consortlaw01_once.f
  rw [left_is s a hs (by omega), Option.bind_some, if_neg (by simp)]
  simp only []
  rw [mxmn_eq, if_pos (by omega)]
/-- Behind a round. -/
theorem reads_j3 (s : ByteArray) (l : List S39) (hs : s.size ≤ 20000) (hl : l.length ≤ 300) (k i a : Nat) (ha : a ≤ s.size) (hi : i < l.length) (h : consortlaw01_NumReads.l0 k s l a ((i + 1 : Nat) : Int) s a = some true) :
    consortlaw01_NumReads.j3 (k + 1) s l i a false s a = some true := by
  simp only [consortlaw01_NumReads.j3]
  have e : wrap64 ((i : Int) + 1) = ((i + 1 : Nat) : Int) := by rw [wrap_in (by omega) (by omega)]; omega
  have e1 : wrap64 ((s.size : Int) - a) = (s.size : Int) - a := wrap_in (by omega) (by omega)
  rw [if_neg (by simp)]
  unfold num_Reader_At.f
  rw [Option.bind_some]
  simp only []
  rw [if_pos trivial, left_is s a hs ha, Option.bind_some]
  simp only []
  rw [e1, if_pos rfl, e]
  exact h
theorem reads_loop (s : ByteArray) (l : List S39) (hs : s.size ≤ 20000) (hl : l.length ≤ 300) (hw : ∀ x ∈ l, wf39 x) : ∀ (d k i a : Nat), i + d = l.length → 3 * d + 20 ≤ k → a ≤ s.size →
    consortlaw01_NumReads.l0 k s l a i s a = some true := by
  intro d
  induction d with
  | zero =>
    intro k i a hd hk ha
    obtain ⟨k, rfl⟩ : ∃ m, k = m + 1 := ⟨k - 1, by omega⟩
    simp only [consortlaw01_NumReads.l0]
    rw [if_neg (by omega)]
  | succ d ih =>
    intro k i a hd hk ha
    obtain ⟨k, rfl⟩ : ∃ m, k = m + 1 + 1 + 1 := ⟨k - 3, by omega⟩
    have hx : rd_T39 l (i : Int) ∈ l := by
      unfold rd_T39
      rw [Int.toNat_natCast, List.getD_eq_getElem?_getD, List.getElem?_eq_getElem (by omega), Option.getD_some]
      exact List.getElem_mem _
    have hwx := hw _ hx
    have hn : -9223372036854775808 ≤ (rd_T39 l (i : Int)).f1 ∧ (rd_T39 l (i : Int)).f1 ≤ 9223372036854775807 := wf_i64 hwx.2
    simp only [consortlaw01_NumReads.l0]
    rw [if_pos (by omega), if_pos (by omega)]
    generalize rd_T39 l (i : Int) = x at hn ⊢
    have hj : ∀ a', a' ≤ s.size → consortlaw01_NumReads.j3 (k + 1) s l i a' false s a' = some true := fun a' ha' => reads_j3 s l hs hl k i a' ha' (by omega) (ih k (i + 1) a' (by omega) (by omega) ha')
    cases hx0 : x.f0 with
    | true =>
      by_cases hc : (s.size : Int) - a < max x.f1 0
      · rw [once_text_bad s a _ hs ha hc, Option.bind_some, if_pos rfl, reftext_bad s a _ hs ha hc, Option.bind_some]
        simp only [consortlaw01_NumReads.j2]
        rw [if_neg (by simp), if_neg (by simp)]
        exact hj a ha
      · have hm : max x.f1 0 = (((max x.f1 0).toNat : Nat) : Int) := by omega
        generalize (max x.f1 0).toNat = m at hm
        rw [once_text_good s a m _ hn.2 hs hm (by omega), Option.bind_some, if_pos rfl, reftext_good s a m _ hn.2 hs hm (by omega), Option.bind_some]
        simp only [consortlaw01_NumReads.j2]
        rw [if_neg (by simp), if_pos trivial, if_pos trivial, bne_self_eq_false]
        exact hj (a + m) (by omega)
    | false =>
      by_cases hc : s.size < a + (min x.f1 8).toNat
      · obtain ⟨v, hv⟩ := refnum_bad (k + 1 + 1) (by omega) s a x.f1 hs ha hc
        rw [once_num_bad s a _ hs ha hc, Option.bind_some, if_neg (by simp), hv, Option.bind_some]
        simp only [consortlaw01_NumReads.j2]
        rw [if_neg (by simp), if_neg (by simp)]
        exact hj a ha
      · rw [once_num_good s a _ hs (by omega), Option.bind_some, if_neg (by simp), refnum_good (k + 1 + 1) (by omega) s a _ hs (by omega), Option.bind_some]
        simp only [consortlaw01_NumReads.j2]
        rw [if_neg (by simp), if_pos trivial, if_pos trivial, bne_self_eq_false]
        exact hj _ (by omega)
theorem NumReads : consortlaw01_NumReads.Pure := by
  intro s l hs hl
  refine ⟨1000, ?_⟩
  unfold consortlaw01_NumReads.f
  rw [awake_is _ (by omega), Option.bind_some, if_pos rfl]
  by_cases h : (s.size : Int) > 20000
  · rw [if_pos h]
    simp only [consortlaw01_NumReads.j0]
    rw [if_pos trivial]
  · rw [if_neg h]
    by_cases h2 : (l.length : Int) > 300
    · rw [decide_eq_true h2]
      simp only [consortlaw01_NumReads.j0]
      rw [if_pos trivial]
    · rw [decide_eq_false h2]
      simp only [consortlaw01_NumReads.j0]
      rw [if_neg (by simp)]
      unfold num_New.f
      rw [Option.bind_some]
      exact reads_loop s l (by omega) (by omega) hl.2.2 l.length 999 0 0 (by omega) (by omega) (by omega)
end Go.Proofs.Ytjolbpfileiipaa.Pure
