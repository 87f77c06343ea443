/- Layer 22's plain laws: what Apply, All and the document's Apply answer. -/
import Derived.Test.YtaejdmhgfkokdaaPutLaw
import Derived.Test.YtaejdmhgfkokdaaOpnT
import Derived.Lib.Strings
import Derived.WideShapes
namespace Go.Proofs.Ytaejdmhgfkokdaa.Pure
open Go.RowKit Go.Proofs.Ytaejdmhgfkokdaa.P Go.Proofs.YtaejdmhgfkokdaaW.PrintWords Go.Proofs.YtaejdmhgfkokdaaW.PrintLast Go.Proofs.YtaejdmhgfkokdaaW.PrintMore
set_option linter.unusedVariables false

abbrev D (s : ByteArray) : List UInt8 := s.data.toList
theorem D_size (s : ByteArray) : (D s).length = s.size := Array.length_toList
theorem D_append (a b : ByteArray) : D (a ++ b) = D a ++ D b := by
  show (a ++ b).data.toList = a.data.toList ++ b.data.toList
  rw [ByteArray.data_append, Array.toList_append]
theorem u64_wrap (n : Int) : IntKind.u64.wrap n = n % 18446744073709551616 := by simp [IntKind.wrap, IntKind.bits, IntKind.signed]
theorem D_extract (s : ByteArray) (a b : Nat) : D (s.extract a b) = ((D s).drop a).take (b - a) := Lib.extract_data s a b
theorem D_inj {a b : ByteArray} (h : D a = D b) : a = b := WideShapes.bytes_inj h
theorem D_to_end (s : ByteArray) (a : Nat) : D (s.extract a s.size) = (D s).drop a := by
  rw [D_extract, List.take_of_length_le (by rw [List.length_drop, D_size]; omega)]
/-- A message's head: who sent it, the length. -/
def hdr (f : Int) (n : Nat) : ByteArray := strOfNums [f % 256, (n : Int) / 256 % 256, (n : Int) % 256]
theorem hdr_size (f : Int) (n : Nat) : (hdr f n).size = 3 := by simp [hdr, strOfNums_size]
def cut (d : ByteArray) : ByteArray := d.extract 0 65535
theorem cut_size (d : ByteArray) : (cut d).size = min 65535 d.size := by simp [cut, ByteArray.size_extract]
theorem cut_short {d : ByteArray} (h : d.size ≤ 65535) : cut d = d := by
  apply D_inj
  rw [cut, D_extract, List.drop_zero, List.take_of_length_le (by rw [D_size]; omega)]
def entry (f : Int) (d : ByteArray) : ByteArray := hdr f (cut d).size ++ cut d
theorem entry_size (f : Int) (d : ByteArray) : (entry f d).size = 3 + min 65535 d.size := by rw [entry, ByteArray.size_append, hdr_size, cut_size]
/-- A state, a message. -/
def app (s : ByteArray) (f : Int) (d : ByteArray) : ByteArray := (s ++ entry f d).extract ((s ++ entry f d).size - 4096) (s ++ entry f d).size
theorem app_size (s : ByteArray) (f : Int) (d : ByteArray) : (app s f d).size = min 4096 (s.size + 3 + min 65535 d.size) := by
  rw [app, ByteArray.size_extract, ByteArray.size_append, entry_size]
  omega
theorem put2 (v : Int) : putL v 2 = [v / 256 % 256, v % 256] := by
  simp [putL, byteAt, List.range_succ]
theorem entry_is (k : Nat) (hk : 9 ≤ k) (f : Int) (d : ByteArray) (hd : d.size ≤ 140737488351232) : fold_entry.f k f d = some (entry f d) := by
  unfold fold_entry.f
  have em : mn (d.size : Int) 65535 = ((min 65535 d.size : Nat) : Int) := by unfold mn; split <;> omega
  have ex : d.extract 0 (((min 65535 d.size : Nat) : Int)).toNat = cut d := by
    apply D_inj
    rw [D_extract, cut, D_extract, Int.toNat_natCast, Nat.sub_zero, Nat.sub_zero, List.drop_zero]
    rcases Nat.le_total d.size 65535 with h | h
    · rw [List.take_of_length_le (by rw [D_size]; omega), List.take_of_length_le (by rw [D_size]; omega)]
    · rw [show min 65535 d.size = 65535 by omega]
  rw [em, ex, if_pos (by omega), if_pos (by omega), put_is k hk _ _ _ (by rw [List.length_singleton]; omega), Option.bind_some]
  have ew : IntKind.u64.wrap ((cut d).size : Int) = ((cut d).size : Int) := by
    have := cut_size d
    rw [u64_wrap]
    omega
  have eh : strOfNums ([f % 256] ++ putL (IntKind.u64.wrap ((cut d).size : Int)) (min (2 : Int) 8).toNat) = hdr f (cut d).size := by
    rw [ew, show (min (2 : Int) 8).toNat = 2 from rfl, put2]; rfl
  rw [eh, if_pos (by rw [hdr_size, cut_size]; omega)]
  rfl
theorem apply_is (k : Nat) (hk : 9 ≤ k) (s : ByteArray) (f : Int) (d : ByteArray) (hs : s.size ≤ 281474976702464) (hd : d.size ≤ 140737488351232) : fold_Apply.f k s f d = some (app s f d) := by
  unfold fold_Apply.f
  rw [entry_is k hk f d hd, Option.bind_some]
  have he := entry_size f d
  have ha : (s ++ entry f d).size = s.size + (entry f d).size := ByteArray.size_append
  rw [if_pos (by omega)]
  have em : mx 0 (wrap64 (((s ++ entry f d).size : Int) - 4096)) = (((s ++ entry f d).size - 4096 : Nat) : Int) := by
    rw [wrap_in (by omega) (by omega)]; unfold mx; split <;> omega
  rw [em, if_pos (by omega), if_pos (by omega), Int.toNat_natCast, app]
theorem ref_is (s : ByteArray) (f : Int) (d : ByteArray) (hs : s.size ≤ 281474976702464) (hd : d.size ≤ 140737488351232) : consortref22_Apply.f s f d = some (app s f d) := by
  have key : ∀ (c : ByteArray) (y : List Int), c = cut d → y = [f % 256, ((cut d).size : Int) / 256 % 256, ((cut d).size : Int) % 256] →
      (if s.size + (strOfNums y).size ≤ 9223372036854775807 then (if (s ++ (strOfNums y)).size + c.size ≤ 9223372036854775807 then (if (((s ++ (strOfNums y)) ++ c).size : Int) > 4096 then (if 0 ≤ (wrap64 ((((s ++ (strOfNums y)) ++ c).size : Int) - 4096)) then (if (wrap64 ((((s ++ (strOfNums y)) ++ c).size : Int) - 4096)) ≤ (((s ++ (strOfNums y)) ++ c).size : Int) then (some (((s ++ (strOfNums y)) ++ c).extract ((wrap64 ((((s ++ (strOfNums y)) ++ c).size : Int) - 4096)) : Int).toNat ((s ++ (strOfNums y)) ++ c).size)) else (none)) else (none)) else (some ((s ++ (strOfNums y)) ++ c))) else (none)) else (none)) = some (app s f d) := by
    rintro c y rfl rfl
    have eh : strOfNums [f % 256, ((cut d).size : Int) / 256 % 256, ((cut d).size : Int) % 256] = hdr f (cut d).size := rfl
    have e1 := hdr_size f (cut d).size
    have e2 := cut_size d
    have e3 : (s ++ hdr f (cut d).size).size = s.size + (hdr f (cut d).size).size := ByteArray.size_append
    have e4 : s ++ hdr f (cut d).size ++ cut d = s ++ entry f d := by rw [entry, ByteArray.append_assoc]
    have e5 : (s ++ entry f d).size = s.size + (entry f d).size := ByteArray.size_append
    have e6 := entry_size f d
    rw [eh, if_pos (by omega), if_pos (by omega), e4]
    by_cases h : ((s ++ entry f d).size : Int) > 4096
    · have ew : wrap64 (((s ++ entry f d).size : Int) - 4096) = (((s ++ entry f d).size - 4096 : Nat) : Int) := by rw [wrap_in (by omega) (by omega)]; omega
      rw [if_pos h, ew, if_pos (by omega), if_pos (by omega), Int.toNat_natCast, app]
    · rw [if_neg h]
      refine congrArg some (D_inj ?_)
      rw [app, D_to_end, show (s ++ entry f d).size - 4096 = 0 by omega, List.drop_zero]
  have hw : Int.tmod (IntKind.u64.wrap f) 256 % 256 = f % 256 := by
    have h0 : 0 ≤ IntKind.u64.wrap f := by rw [u64_wrap]; omega
    rw [Int.tmod_eq_emod_of_nonneg h0, u64_wrap]
    omega
  unfold consortref22_Apply.f
  have e2 := cut_size d
  by_cases h : (d.size : Int) > 65535
  · rw [if_pos h, if_pos (by omega), if_pos (by omega), Option.bind_some]
    have ez : ((cut d).size : Int) = 65535 := by omega
    rw [show d.extract 0 65535 = cut d from rfl]
    refine key _ _ rfl ?_
    rw [hw, wrap_in (by omega) (by omega)]
  · rw [if_neg h, Option.bind_some]
    have ec : cut d = d := cut_short (by omega)
    refine key _ _ ec.symm ?_
    rw [hw, wrap_in (by omega) (by omega), ec]
/-- A state, some messages. -/
def steps (s : ByteArray) (l : List S27) : ByteArray := l.foldl (fun s x => app s x.f0 x.f1) s
theorem steps_cons (s : ByteArray) (x : S27) (l : List S27) : steps s (x :: l) = steps (app s x.f0 x.f1) l := by rw [steps, steps, List.foldl_cons]
theorem steps_size {s : ByteArray} {l : List S27} (hs : s.size ≤ 281474976702464) : (steps s l).size ≤ 281474976702464 := by
  induction l generalizing s with
  | nil => exact hs
  | cons x l ih => rw [steps_cons]; exact ih (by rw [app_size]; omega)
theorem getD_drop {l : List S27} {i : Nat} (h : i < l.length) : l.drop i = rd_T27 l (i : Int) :: l.drop (i + 1) := by
  rw [List.drop_eq_getElem_cons h]
  simp [rd_T27, List.getD_eq_getElem?_getD, h]
theorem rd_mem {l : List S27} {i : Nat} (h : i < l.length) : rd_T27 l (i : Int) ∈ l := by
  have : rd_T27 l (i : Int) = l[i] := by simp [rd_T27, List.getD_eq_getElem?_getD, h]
  rw [this]
  exact List.getElem_mem h
theorem all_loop (l : List S27) (hm : l.length ≤ maxLen) (hw : ∀ a ∈ l, wf27 a) : ∀ (d k i : Nat) (s : ByteArray), i + d = l.length → d + 9 < k → s.size ≤ 281474976702464 →
    fold_All.l0 k s l (l.length : Int) (i : Int) = some (steps s (l.drop i)) := by
  simp only [maxLen] at hm
  intro d
  induction d with
  | zero =>
    intro k i s hd hk hs
    obtain ⟨k, rfl⟩ : ∃ m, k = m + 1 := ⟨k - 1, by omega⟩
    simp only [fold_All.l0]
    rw [if_neg (by omega), List.drop_eq_nil_of_le (by omega)]
    rfl
  | succ d ih =>
    intro k i s hd hk hs
    obtain ⟨k, rfl⟩ : ∃ m, k = m + 1 := ⟨k - 1, by omega⟩
    simp only [fold_All.l0]
    have hi : i < l.length := by omega
    have hf := (hw _ (rd_mem hi)).2
    rw [if_pos (by omega), if_pos (by omega), if_pos (by omega), apply_is k (by omega) _ _ _ hs hf, Option.bind_some]
    have e4 : wrap64 ((i : Int) + 1) = ((i + 1 : Nat) : Int) := by rw [wrap_in (by omega) (by omega)]; omega
    rw [e4, ih k (i + 1) _ (by omega) (by omega) (by rw [app_size]; omega), getD_drop hi, steps, steps, List.foldl_cons]
theorem all_is (k : Nat) (l : List S27) (hm : l.length ≤ maxLen) (hw : ∀ a ∈ l, wf27 a) (hk : l.length + 9 < k) (s : ByteArray) (hs : s.size ≤ 281474976702464) : fold_All.f k s l = some (steps s l) := by
  have h := all_loop l hm hw l.length k 0 s (by omega) hk hs
  rw [List.drop_zero] at h
  exact h
theorem few_is (l : List S27) (hm : l.length ≤ maxLen) : ∀ (d k i : Nat) (n : Int), i + d = l.length → d < k → ∃ b, consortlaw22_few.l0 k l n (i : Int) = some b := by
  simp only [maxLen] at hm
  intro d
  induction d with
  | zero =>
    intro k i n hd hk
    obtain ⟨k, rfl⟩ : ∃ m, k = m + 1 := ⟨k - 1, by omega⟩
    simp only [consortlaw22_few.l0]
    rw [if_neg (by omega)]
    exact ⟨_, rfl⟩
  | succ d ih =>
    intro k i n hd hk
    obtain ⟨k, rfl⟩ : ∃ m, k = m + 1 := ⟨k - 1, by omega⟩
    simp only [consortlaw22_few.l0]
    have e4 : wrap64 ((i : Int) + 1) = ((i + 1 : Nat) : Int) := by rw [wrap_in (by omega) (by omega)]; omega
    rw [if_pos (by omega), if_pos (by omega), e4]
    split
    · exact ⟨_, rfl⟩
    · split
      · exact ⟨_, rfl⟩
      · exact ih k (i + 1) _ (by omega) (by omega)
theorem awake_is (k : Nat) (hk : 20 ≤ k) : consortlaw22_awake.f k = some true := by
  unfold consortlaw22_awake.f
  rw [apply_is k (by omega) _ _ _ (by decide) (by decide), Option.bind_some]
  rw [if_pos (by rw [ByteArray.toList_eq]; decide +kernel), all_is k [] (by simp) (by simp) (by simp; omega) _ (by decide), Option.bind_some]
  rw [ByteArray.toList_eq]
  rfl
end Go.Proofs.Ytaejdmhgfkokdaa.Pure
