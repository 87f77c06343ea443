/- NumPuts' walk, by hand. -/
import Derived.Test.YtjolbpfileiipaaNumPutL
import Derived.Test.YtjolbpfileiipaaHandPa
import Derived.Lib.Hide
import Derived.Outline
import Derived.RegionCalls
import Derived.Deep.RegionWith
namespace Go.Proofs.Ytjolbpfileiipaa.P
open Go.RowKit Go.Proofs.YtjolbpfileiipaaW.PrintWords Go.Proofs.YtjolbpfileiipaaW.PrintLast Go.Proofs.YtjolbpfileiipaaW.PrintMore
attribute [local go_sem] max2_int min2_int max_two min_two max_three min_three max_four min_four
set_option linter.unusedVariables false
set_option linter.unusedSimpArgs false

theorem append_event {P : Program} {ops : Array Oper} {rest : List Oper} {o : Oper} {a : Act} {Q : Exit → Act → World → Prop} {W W1 : World} (hgd : o.guard = none) (s x : Operand) (t : TypeId)
    (ho : o.op = .call { callee := .builtin .append, args := #[s, x], argTypes := #[t, t] }) {v u r : Value} (hs : a.eval s = v) (hx : a.eval x = u) (hr : (Builtin.append_ #[t, t] o.type #[v, u]).run P W = .ok r W1)
    (h : wpList P ops Q rest (a.put o.dst r) W1) : wpList P ops Q (o :: rest) a W := by
  refine Kd.event_run hgd ?_ h
  unfold execOp
  simp only [ho, resolve, invoke, builtin, Sem.run_bind, Sem.run_pure, Result.andThen_ok, List.map_toArray, List.map_cons, List.map_nil, hs, hx, hr]
theorem C8_below {w W : World} {A : Option Addr} {n : Nat} {l : List Int} (h : Kd.C (Kd.int .u8) w A n l) (hb : Below w.heap.size w W) : Kd.C (Kd.int .u8) W A n l :=
  ⟨h.1, h.2.1, fun hn => by
    obtain ⟨ad, e, hc⟩ := h.2.2 hn
    refine ⟨ad, e, fun j p hj => ?_⟩
    obtain ⟨cs, hl, hK, hcs⟩ := hc j p hj
    exact ⟨cs, hl, hK, fun i u hu => pw_cell_below hb (hcs i u hu)⟩⟩
def consortlaw01_NumPuts.f (l : List Int) (a1 a2 : Int) : Option Bool := if 0 ≤ a1 ∧ a1 ≤ 18446744073709551615 then some true else none
set_option maxHeartbeats 8000000 in
set_option maxRecDepth 100000 in
theorem consortlaw01_NumPuts.calls (A0 : Option Addr) (c0 : Nat) (l : List Int) (a1 a2 : Int) (w : World) (hr0 : Kd.C (Kd.int .u8) w A0 l.length l) (hc0 : l.length ≤ c0) (h : consortlaw01_NumPuts.f l a1 a2 = some true) :
    Calls Try.prog 3 #[.slice A0 l.length c0, .int .u64 a1, .int .i64 a2] w fun e w' => e = .returned (.bool true) ∧ Below w.heap.size w w' := by
  unfold consortlaw01_NumPuts.f at h
  by_cases hb : 0 ≤ a1 ∧ a1 ≤ 18446744073709551615
  rotate_left
  · rw [if_neg hb] at h
    cases h
  clear h
  have HA := Aside0.mk (Pure.awake_is 20 (by omega))
  go_enter Try.func3, Try.ntmps3
  by_cases d0 : 20000 < (l.length : Int)
  · have b0 : decide (20000 < (l.length : Int)) = true := decide_eq_true d0
    clear hb d0
    go_wp2_with (go_at_call 8; (with_reducible refine (consortlaw01_awake.calls 20 true _ HA.out).mono ?_); rintro e w1 ⟨rfl, hb⟩; have HB := Aside0.mk hb; clear hb)
    go_ret
    exact ⟨rfl, HB.out⟩
  have b0 : decide (20000 < (l.length : Int)) = false := decide_eq_false d0
  have HL := Aside0.mk (show l.length ≤ 20000 by omega)
  have hP := Pure.put_is 9 (by omega) l a1 a2 (by omega)
  have hR := Pure.refput_is 9 (by omega) (strOfNums l) a1 a2 hb.1 hb.2 (by rw [strOfNums_size]; omega)
  rw [← Pure.D_strOfNums_append, Pure.strOfNums_bytesOf, Pure.D_strOfNums_append] at hR
  obtain ⟨G, hG⟩ : ∃ G, G = l ++ Pure.putL a1 (min a2 8).toNat := ⟨_, rfl⟩
  rw [← hG] at hP hR
  have HGL := Aside0.mk (show G.length ≤ 20008 by rw [hG, List.length_append, Pure.putL_length]; omega)
  obtain ⟨N, hN⟩ : ∃ N : Int, wrap64 ((l.length : Int) + 16) = N := ⟨_, rfl⟩
  have hN2 : N = ((l.length + 16 : Nat) : Int) := by rw [← hN]; unfold wrap64; omega
  obtain ⟨i5, hi5, hzz⟩ := Option.map_eq_some_iff.1 info5
  simp only [Prod.mk.injEq] at hzz
  obtain ⟨hi5z, hi5s, hi5b⟩ := hzz
  have hmk := fun W => make_room (P := Try.prog) W 22 5 _ Try.underlying22 hi5 hi5z hi5b hi5s (l.length + 16) (by omega)
  have HI5 := Aside0.mk (show Try.prog.info? 5 = some i5 ∧ i5.size = 1 from ⟨hi5, hi5s⟩)
  rw [← hN2] at hmk
  have HN := Aside0.mk hN2
  have HP := Aside0.mk hP
  have HR := Aside0.mk hR
  have HC0 := Aside0.mk hr0
  have HCC := Aside0.mk hc0
  clear hP hR hG hN2 d0 hb hr0 hc0 hi5 hi5z hi5b hi5s
  go_upto_region 7 with (first | (go_at_call 8; (with_reducible refine (consortlaw01_awake.calls 20 true _ HA.out).mono ?_); rintro e w1 ⟨rfl, hb⟩; have HB := Aside0.mk hb; clear hb) | ((with_reducible refine gate_builtin (b := .append) (xs := #[.tmp 20, .tmp 21]) rfl ?_); at_builtin; obtain ⟨w2, hap, hg2, hb2⟩ := append_room (P := Try.prog) w (w1.alloc (.cells (roomCells [] (l.length + 16)).toArray 5)) 22 22 5 _ Try.underlying22 HI5.out.1 HI5.out.2 w1.heap.size 16 A0 c0 l HC0.out (below_alloc HB.out _) (heap_alloc_new w1 _) HB.out.size; refine append_event rfl (.tmp 20) (.tmp 21) 22 rfl rfl rfl hap ?_; have HM2 := Aside0.mk hg2; have HB2 := Aside0.mk hb2; clear hap hg2 hb2) | (go_at_call 9; (with_reducible refine (num_Put.calls 9 (some ⟨w1.heap.size, 0, none⟩) (l.length + 16) l a1 a2 G _ (room_C HM2.out (by have := HL.out; omega)) (by omega) HP.out).mono ?_); rintro e w3 ⟨v0, rfl, ho, hb⟩; obtain ⟨A2, c2, rfl⟩ := Kd.R_slice ho; have HO3 := Aside0.mk ho; have HX3 := Aside0.mk hb; have HB3 := Aside0.mk (below_step HB2.out hb); clear ho hb))
  have HM3 := Aside0.mk ((HX3.out.block _ (blk_lt HM2.out)).trans HM2.out)
  have HD3 := Aside0.mk (C8_below HC0.out HB3.out)
  have HCO := Aside0.mk (show l.length ≤ 1000000 by have := HL.out; omega)
  have CB := Aside0.mk (fun W (hW : Below w3.heap.size w3 W) => Kd.C_string (P := Try.prog) (c := c0) Try.underlying22 Try.underlying5 Try.underlying9 (C8_below HD3.out hW))
  have CM := Aside0.mk (fun W (hW : Below w3.heap.size w3 W) => Kd.C_string (P := Try.prog) (c := l.length + 16) Try.underlying22 Try.underlying5 Try.underlying9 (C8_below (room_C HM3.out HCO.out) hW))
  have CG := Aside0.mk (fun W (hW : Below w3.heap.size w3 W) => Kd.C_string (P := Try.prog) (c := c2) Try.underlying22 Try.underlying5 Try.underlying9 (C8_below (Kd.R_reads' HO3.out).2.2 hW))
  refine start_ (n := 15) (S := fun w' : World => (convert 22 9 (.slice A2 G.length c2)).run Try.prog w' = .ok (.string (strOfNums G)) w' ∧ (convert 22 9 (.slice A0 l.length c0)).run Try.prog w' = .ok (.string (strOfNums l)) w' ∧ (convert 22 9 (.slice (some ⟨w1.heap.size, 0, none⟩) l.length (l.length + 16))).run Try.prog w' = .ok (.string (strOfNums l)) w') (ds := []) #[false, false, false, false, false, false, false, false, false, false, false, false, false, false, false] (by kernel_rfl) rfl rfl ⟨CG.out _ (below_drew (Below.refl _ _)), CB.out _ (below_drew (Below.refl _ _)), CM.out _ (below_drew (Below.refl _ _))⟩ (fun hHeld => ?_)
  have HX4 := Aside0.mk (show Below w3.heap.size w3 w3.drew from below_drew (Below.refl _ _))
  have HB4 := Aside0.mk (below_step HB3.out HX4.out)
  generalize w3.drew = w4 at HX4 HB4 hHeld ⊢
  refine pure_ (i := 0) (N := some 27) (v := ?_) (a' := ?_) #[true, false, false, false, false, false, false, false, false, false, false, false, false, false, false] rfl rfl (by kernel_rfl) (fun _ _ _ h => h) (Or.inl ⟨by rfl, ?_⟩) ?_ ?_
  rotate_left
  · intro w'
    go_simp
    with_reducible rfl
  rotate_left
  · simp only [Act.put, List.setIfInBounds_toArray, List.set_cons_zero, List.set_cons_succ, i64_w, i32_w]
    rfl
  refine take_ (i := 1) (N := some 28) (v := ?_) (a' := ?_) #[true, true, false, false, false, false, false, false, false, false, false, false, false, false, false] rfl rfl (by kernel_rfl) (fun _ _ _ h => h) (Or.inl ⟨by rfl, ?_⟩) hHeld ?_ ?_
  rotate_left
  · rintro w' ⟨q1, q2, q3⟩
    go_simp
    with_reducible rfl
  rotate_left
  · simp only [Act.put, List.setIfInBounds_toArray, List.set_cons_zero, List.set_cons_succ, i64_w, i32_w]
    rfl
  refine pure_ (i := 2) (N := some 29) (v := ?_) (a' := ?_) #[true, true, true, false, false, false, false, false, false, false, false, false, false, false, false] rfl rfl (by kernel_rfl) (fun _ _ _ h => h) (Or.inl ⟨by rfl, ?_⟩) ?_ ?_
  rotate_left
  · intro w'
    go_simp
    with_reducible rfl
  rotate_left
  · simp only [Act.put, List.setIfInBounds_toArray, List.set_cons_zero, List.set_cons_succ, i64_w, i32_w]
    rfl
  refine take_ (i := 3) (N := some 30) (v := ?_) (a' := ?_) #[true, true, true, true, false, false, false, false, false, false, false, false, false, false, false] rfl rfl (by kernel_rfl) (fun _ _ _ h => h) (Or.inl ⟨by rfl, ?_⟩) hHeld ?_ ?_
  rotate_left
  · rintro w' ⟨q1, q2, q3⟩
    go_simp
    with_reducible rfl
  rotate_left
  · simp only [Act.put, List.setIfInBounds_toArray, List.set_cons_zero, List.set_cons_succ, i64_w, i32_w]
    rfl
  refine pure_ (i := 4) (N := some 31) (v := ?_) (a' := ?_) #[true, true, true, true, true, false, false, false, false, false, false, false, false, false, false] rfl rfl (by kernel_rfl) (fun _ _ _ h => h) (Or.inl ⟨by rfl, ?_⟩) ?_ ?_
  rotate_left
  · intro w'
    go_simp
    with_reducible rfl
  rotate_left
  · simp only [Act.put, List.setIfInBounds_toArray, List.set_cons_zero, List.set_cons_succ, i64_w, i32_w]
    rfl
  refine pure_ (i := 5) (N := some 32) (v := ?_) (a' := ?_) #[true, true, true, true, true, true, false, false, false, false, false, false, false, false, false] rfl rfl (by kernel_rfl) (fun _ _ _ h => h) (Or.inl ⟨by rfl, ?_⟩) ?_ ?_
  rotate_left
  · intro w'
    go_simp
    with_reducible rfl
  rotate_left
  · simp only [Act.put, List.setIfInBounds_toArray, List.set_cons_zero, List.set_cons_succ, i64_w, i32_w]
    rfl
  refine one_ (i := 6) (N := some 33) #[true, true, true, true, true, true, true, false, false, false, false, false, false, false, false] rfl rfl (by kernel_rfl) (by decide) (fun K hK => ?_)
  refine goes_ Try.func10 (by kernel_rfl) rfl #[.string (strOfNums l), .int .u64 a1, .int .i64 a2] (by rfl) rfl rfl (by (try simp only [List.map_toArray, List.map_cons, List.map_nil]); first | done | rfl) ?_
  with_reducible refine (consortref01_Put.calls 9 (strOfNums l) a1 a2 (strOfNums G) w4 HR.out).mono ?_
  rintro _ w5 ⟨rfl, hb⟩
  refine ⟨_, rfl, ?_⟩
  have HX5 := Aside0.mk (below_step HX4.out hb)
  have HB5 := Aside0.mk (below_step HB4.out hb)
  clear hb hHeld
  refine hK.out _ _ ⟨CG.out _ HX5.out, CB.out _ HX5.out, CM.out _ HX5.out⟩ (fun hHeld => ?_)
  clear hK K
  refine norm_ (a' := ?_) ?_ ?_
  rotate_left
  · show Act.put _ (some 33) _ = _
    simp only [Act.put, List.setIfInBounds_toArray, List.set_cons_zero, List.set_cons_succ, i64_w, i32_w]
    rfl
  refine pure_ (i := 7) (N := some 34) (v := ?_) (a' := ?_) #[true, true, true, true, true, true, true, true, false, false, false, false, false, false, false] rfl rfl (by kernel_rfl) (fun _ _ _ h => h) (Or.inl ⟨by rfl, ?_⟩) ?_ ?_
  rotate_left
  · intro w'
    go_simp
    with_reducible rfl
  rotate_left
  · simp only [Act.put, List.setIfInBounds_toArray, List.set_cons_zero, List.set_cons_succ, i64_w, i32_w]
    rfl
  refine pure_ (i := 8) (N := some 35) (v := ?_) (a' := ?_) #[true, true, true, true, true, true, true, true, true, false, false, false, false, false, false] rfl rfl (by kernel_rfl) (fun _ _ _ h => h) (Or.inl ⟨by rfl, ?_⟩) ?_ ?_
  rotate_left
  · intro w'
    go_simp
    with_reducible rfl
  rotate_left
  · simp only [Act.put, List.setIfInBounds_toArray, List.set_cons_zero, List.set_cons_succ, i64_w, i32_w]
    rfl
  refine pure_ (i := 9) (N := some 36) (v := ?_) (a' := ?_) #[true, true, true, true, true, true, true, true, true, true, false, false, false, false, false] rfl rfl (by kernel_rfl) (fun _ _ _ h => h) (Or.inl ⟨by rfl, ?_⟩) ?_ ?_
  rotate_left
  · intro w'
    go_simp
    with_reducible rfl
  rotate_left
  · simp only [Act.put, List.setIfInBounds_toArray, List.set_cons_zero, List.set_cons_succ, i64_w, i32_w]
    rfl
  refine take_ (i := 10) (N := some 37) (v := ?_) (a' := ?_) #[true, true, true, true, true, true, true, true, true, true, true, false, false, false, false] rfl rfl (by kernel_rfl) (fun _ _ _ h => h) (Or.inl ⟨by rfl, ?_⟩) hHeld ?_ ?_
  rotate_left
  · rintro w' ⟨q1, q2, q3⟩
    go_simp
    with_reducible rfl
  rotate_left
  · simp only [Act.put, List.setIfInBounds_toArray, List.set_cons_zero, List.set_cons_succ, i64_w, i32_w]
    rfl
  refine pure_ (i := 11) (N := some 38) (v := ?_) (a' := ?_) #[true, true, true, true, true, true, true, true, true, true, true, true, false, false, false] rfl rfl (by kernel_rfl) (fun _ _ _ h => h) (Or.inl ⟨by rfl, ?_⟩) ?_ ?_
  rotate_left
  · intro w'
    go_simp
    with_reducible rfl
  rotate_left
  · simp only [Act.put, List.setIfInBounds_toArray, List.set_cons_zero, List.set_cons_succ, i64_w, i32_w]
    rfl
  refine take_ (i := 12) (N := some 39) (v := ?_) (a' := ?_) #[true, true, true, true, true, true, true, true, true, true, true, true, true, false, false] rfl rfl (by kernel_rfl) (fun _ _ _ h => h) (Or.inl ⟨by rfl, ?_⟩) hHeld ?_ ?_
  rotate_left
  · rintro w' ⟨q1, q2, q3⟩
    go_simp
    with_reducible rfl
  rotate_left
  · simp only [Act.put, List.setIfInBounds_toArray, List.set_cons_zero, List.set_cons_succ, i64_w, i32_w]
    rfl
  refine pure_ (i := 13) (N := some 40) (v := ?_) (a' := ?_) #[true, true, true, true, true, true, true, true, true, true, true, true, true, true, false] rfl rfl (by kernel_rfl) (fun _ _ _ h => h) (Or.inl ⟨by rfl, ?_⟩) ?_ ?_
  rotate_left
  · intro w'
    go_simp
    with_reducible rfl
  rotate_left
  · simp only [Act.put, List.setIfInBounds_toArray, List.set_cons_zero, List.set_cons_succ, i64_w, i32_w]
    rfl
  refine pure_ (i := 14) (N := some 41) (v := ?_) (a' := ?_) #[true, true, true, true, true, true, true, true, true, true, true, true, true, true, true] rfl rfl (by kernel_rfl) (fun _ _ _ h => h) (Or.inl ⟨by rfl, ?_⟩) ?_ ?_
  rotate_left
  · intro w'
    go_simp
    with_reducible rfl
  rotate_left
  · simp only [Act.put, List.setIfInBounds_toArray, List.set_cons_zero, List.set_cons_succ, i64_w, i32_w]
    rfl
  refine done_ (by kernel_rfl) ?_
  go_wp2
  have HNW := Aside0.mk hN
  clear hN hmk
  have HM5 := Aside0.mk ((HX5.out.block _ (blk_lt HM3.out)).trans HM3.out)
  have HA2 := Aside0.mk (show G.length = 0 ∨ ∃ gG : Nat, A2 = some ⟨gG, 0, none⟩ ∧ w2.heap.size ≤ gG by
    rcases (Kd.own_of_R HO3.out).2 with ⟨hv, _⟩ | ⟨gG, cap', cur, hv, hbase, _⟩
    · left
      injection hv
    · right
      injection hv with h1
      exact ⟨gG, h1, hbase⟩)
  have HO5 := Aside0.mk (Kd.R_mono (Kd.R_move (Kd.R_bound HO3.out) (fun k hk => HX5.out.block k hk.2.2.1)) (ok' := fun _ => True) (fun _ _ => trivial))
  have HY5 := Aside0.mk (show Below w2.heap.size w2 w5 from below_step HX3.out HX5.out)
  clear CB CM CG HX4 HB4
  go_loop [10] (fun v => ∃ i : Nat, l.length ≤ i ∧ i ≤ l.length + 16 ∧ v = .int .i64 i) (fun v => l.length + 16 - (intOf v).toNat)
  case atStart => exact ⟨l.length, Nat.le_refl _, by omega, rfl⟩
  case round =>
    obtain ⟨i, hi1, hi2, rfl⟩ := hrel
    by_cases hlt : i < l.length + 16
    · have b1 : decide ((i : Int) < (l.length : Int) + 16) = true := decide_eq_true (by omega)
      have b2 : decide ((i : Int) < N) = true := decide_eq_true (by have := HN.out; omega)
      have hc := room_cell HM5.out i _ (room_spare l 16 i hi1 hlt)
      have HW := Aside0.mk (show wrap64 ((i : Int) + 1) = ((i + 1 : Nat) : Int) by rw [Pure.wrap_in (by omega) (by have := HL.out; omega)]; omega)
      have hN := HNW.out
      go_wp2
      clear hN
      rw [HW.out]
      exact ⟨⟨i + 1, by omega, by omega, rfl⟩, by simp only [intOf]; omega⟩
    · have b1 : decide ((i : Int) < (l.length : Int) + 16) = false := decide_eq_false (by omega)
      have b2 : decide ((i : Int) < N) = false := decide_eq_false (by have := HN.out; omega)
      clear hlt hi1 hi2
      have hN := HNW.out
      go_wp2
      clear hN b1 b2 HNW
      go_loopg [11] (G.length + 1) (fun kq v11 wr => ∃ (j : Nat) (xs : List Int), v11 = .int .i64 (j : Int) ∧ Aside0 (j + kq = G.length + 1) ∧ Aside0 (j ≤ G.length) ∧ Aside0 (xs.length = G.length) ∧ Aside0 (Kd.R (Kd.int .u8) 5 wr w2.heap.size (fun _ => True) (.slice A2 G.length c2) xs) ∧ Aside0 (Below w2.heap.size w2 wr))
      case atStart => exact ⟨0, G, rfl, ⟨by omega⟩, ⟨by omega⟩, ⟨rfl⟩, HO5, HY5⟩
      case round =>
        obtain ⟨j, xs, rfl, HK, HLE, HXL, HRx, HBx⟩ := hrel
        clear HO5 HY5 HM5 HX5
        cases gk with
        | zero => exact absurd HK.out (by have := HLE.out; omega)
        | succ k1 =>
          by_cases hj : j < G.length
          · rcases HA2.out with h0 | ⟨gG, rfl, hge⟩
            · omega
            have b : decide ((j : Int) < (G.length : Int)) = true := decide_eq_true (by omega)
            obtain ⟨c, hcl, hM, hcc⟩ := Kd.R_get HRx.out (0 : Int) (j : Int) (by omega) (by omega)
            have hM' : c = [.int .u8 (xs.getD (j : Int).toNat 0)] := hM
            subst hM'
            have hcell := hcc 0 _ rfl
            obtain ⟨x, hx⟩ : ∃ x, x = xs.getD (j : Int).toNat 0 := ⟨_, rfl⟩
            rw [← hx] at hcell
            have hcell' : wr.cell? ⟨gG, j, none⟩ = some (.int .u8 x) := by
              have e2 : (⟨gG, 0, none⟩ : Addr).add ((j : Int).toNat * (Kd.int .u8).sz + 0) = ⟨gG, j, none⟩ := by
                rw [show (Kd.int .u8).sz = 1 from rfl, add_plain]
                simp
              rw [← e2]
              exact hcell
            have hfz : ∃ cur, wr.heap[gG]? = some (.cells cur 5 (0, 0)) := by
              rcases (Kd.own_of_R HRx.out).2 with ⟨hv, _⟩ | ⟨gG', cap', cur, hv, _, hh, _⟩
              · cases hv
              · injection hv with h1
                injection h1 with h1
                injection h1 with h1
                subst h1
                exact ⟨cur, hh⟩
            obtain ⟨cur, hcur⟩ := hfz
            have hf := blk_frozen hcur j
            have HW := Aside0.mk (show wrap64 ((j : Int) + 1) = ((j + 1 : Nat) : Int) by have := HGL.out; rw [Pure.wrap_in (by omega) (by omega)]; omega)
            have HJ := Aside0.mk hj
            have HGE := Aside0.mk hge
            clear hcell hcc hM hcl hx hcur hge
            go_wp2
            go_roundg k1
            case measure => exact Nat.lt_succ_self _
            case rel =>
              exact ⟨j + 1, xs.set j ((x + 1) % 256), congrArg _ HW.out, ⟨by have := HK.out; omega⟩, ⟨by have := HJ.out; omega⟩, ⟨by rw [List.length_set]; exact HXL.out⟩, ⟨Kd.R_putn (enc := Value.int .u8) (h1 := fun _ => rfl) HRx.out (j : Int) ((x + 1) % 256)⟩, ⟨below_set HBx.out HGE.out⟩⟩
          · have b : decide ((j : Int) < (G.length : Int)) = false := decide_eq_false (by omega)
            have q1 := Kd.C_string (P := Try.prog) (c := c0) Try.underlying22 Try.underlying5 Try.underlying9 (C8_below HC0.out (below_step HB2.out HBx.out))
            have q2 := Kd.C_string (P := Try.prog) (c := l.length + 16) Try.underlying22 Try.underlying5 Try.underlying9 (C8_below (room_C HM2.out HCO.out) HBx.out)
            go_wp2
            go_ret
            exact ⟨by simp, below_step HB2.out HBx.out⟩
end Go.Proofs.Ytjolbpfileiipaa.P
