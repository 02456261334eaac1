/- The reference: left, plus, minus: what each call computes. -/
import Derived.Test.YtekajoifgdpmlaaGreatDoorR2
import Derived.Test.YtekajoifgdpmlaaGreatDoorB3
namespace Go.Proofs.YtekajoifgdpmlaaGreatDoor
open Go.RowKit Pl Go.Shelf

theorem maskOf {v : Int} {a : Nat} (h : v = (a : Int)) (ha : a < 18446744073709551616) : bits .and .u64 v 4294967295 % 4294967296 = ((a % 4294967296 : Nat) : Int) := by
  rw [h]; exact maskMod a ha

set_option maxHeartbeats 1000000 in
theorem rleft_any (A : Option Addr) (n c k : Nat) (l : List Nat) (w : World) (h : SL w A n c l) (hn : n ≤ 1000) (hk : k ≤ 1000000) :
    Calls Tryz.prog 234 #[.slice A n c, .int .i64 (k : Int)] w (RetS (digs (val l * 2 ^ k)) w) := by
  have hcap := h.cap
  have hmax := h.max
  obtain ⟨V, hV⟩ : ∃ V, V = val l * 2 ^ (k % 32) := ⟨_, rfl⟩
  have HVV := Lib.hid hV
  clear hV
  have HL := Lib.hid h.len
  go_enter Tryz.func234, Tryz.ntmps234
  go_wp2_with (at_make; refine wpList_mk rfl (.tmp 10) (.tmp 10) _ 60 rfl u32_info Tryz.underlying23 .i64 .i64 _ _ (k / 32) (k / 32) rfl rfl (by omega) (by omega) (by omega) (by omega) ?_; intro w1 hr1 hb1 hs1)
  have ho1 : Own w1 w.heap.size 60 (.slice (some ⟨w.heap.size, 0, none⟩) (k / 32) (k / 32)) (List.replicate (k / 32) 0) := Own.made hr1 (Nat.le_refl _) (by omega) (by omega)
  clear hr1
  go_loopw [5, 6, 7] (fun v cy i wr => ∃ j z : Nat, j ≤ n ∧ i = .int .i64 j ∧ cy = .int .u64 (z : Int) ∧ z < 4294967296 ∧ Hid (z = shlC l (k % 32) j) ∧ Own wr w.heap.size 60 v (List.replicate (k / 32) 0 ++ digN j V) ∧ Below w.heap.size w wr) (fun _ _ i _ => n - (intOf i).toNat)
  case atStart => exact ⟨0, 0, Nat.zero_le _, rfl, rfl, by omega, (shlC_zero _ _).symm, by simpa [digN] using ho1, hb1⟩
  case round =>
    obtain ⟨j, z, hj, rfl, rfl, hz, HZ, hr, hb⟩ := hrel
    have hlenr : (List.replicate (k / 32) 0 ++ digN j V).length = k / 32 + j := by rw [List.length_append, List.length_replicate, digN_length]
    by_cases hlt : j < n
    · obtain ⟨b, off, x, rfl, hxb, hx, hcell, hxlt⟩ := (h.below hb).get hlt
      obtain ⟨e1, e2, e3, e4⟩ := shl_mid h.lt (lim_some hx) HZ.out (show k % 32 < 32 from by omega)
      rw [← HVV.out] at e2
      have HE2 := Lib.hid e2
      have HE3 := Lib.hid e3
      have HLR := Lib.hid hlenr
      clear hx e2 e3 hlenr
      generalize 2 ^ (k % 32) * x + z = s at *
      have hs3 : s / 4294967296 < 4294967296 := by omega
      go_wp2_with (at_builtin; refine wpList_app rfl (.tmp 29) (.tmp 33) _ rfl 60 u32_info Tryz.underlying23 w.heap.size _ (List.replicate (k / 32) 0 ++ digN j V) rfl (hr.alloc _) _ 1 1 [dig V j] rfl (SL.oneI _ _ _ _ (by rw [maskMod s (by omega), HE2.out]) (dig_lt _ _)) (by rw [HLR.out]; omega) (by have := hb.size; simp; omega) ?_; intro v1 w2 hown1 hb2)
      rw [List.append_assoc, ← digN_succ] at hown1
      have hbw := (hb.alloc hb.size _).trans hb2
      go_roundw
      case rel => exact ⟨j + 1, s / 4294967296, by omega, by go_num, by go_num, hs3, HE3, hown1, hbw⟩
      case measure => simp [intOf]; omega
    · obtain rfl : j = n := by omega
      have HE2 : Hid (z = dig V j) := by unfold Hid; rw [HVV.out, shl_last l h.lt _ j (by omega) (by rw [h.len]; omega), ← HZ.out]
      have HLR := Lib.hid hlenr
      clear hlenr
      go_wp2_with (at_builtin; refine wpList_app rfl (.tmp 37) (.tmp 40) _ rfl 60 u32_info Tryz.underlying23 w.heap.size _ (List.replicate (k / 32) 0 ++ digN j V) rfl (hr.alloc _) _ 1 1 [dig V j] rfl (SL.oneI _ _ _ _ (by rw [← HE2.out]) (dig_lt _ _)) (by rw [HLR.out]; omega) (by have := hb.size; simp; omega) ?_; intro v1 w2 hown1 hb2; fail_if_success done)
      rw [List.append_assoc, ← digN_succ] at hown1
      have hbw := (hb.alloc hb.size _).trans hb2
      obtain ⟨A1, c1, rfl, hs1, hf1⟩ := hown1.sl ((limbs_replicate _).append (limbs_digN _ _))
      have hval : val (List.replicate (k / 32) 0 ++ digN (j + 1) V) = val l * 2 ^ k := by
        rw [val_append, val_replicate, List.length_replicate, val_digN_of_lt (by rw [HVV.out]; exact shl_lt l h.lt _ j (by omega) (by rw [h.len]; omega)), HVV.out, base_pow, Nat.zero_add, Nat.mul_comm, Nat.mul_assoc, ← Nat.pow_add, show k % 32 + 32 * (k / 32) = k from by omega]
      have HVL := Lib.hid hval
      clear hval
      have hlen2 : (List.replicate (k / 32) 0 ++ digN (j + 1) V).length ≤ 1000000 := by rw [List.length_append, List.length_replicate, digN_length]; omega
      generalize List.replicate (k / 32) 0 ++ digN (j + 1) V = ll at *
      generalize hll : ll.length = LL at *
      clear hll
      refine (rtrim_any A1 LL c1 ll _ hs1 hlen2).mono ?_
      rw [HVL.out]
      rintro e w3 ⟨A3, n3, c3, rfl, hs3, hf3, hb3⟩
      go_wp2_with fail
      go_ret
      exact ⟨_, _, _, rfl, hs3, hf3.mono hbw.size, bthen hbw hb3 (Nat.le_refl _)⟩

theorem plus_step (l l' : List Nat) (h : Limbs l) (h' : Limbs l') {j z x y : Nat} (hx : lim l j = x) (hy : lim l' j = y) (hz : z = addC l l' j) :
    (z + x + y) % 4294967296 = dig (val l + val l') j ∧ (z + x + y) / 4294967296 = addC l l' (j + 1) ∧ z ≤ 1 ∧ x < 4294967296 ∧ y < 4294967296 := by
  have e1 := add_dig l l' j
  have e2 := add_carry l l' j
  have e3 := addC_le l l' h h' j
  have e4 := lim_lt h j
  have e5 := lim_lt h' j
  rw [hx] at e1 e2 e4
  rw [hy] at e1 e2 e5
  rw [← hz] at e1 e2 e3
  rw [e1, e2, show z + x + y = x + y + z by omega]
  exact ⟨rfl, rfl, e3, e4, e5⟩

set_option maxHeartbeats 2000000 in
theorem rplus_any (A B : Option Addr) (n c m d : Nat) (l l' : List Nat) (w : World) (h : SL w A n c l) (h' : SL w B m d l') (hn : n ≤ 100000) (hm : m ≤ 100000) :
    Calls Tryz.prog 38 #[.slice A n c, .slice B m d] w (RetS (digs (val l + val l')) w) := by
  have hcap := h.cap
  have hmax := h.max
  have hcap' := h'.cap
  have hmax' := h'.max
  obtain ⟨V, hV⟩ : ∃ V, V = val l + val l' := ⟨_, rfl⟩
  rw [← hV]
  have HVV := Lib.hid hV
  clear hV
  have HL := Lib.hid h.len
  have HL' := Lib.hid h'.len
  go_enter Tryz.func38, Tryz.ntmps38
  go_wp2_with fail
  go_loopw [5, 6, 7] (fun v cy i wr => ∃ j z : Nat, j ≤ n + m ∧ i = .int .i64 j ∧ cy = .int .u64 (z : Int) ∧ z ≤ 1 ∧ Hid (z = addC l l' j) ∧ Own wr w.heap.size 60 v (digN j V) ∧ Below w.heap.size w wr) (fun _ _ i _ => n + m - (intOf i).toNat)
  case atStart => exact ⟨0, 0, Nat.zero_le _, rfl, rfl, by omega, (addC_zero _ _).symm, Own.nil _ _ _, Below.refl _ _⟩
  case round =>
    obtain ⟨j, z, hj, rfl, rfl, hz, HZ, hr, hb⟩ := hrel
    by_cases hlt : j < n
    · obtain ⟨b, off, x, rfl, hxb, hx, hcell, hxlt⟩ := (h.below hb).get hlt
      by_cases hlt' : j < m
      · obtain ⟨b', off', y, rfl, hyb, hy, hcelly, hylt⟩ := (h'.below hb).get hlt'
        obtain ⟨e1, e2, -⟩ := plus_step l l' h.lt h'.lt (lim_some hx) (lim_some hy) HZ.out
        rw [← HVV.out] at e1
        have HE1 := Lib.hid e1
        have HE2 := Lib.hid e2
        clear e1 e2 hx hy
        go_wp2_with (at_builtin; refine wpList_app rfl (.tmp 44) (.tmp 48) _ rfl 60 u32_info Tryz.underlying23 w.heap.size _ (digN j V) rfl (hr.alloc _) _ 1 1 [dig V j] rfl (SL.oneI _ _ _ _ (by rw [maskOf (a := z + x + y) (by omega) (by omega), HE1.out]) (dig_lt _ _)) (by rw [digN_length]; omega) (by have := hb.size; simp; omega) ?_; intro v1 w2 hown1 hb2)
        rw [← digN_succ] at hown1
        have hbw := (hb.alloc hb.size _).trans hb2
        go_roundw
        case rel => exact ⟨j + 1, (z + x + y) / 4294967296, by omega, by go_num, by go_num, by omega, HE2, hown1, hbw⟩
        case measure => simp [intOf]; omega
      · obtain ⟨e1, e2, -⟩ := plus_step l l' h.lt h'.lt (lim_some hx) (lim_none (by rw [HL'.out]; omega)) HZ.out
        rw [← HVV.out] at e1
        have HE1 := Lib.hid e1
        have HE2 := Lib.hid e2
        clear e1 e2 hx
        go_wp2_with (at_builtin; refine wpList_app rfl (.tmp 44) (.tmp 48) _ rfl 60 u32_info Tryz.underlying23 w.heap.size _ (digN j V) rfl (hr.alloc _) _ 1 1 [dig V j] rfl (SL.oneI _ _ _ _ (by rw [maskOf (a := z + x + 0) (by omega) (by omega), HE1.out]) (dig_lt _ _)) (by rw [digN_length]; omega) (by have := hb.size; simp; omega) ?_; intro v1 w2 hown1 hb2)
        rw [← digN_succ] at hown1
        have hbw := (hb.alloc hb.size _).trans hb2
        go_roundw
        case rel => exact ⟨j + 1, (z + x + 0) / 4294967296, by omega, by go_num, by go_num, by omega, HE2, hown1, hbw⟩
        case measure => simp [intOf]; omega
    · by_cases hlt' : j < m
      · obtain ⟨b', off', y, rfl, hyb, hy, hcelly, hylt⟩ := (h'.below hb).get hlt'
        obtain ⟨e1, e2, -⟩ := plus_step l l' h.lt h'.lt (lim_none (by rw [HL.out]; omega)) (lim_some hy) HZ.out
        rw [← HVV.out] at e1
        have HE1 := Lib.hid e1
        have HE2 := Lib.hid e2
        clear e1 e2 hy
        go_wp2_with (at_builtin; refine wpList_app rfl (.tmp 44) (.tmp 48) _ rfl 60 u32_info Tryz.underlying23 w.heap.size _ (digN j V) rfl (hr.alloc _) _ 1 1 [dig V j] rfl (SL.oneI _ _ _ _ (by rw [maskOf (a := z + 0 + y) (by omega) (by omega), HE1.out]) (dig_lt _ _)) (by rw [digN_length]; omega) (by have := hb.size; simp; omega) ?_; intro v1 w2 hown1 hb2)
        rw [← digN_succ] at hown1
        have hbw := (hb.alloc hb.size _).trans hb2
        go_roundw
        case rel => exact ⟨j + 1, (z + 0 + y) / 4294967296, by omega, by go_num, by go_num, by omega, HE2, hown1, hbw⟩
        case measure => simp [intOf]; omega
      · have HE2 : Hid (z = dig V j) := by unfold Hid; rw [HVV.out, add_last l l' j h.lt h'.lt (by rw [h.len]; omega) (by rw [h'.len]; omega), ← HZ.out]
        have hVlt : V < 4294967296 ^ (j + 1) := by rw [HVV.out]; exact add_lt l l' j h.lt h'.lt (by rw [h.len]; omega) (by rw [h'.len]; omega)
        have HVL := Lib.hid (val_digN_of_lt hVlt)
        clear hVlt
        go_wp2_with (at_builtin; refine wpList_app rfl (.tmp 52) (.tmp 55) _ rfl 60 u32_info Tryz.underlying23 w.heap.size _ (digN j V) rfl (hr.alloc _) _ 1 1 [dig V j] rfl (SL.oneI _ _ _ _ (by rw [← HE2.out]) (dig_lt _ _)) (by rw [digN_length]; omega) (by have := hb.size; simp; omega) ?_; intro v1 w2 hown1 hb2; fail_if_success done)
        rw [← digN_succ] at hown1
        have hbw := (hb.alloc hb.size _).trans hb2
        obtain ⟨A1, c1, rfl, hs1, hf1⟩ := hown1.sl (limbs_digN _ _)
        rw [digN_length] at hs1 hf1 ⊢
        generalize digN (j + 1) V = ll at *
        refine (rtrim_any A1 (j + 1) c1 ll _ hs1 (by omega)).mono ?_
        rw [HVL.out]
        rintro e w3 ⟨A3, n3, c3, rfl, hs3, hf3, hb3⟩
        go_wp2_with fail
        go_ret
        exact ⟨_, _, _, rfl, hs3, hf3.mono hbw.size, bthen hbw hb3 (Nat.le_refl _)⟩

theorem minus_step (l l' : List Nat) (h : Limbs l) (h' : Limbs l') (hle : val l' ≤ val l) {j z x y : Nat} (hx : lim l j = x) (hy : lim l' j = y) (hz : z = subC l l' j) :
    (x + 4294967296 - (z + y)) % 4294967296 = dig (val l - val l') j ∧ 1 - (x + 4294967296 - (z + y)) / 4294967296 = subC l l' (j + 1) := by
  have e1 := sub_dig l l' h h' hle j
  have e2 := sub_carry l l' h h' j
  have e3 := subC_le l l' j
  have e4 := lim_lt h j
  have e5 := lim_lt h' j
  rw [hx] at e1 e2 e4
  rw [hy] at e1 e2 e5
  rw [← hz] at e1 e2 e3
  refine ⟨by rw [e1]; congr 1; omega, ?_⟩
  rw [e2]
  split <;> omega

set_option maxHeartbeats 2000000 in
theorem rminus_any (A B : Option Addr) (n c m d : Nat) (l l' : List Nat) (w : World) (h : SL w A n c l) (h' : SL w B m d l') (hn : n ≤ 100000) (hle : val l' ≤ val l) :
    Calls Tryz.prog 235 #[.slice A n c, .slice B m d] w (RetS (digs (val l - val l')) w) := by
  have hcap := h.cap
  have hmax := h.max
  have hcap' := h'.cap
  have hmax' := h'.max
  have HLE := Lib.hid hle
  clear hle
  obtain ⟨V, hV⟩ : ∃ V, V = val l - val l' := ⟨_, rfl⟩
  rw [← hV]
  have HVV := Lib.hid hV
  clear hV
  have HL := Lib.hid h.len
  have HL' := Lib.hid h'.len
  go_enter Tryz.func235, Tryz.ntmps235
  go_wp2_with fail
  go_loopw [5, 6, 7] (fun v cy i wr => ∃ j z : Nat, j ≤ n ∧ i = .int .i64 j ∧ cy = .int .u64 (z : Int) ∧ z ≤ 1 ∧ Hid (z = subC l l' j) ∧ Own wr w.heap.size 60 v (digN j V) ∧ Below w.heap.size w wr) (fun _ _ i _ => n - (intOf i).toNat)
  case atStart => exact ⟨0, 0, Nat.zero_le _, rfl, rfl, by omega, (subC_zero _ _).symm, Own.nil _ _ _, Below.refl _ _⟩
  case round =>
    obtain ⟨j, z, hj, rfl, rfl, hz, HZ, hr, hb⟩ := hrel
    by_cases hlt : j < n
    · obtain ⟨b, off, x, rfl, hxb, hx, hcell, hxlt⟩ := (h.below hb).get hlt
      by_cases hlt' : j < m
      · obtain ⟨b', off', y, rfl, hyb, hy, hcelly, hylt⟩ := (h'.below hb).get hlt'
        obtain ⟨e1, e2⟩ := minus_step l l' h.lt h'.lt HLE.out (lim_some hx) (lim_some hy) HZ.out
        rw [← HVV.out] at e1
        have HE1 := Lib.hid e1
        have HE2 := Lib.hid e2
        clear e1 e2 hx hy
        go_wp2_with (at_builtin; refine wpList_app rfl (.tmp 36) (.tmp 40) _ rfl 60 u32_info Tryz.underlying23 w.heap.size _ (digN j V) rfl (hr.alloc _) _ 1 1 [dig V j] rfl (SL.oneI _ _ _ _ (by rw [maskOf (a := x + 4294967296 - (z + y)) (by omega) (by omega), HE1.out]) (dig_lt _ _)) (by rw [digN_length]; omega) (by have := hb.size; simp; omega) ?_; intro v1 w2 hown1 hb2)
        rw [← digN_succ] at hown1
        have hbw := (hb.alloc hb.size _).trans hb2
        go_roundw
        case rel => exact ⟨j + 1, 1 - (x + 4294967296 - (z + y)) / 4294967296, by omega, by go_num, by go_num, by omega, HE2, hown1, hbw⟩
        case measure => simp [intOf]; omega
      · obtain ⟨e1, e2⟩ := minus_step l l' h.lt h'.lt HLE.out (lim_some hx) (lim_none (by rw [HL'.out]; omega)) HZ.out
        rw [← HVV.out] at e1
        have HE1 := Lib.hid e1
        have HE2 := Lib.hid e2
        clear e1 e2 hx
        go_wp2_with (at_builtin; refine wpList_app rfl (.tmp 36) (.tmp 40) _ rfl 60 u32_info Tryz.underlying23 w.heap.size _ (digN j V) rfl (hr.alloc _) _ 1 1 [dig V j] rfl (SL.oneI _ _ _ _ (by rw [maskOf (a := x + 4294967296 - (z + 0)) (by omega) (by omega), HE1.out]) (dig_lt _ _)) (by rw [digN_length]; omega) (by have := hb.size; simp; omega) ?_; intro v1 w2 hown1 hb2)
        rw [← digN_succ] at hown1
        have hbw := (hb.alloc hb.size _).trans hb2
        go_roundw
        case rel => exact ⟨j + 1, 1 - (x + 4294967296 - (z + 0)) / 4294967296, by omega, by go_num, by go_num, by omega, HE2, hown1, hbw⟩
        case measure => simp [intOf]; omega
    · obtain rfl : j = n := by omega
      have hVlt : V < 4294967296 ^ j := by
        have := val_lt l h.lt
        rw [HL.out] at this
        have := HVV.out
        omega
      have HVL := Lib.hid (val_digN_of_lt hVlt)
      clear hVlt
      obtain ⟨A1, c1, rfl, hs1, hf1⟩ := hr.sl (limbs_digN _ _)
      rw [digN_length] at hs1 hf1 ⊢
      generalize digN j V = ll at *
      go_wp2_with fail
      refine (rtrim_any A1 j c1 ll _ hs1 (by omega)).mono ?_
      rw [HVL.out]
      rintro e w3 ⟨A3, n3, c3, rfl, hs3, hf3, hb3⟩
      go_wp2_with fail
      go_ret
      exact ⟨_, _, _, rfl, hs3, hf3.mono hb.size, bthen hb hb3 (Nat.le_refl _)⟩

end Go.Proofs.YtekajoifgdpmlaaGreatDoor
