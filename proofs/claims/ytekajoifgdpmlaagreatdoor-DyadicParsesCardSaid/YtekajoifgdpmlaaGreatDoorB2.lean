/- natural.sub, shl: what each call computes. -/
import Derived.Test.YtekajoifgdpmlaaGreatDoorB1
namespace Go.Proofs.YtekajoifgdpmlaaGreatDoor
open Go.RowKit Pl Go.Shelf

set_option maxHeartbeats 1000000 in
theorem sub_any (A B : Option Addr) (n c m d : Nat) (l l' : List Nat) (w : World) (h : SL w A n c l) (h' : SL w B m d l') (hn : n ≤ 1000000) (hle : val l' ≤ val l) :
    Calls Tryz.prog 199 #[.slice A n c, .slice B m d] w (RetV (val l - val l') 1000000 w) := by
  have hT := h.trim
  have hT' := h'.trim
  have hNn : (digs (val l)).length ≤ n := by rw [← h.len]; exact digs_val_len l h.lt
  have hMN : (digs (val l')).length ≤ (digs (val l)).length := by
    rcases Nat.lt_or_ge (digs (val l)).length (digs (val l')).length with h1 | h1
    · have := lt_of_digs_len h1; omega
    · exact h1
  have HLE : Hid (val (digs (val l')) ≤ val (digs (val l))) := by unfold Hid; rw [val_digs, val_digs]; exact hle
  have HV : Hid (val (digs (val l)) - val (digs (val l')) = val l - val l') := by unfold Hid; rw [val_digs, val_digs]
  generalize hN : (digs (val l)).length = N at *
  generalize hM : (digs (val l')).length = M at *
  have HN := Lib.hid hN
  have HM := Lib.hid hM
  clear hN hM hle
  have hcap := hT.cap
  have hcap' := hT'.cap
  go_enter Tryz.func199, Tryz.ntmps199
  go_wp2_with fail
  refine (trim_any A n c l _ h).mono ?_
  rintro e w' ⟨rfl, rfl⟩
  rw [HN.out]
  go_wp2_with fail
  refine (trim_any B m d l' _ h').mono ?_
  rintro e w' ⟨rfl, rfl⟩
  rw [HM.out]
  go_wp2_with (at_make; refine wpList_mk rfl (.tmp 15) (.tmp 15) _ 60 rfl u32_info Tryz.underlying23 .i64 .i64 _ _ N N rfl rfl (by omega) (by omega) (Nat.le_refl _) (by omega) ?_; intro w1 hr1 hb1 hs1)
  generalize digs (val l) = da at *
  generalize digs (val l') = db at *
  obtain ⟨V, hV⟩ : ∃ V, V = val da - val db := ⟨_, rfl⟩
  have HVV := Lib.hid hV
  clear hV
  go_loopw [6, 19] (fun cy i wr => ∃ j z : Nat, j ≤ N ∧ i = .int .i64 j ∧ cy = .int .u32 (z : Int) ∧ z ≤ 1 ∧ Hid (z = subC da db j) ∧ Row wr w.heap.size 60 (fillN N V j) ∧ Below w.heap.size w wr) (fun _ i _ => N - (intOf i).toNat)
  case atStart => exact ⟨0, 0, Nat.zero_le _, rfl, rfl, by omega, (subC_zero _ _).symm, by rw [fillN_zero]; exact hr1, hb1⟩
  case round =>
    obtain ⟨j, z, hj, rfl, rfl, hz, HZ, hr, hb⟩ := hrel
    by_cases hlt : j < N
    · obtain ⟨b, off, x, rfl, hxb, hx, hcell, hxlt⟩ := (hT.below hb).get hlt
      have HX := Lib.hid (lim_some hx)
      clear hx
      have hoc := hr.cell (fillN_get hlt)
      have hof := Blk.frozen hr j
      by_cases hlast : j < M
      · obtain ⟨b', off', y, rfl, hyb, hy, hcelly, hylt⟩ := (hT'.below hb).get hlast
        have HY := Lib.hid (lim_some hy)
        clear hy
        have HC : Hid (bor x y z = subC da db (j + 1)) := by unfold Hid; rw [sub_carry da db hT.lt hT'.lt, HX.out, HY.out, ← HZ.out]; rfl
        have HG : Hid ((x + 4294967296 - y - z) % 4294967296 = dig V j) := by unfold Hid; rw [HVV.out, sub_dig da db hT.lt hT'.lt HLE.out, HX.out, HY.out, ← HZ.out]
        have hc1 := bor_le x y z
        go_wp2_with fail
        refine (sub32_any x y z _ hxlt hylt hz).mono ?_
        rintro e w' ⟨rfl, rfl⟩
        generalize bor x y z = cc at *
        generalize (x + 4294967296 - y - z) % 4294967296 = gg at *
        go_wp2_with fail
        have hst := rows_step hr (by omega) hb (Nat.le_refl _) (gg : Int) (by rw [HG.out])
        go_roundw
        case rel => exact ⟨j + 1, cc, by omega, by go_num, rfl, hc1, HC, hst.1, hst.2⟩
        case measure => simp [intOf]; omega
      · have HY : Hid (lim db j = 0) := lim_none (by rw [HM.out]; omega)
        have HC : Hid (bor x 0 z = subC da db (j + 1)) := by unfold Hid; rw [sub_carry da db hT.lt hT'.lt, HX.out, HY.out, ← HZ.out]; rfl
        have HG : Hid ((x + 4294967296 - 0 - z) % 4294967296 = dig V j) := by unfold Hid; rw [HVV.out, sub_dig da db hT.lt hT'.lt HLE.out, HX.out, HY.out, ← HZ.out]
        have hc1 := bor_le x 0 z
        go_wp2_with fail
        refine (sub32_any x 0 z _ hxlt (by omega) hz).mono ?_
        rintro e w' ⟨rfl, rfl⟩
        generalize bor x 0 z = cc at *
        generalize (x + 4294967296 - 0 - z) % 4294967296 = gg at *
        go_wp2_with fail
        have hst := rows_step hr (by omega) hb (Nat.le_refl _) (gg : Int) (by rw [HG.out])
        go_roundw
        case rel => exact ⟨j + 1, cc, by omega, by go_num, rfl, hc1, HC, hst.1, hst.2⟩
        case measure => simp [intOf]; omega
    · obtain rfl : j = N := by omega
      go_wp2_with fail
      go_ret
      rw [fillN_all] at hr
      refine ⟨_, _, _, _, rfl, hr.sl (limbs_digN _ _) (digN_length _ _) (by omega), ?_, by omega, fun _ => ⟨_, rfl, Nat.le_refl _⟩, hb⟩
      have hlt := val_lt da hT.lt
      rw [hT.len] at hlt
      rw [val_digN_of_lt (by rw [HVV.out]; omega), HVV.out, HV.out]

theorem wrapU64 (t : Nat) (h : t < 18446744073709551616) : IntKind.u64.wrap (t : Int) = (t : Int) := by
  simp only [IntKind.wrap, IntKind.bits, IntKind.signed]
  simp
  omega
theorem shl_mid {l : List Nat} (h : Limbs l) {x z r i : Nat} (hx : lim l i = x) (hz : z = shlC l r i) (hr : r < 32) :
    bits .or .u64 (IntKind.u64.wrap ((x : Int) * 2 ^ r)) (z : Int) = ((2 ^ r * x + z : Nat) : Int) ∧ (2 ^ r * x + z) % 4294967296 = dig (val l * 2 ^ r) i ∧ (2 ^ r * x + z) / 4294967296 = shlC l r (i + 1) ∧ 2 ^ r * x + z < 18446744073709551616 := by
  have hxl := lim_lt h i
  rw [hx] at hxl
  have hzl := shlC_lt l h r i
  rw [← hz] at hzl
  have h2 : 2 ^ r ≤ 2 ^ 31 := Nat.pow_le_pow_right (by omega) (by omega)
  have h3 : 2 ^ r * (x + 1) ≤ 2 ^ 31 * 4294967296 := Nat.mul_le_mul h2 hxl
  have h4 : 2 ^ r * (x + 1) = 2 ^ r * x + 2 ^ r := Nat.mul_succ ..
  have e : IntKind.u64.wrap ((x : Int) * 2 ^ r) = (x : Int) * 2 ^ r := by
    have e2 : ((x : Int) * 2 ^ r) = ((2 ^ r * x : Nat) : Int) := by rw [Int.natCast_mul, Int.natCast_pow, Int.mul_comm]; rfl
    rw [e2, wrapU64 _ (by omega)]
  rw [e]
  refine ⟨(or_low64 z x r hzl (by omega)).1, ?_, ?_, by omega⟩
  · rw [shl_dig, hx, ← hz]
  · rw [shl_carry, hx, ← hz]

set_option maxHeartbeats 1000000 in
theorem shl_any (A : Option Addr) (n c k : Nat) (l : List Nat) (w : World) (h : SL w A n c l) (hn : n ≤ 1000000) (hk : k ≤ 1000000) :
    Calls Tryz.prog 221 #[.slice A n c, .int .i64 (k : Int)] w (RetV (val l * 2 ^ k) 3000000 w) := by
  have hT := h.trim
  have hNn : (digs (val l)).length ≤ n := by rw [← h.len]; exact digs_val_len l h.lt
  have HVD := Lib.hid (val_digs (val l))
  generalize hN : (digs (val l)).length = N at *
  have HN := Lib.hid hN
  clear hN
  have hcap := hT.cap
  go_enter Tryz.func221, Tryz.ntmps221
  go_wp2_with fail
  refine (trim_any A n c l _ h).mono ?_
  rintro e w' ⟨rfl, rfl⟩
  rw [HN.out]
  go_wp2_with (at_make; refine wpList_mk rfl (.tmp 13) (.tmp 19) _ 60 rfl u32_info Tryz.underlying23 .i64 .i64 _ _ (k / 32) (k / 32 + N + 1) rfl rfl (by omega) (by omega) (by omega) (by omega) ?_; intro w1 hr1 hb1 hs1)
  generalize digs (val l) = da at *
  have ho1 : Own w1 w.heap.size 60 (.slice (some ⟨w.heap.size, 0, none⟩) (k / 32) (k / 32 + N + 1)) (List.replicate (k / 32) 0) := Own.made hr1 (Nat.le_refl _) (by omega) (by omega)
  obtain ⟨V, hV⟩ : ∃ V, V = val da * 2 ^ (k % 32) := ⟨_, rfl⟩
  have HVV := Lib.hid hV
  clear hV hr1
  go_loopw [5, 6, 23] (fun v cy i wr => ∃ j z : Nat, j ≤ N ∧ i = .int .i64 j ∧ cy = .int .u64 (z : Int) ∧ z < 4294967296 ∧ Hid (z = shlC da (k % 32) j) ∧ Own wr w.heap.size 60 v (List.replicate (k / 32) 0 ++ digN j V) ∧ Below w.heap.size w wr) (fun _ _ i _ => N - (intOf i).toNat)
  case atStart => exact ⟨0, 0, Nat.zero_le _, rfl, rfl, by omega, (shlC_zero _ _).symm, by simpa [digN] using ho1, hb1⟩
  case round =>
    obtain ⟨j, z, hj, rfl, rfl, hz, HZ, hr, hb⟩ := hrel
    have hlenr : (List.replicate (k / 32) 0 ++ digN j V).length = k / 32 + j := by rw [List.length_append, List.length_replicate, digN_length]
    by_cases hlt : j < N
    · obtain ⟨b, off, x, rfl, hxb, hx, hcell, hxlt⟩ := (hT.below hb).get hlt
      obtain ⟨e1, e2, e3, e4⟩ := shl_mid hT.lt (lim_some hx) HZ.out (show k % 32 < 32 from by omega)
      rw [← HVV.out] at e2
      have HE2 := Lib.hid e2
      have HE3 := Lib.hid e3
      have HLR := Lib.hid hlenr
      clear hx e2 e3 hlenr
      generalize 2 ^ (k % 32) * x + z = s at *
      have hs3 : s / 4294967296 < 4294967296 := by omega
      go_wp2_with (at_builtin; refine wpList_app rfl (.tmp 34) (.tmp 37) _ rfl 60 u32_info Tryz.underlying23 w.heap.size _ (List.replicate (k / 32) 0 ++ digN j V) rfl (hr.alloc _) _ 1 1 [dig V j] rfl (SL.oneI _ _ _ _ (by rw [← HE2.out]; omega) (dig_lt _ _)) (by rw [HLR.out]; omega) (by have := hb.size; simp; omega) ?_; intro v1 w2 hown1 hb2)
      rw [List.append_assoc, ← digN_succ] at hown1
      have hbw := (hb.alloc hb.size _).trans hb2
      go_roundw
      case rel => exact ⟨j + 1, s / 4294967296, by omega, by go_num, by go_num, hs3, HE3, hown1, hbw⟩
      case measure => simp [intOf]; omega
    · obtain rfl : j = N := by omega
      have HE2 : Hid (z = dig V j) := by unfold Hid; rw [HVV.out, shl_last da hT.lt _ j (by omega) (by rw [hT.len]; omega), ← HZ.out]
      have HLR := Lib.hid hlenr
      clear hlenr
      go_wp2_with (at_builtin; refine wpList_app rfl (.tmp 42) (.tmp 45) _ rfl 60 u32_info Tryz.underlying23 w.heap.size _ (List.replicate (k / 32) 0 ++ digN j V) rfl (hr.alloc _) _ 1 1 [dig V j] rfl (SL.oneI _ _ _ _ (by rw [← HE2.out]) (dig_lt _ _)) (by rw [HLR.out]; omega) (by have := hb.size; simp; omega) ?_; intro v1 w2 hown1 hb2)
      rw [List.append_assoc, ← digN_succ] at hown1
      have hbw := (hb.alloc hb.size _).trans hb2
      go_ret
      obtain ⟨A1, c1, rfl, hs1, hf1⟩ := hown1.sl ((limbs_replicate _).append (limbs_digN _ _))
      refine ⟨_, _, _, _, rfl, hs1, ?_, by rw [List.length_append, List.length_replicate, digN_length]; omega, hf1, hbw⟩
      rw [val_append, val_replicate, List.length_replicate, val_digN_of_lt (by rw [HVV.out]; exact shl_lt da hT.lt _ j (by omega) (by rw [hT.len]; omega)), HVV.out, HVD.out, base_pow, Nat.zero_add, Nat.mul_comm, Nat.mul_assoc, ← Nat.pow_add, show k % 32 + 32 * (k / 32) = k from by omega]

end Go.Proofs.YtekajoifgdpmlaaGreatDoor
