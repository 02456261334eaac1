/- natural.add, sub, shl and the exported ones: what each call computes. -/
import Derived.Test.YtekajoifgdpmlaaGreatDoorA4
import Derived.Test.YtekajoifgdpmlaaGreatDoorMath3
namespace Go.Proofs.YtekajoifgdpmlaaGreatDoor
open Go.RowKit Pl Go.Shelf

set_option maxHeartbeats 400000 in
theorem add32_any (x y z : Nat) (w : World) (hx : x < 4294967296) (hy : y < 4294967296) (hz : z ≤ 1) :
    Calls Tryz.prog 222 #[.int .u32 (x : Int), .int .u32 (y : Int), .int .u32 (z : Int)] w fun e w' =>
      e = .returned (.tuple #[.int .u32 (((x + y + z) % 4294967296 : Nat) : Int), .int .u32 (((x + y + z) / 4294967296 : Nat) : Int)]) ∧ w = w' := by
  go_enter Tryz.func222, Tryz.ntmps222
  go_wp2
  go_ret2
  refine ⟨?_, rfl⟩
  have e1 : ((x : Int) + y + z) % 4294967296 = (((x + y + z) % 4294967296 : Nat) : Int) := by omega
  have e2 : ((x : Int) + y + z) / 4294967296 = (((x + y + z) / 4294967296 : Nat) : Int) := by omega
  show Ending.returned (.tuple #[.int .u32 (((x : Int) + y + z) % 4294967296), .int .u32 (((x : Int) + y + z) / 4294967296)]) = _
  rw [e1, e2]

/-- The borrow of a difference of limbs. -/
def bor (x y z : Nat) : Nat := if x < y + z then 1 else 0
theorem bor_le (x y z : Nat) : bor x y z ≤ 1 := by unfold bor; split <;> omega
theorem top_bit (n : Nat) (h : n < 4294967296) : n / 2147483648 = if n.testBit 31 then 1 else 0 := by
  rw [Nat.testBit_eq_decide_div_mod_eq]
  by_cases h1 : n / 2 ^ 31 % 2 = 1
  · simp only [h1, decide_true, if_true]; omega
  · simp only [h1, decide_false]; simp; omega
theorem borrow_bits (x y z D : Nat) (hx : x < 4294967296) (hy : y < 4294967296) (hz : z ≤ 1) (hD : D = (x + 4294967296 - y - z) % 4294967296) :
    (((4294967295 ^^^ x) &&& y) ||| ((4294967295 ^^^ (x ^^^ y)) &&& D)) / 2147483648 = bor x y z := by
  have hDl : D < 4294967296 := by omega
  have h1 : ((4294967295 ^^^ x) &&& y) < 2 ^ 32 := Nat.and_lt_two_pow _ (by omega)
  have h2 : ((4294967295 ^^^ (x ^^^ y)) &&& D) < 2 ^ 32 := Nat.and_lt_two_pow _ (by omega)
  rw [top_bit _ (Nat.or_lt_two_pow h1 h2)]
  rw [Nat.testBit_or, Nat.testBit_and, Nat.testBit_and, Nat.testBit_xor, Nat.testBit_xor, Nat.testBit_xor]
  have hm : Nat.testBit 4294967295 31 = true := by decide
  rw [hm, Nat.testBit_eq_decide_div_mod_eq, Nat.testBit_eq_decide_div_mod_eq, Nat.testBit_eq_decide_div_mod_eq]
  unfold bor
  by_cases c1 : x / 2 ^ 31 % 2 = 1 <;> by_cases c2 : y / 2 ^ 31 % 2 = 1 <;> by_cases c3 : D / 2 ^ 31 % 2 = 1 <;> simp only [c1, c2, c3, decide_true, decide_false] <;> simp <;> omega
theorem borrow32 (x y z : Nat) (hx : x < 4294967296) (hy : y < 4294967296) (hz : z ≤ 1) :
    bits .or .u32 (bits .and .u32 (bits .xor .u32 IntKind.u32.max (x : Int)) (y : Int)) (bits .and .u32 (bits .xor .u32 IntKind.u32.max (bits .xor .u32 (x : Int) (y : Int))) (((x : Int) - y - z) % 4294967296)) / 2147483648 = ((bor x y z : Nat) : Int) := by
  have hm : IntKind.u32.max = ((4294967295 : Nat) : Int) := by decide
  have hxy : x ^^^ y < 4294967296 := Nat.xor_lt_two_pow (n := 32) hx hy
  have h1 : 4294967295 ^^^ x < 4294967296 := Nat.xor_lt_two_pow (n := 32) (by omega) hx
  have h2 : 4294967295 ^^^ (x ^^^ y) < 4294967296 := Nat.xor_lt_two_pow (n := 32) (by omega) hxy
  have hD : ((x : Int) - y - z) % 4294967296 = (((x + 4294967296 - y - z) % 4294967296 : Nat) : Int) := by omega
  have h3 : (4294967295 ^^^ x) &&& y < 4294967296 := Nat.and_lt_two_pow (n := 32) _ hy
  have h4 : (4294967295 ^^^ (x ^^^ y)) &&& ((x + 4294967296 - y - z) % 4294967296) < 4294967296 := Nat.and_lt_two_pow (n := 32) _ (by omega)
  rw [hm, hD, u32_xor_nat _ _ (by omega) hx, u32_and_nat _ _ h1 hy, u32_xor_nat _ _ hx hy, u32_xor_nat _ _ (by omega) hxy, u32_and_nat _ _ h2 (by omega), u32_or_nat _ _ h3 h4, ← borrow_bits x y z _ hx hy hz rfl, Int.natCast_ediv]
  rfl

set_option maxHeartbeats 400000 in
theorem sub32_any (x y z : Nat) (w : World) (hx : x < 4294967296) (hy : y < 4294967296) (hz : z ≤ 1) :
    Calls Tryz.prog 223 #[.int .u32 (x : Int), .int .u32 (y : Int), .int .u32 (z : Int)] w fun e w' =>
      e = .returned (.tuple #[.int .u32 (((x + 4294967296 - y - z) % 4294967296 : Nat) : Int), .int .u32 ((bor x y z : Nat) : Int)]) ∧ w = w' := by
  have hsg : IntKind.u32.signed = false := rfl
  have HB := Lib.hid (borrow32 x y z hx hy hz)
  have hD : (((x : Int) - y) % 4294967296 - z) % 4294967296 = (((x + 4294967296 - y - z) % 4294967296 : Nat) : Int) := by omega
  have HD := Lib.hid hD
  clear hD
  go_enter Tryz.func223, Tryz.ntmps223
  go_wp2
  go_ret2
  refine ⟨?_, rfl⟩
  show Ending.returned (.tuple #[.int .u32 ((((x : Int) - y) % 4294967296 - z) % 4294967296), .int .u32 (bits .or .u32 (bits .and .u32 (bits .xor .u32 IntKind.u32.max (x : Int)) (y : Int)) (bits .and .u32 (bits .xor .u32 IntKind.u32.max (bits .xor .u32 (x : Int) (y : Int))) (((x : Int) - y - z) % 4294967296)) / 2147483648)]) = _
  rw [HB.out, HD.out]

set_option maxHeartbeats 1000000 in
theorem add_ge (A B : Option Addr) (n c m d : Nat) (l l' : List Nat) (w : World) (h : SL w A n c l) (h' : SL w B m d l') (hn : n ≤ 1000000) (hmn : m ≤ n) :
    Calls Tryz.prog 198 #[.slice A n c, .slice B m d] w (RetV (val l + val l') 1000001 w) := by
  have hcap := h.cap
  have hcap' := h'.cap
  have HL := Lib.hid h.len
  have HL' := Lib.hid h'.len
  go_enter Tryz.func198, Tryz.ntmps198
  go_wp2_with (at_make; refine wpList_mk rfl (.tmp 19) (.tmp 19) _ 60 rfl u32_info Tryz.underlying23 .i64 .i64 _ _ (n + 1) (n + 1) rfl rfl (by omega) (by omega) (Nat.le_refl _) (by omega) ?_; intro w1 hr1 hb1 hs1)
  obtain ⟨V, hV⟩ : ∃ V, V = val l + val l' := ⟨_, rfl⟩
  have HV := Lib.hid hV
  clear hV
  go_loopw [6, 23] (fun cy i wr => ∃ j z : Nat, j ≤ n ∧ i = .int .i64 j ∧ cy = .int .u32 (z : Int) ∧ z ≤ 1 ∧ Hid (z = addC l l' j) ∧ Row wr w.heap.size 60 (fillN (n + 1) V j) ∧ Below w.heap.size w wr) (fun _ i _ => n - (intOf i).toNat)
  case atStart => exact ⟨0, 0, Nat.zero_le _, rfl, rfl, by omega, (addC_zero _ _).symm, by rw [fillN_zero]; exact hr1, hb1⟩
  case round =>
    obtain ⟨j, z, hj, rfl, rfl, hz, HZ, hr, hb⟩ := hrel
    by_cases hlt : j < n
    · obtain ⟨b, off, x, rfl, hxb, hx, hcell, hxlt⟩ := (h.below hb).get hlt
      have HX := Lib.hid (lim_some hx)
      clear hx
      have hoc := hr.cell (fillN_get (n := n + 1) (by omega : j < n + 1))
      have hof := Blk.frozen hr j
      by_cases hlast : j < m
      · obtain ⟨b', off', y, rfl, hyb, hy, hcelly, hylt⟩ := (h'.below hb).get hlast
        have HY := Lib.hid (lim_some hy)
        clear hy
        have HC : Hid ((x + y + z) / 4294967296 = addC l l' (j + 1)) := by unfold Hid; rw [add_carry, HX.out, HY.out, ← HZ.out]
        have HG : Hid ((x + y + z) % 4294967296 = dig V j) := by unfold Hid; rw [HV.out, add_dig, HX.out, HY.out, ← HZ.out]
        have hc1 : (x + y + z) / 4294967296 ≤ 1 := by omega
        go_wp2_with fail
        refine (add32_any x y z _ hxlt hylt hz).mono ?_
        rintro e w' ⟨rfl, rfl⟩
        generalize (x + y + z) / 4294967296 = cc at *
        generalize (x + y + z) % 4294967296 = gg at *
        go_wp2_with fail
        have hst := rows_step hr (by omega) hb (Nat.le_refl _) (gg : Int) (by rw [HG.out])
        go_roundw
        case rel => exact ⟨j + 1, cc, by omega, by go_num, rfl, hc1, HC, hst.1, hst.2⟩
        case measure => simp [intOf]; omega
      · have HY : Hid (lim l' j = 0) := lim_none (by rw [HL'.out]; omega)
        have HC : Hid ((x + 0 + z) / 4294967296 = addC l l' (j + 1)) := by unfold Hid; rw [add_carry, HX.out, HY.out, ← HZ.out]
        have HG : Hid ((x + 0 + z) % 4294967296 = dig V j) := by unfold Hid; rw [HV.out, add_dig, HX.out, HY.out, ← HZ.out]
        have hc1 : (x + 0 + z) / 4294967296 ≤ 1 := by omega
        go_wp2_with fail
        refine (add32_any x 0 z _ hxlt (by omega) hz).mono ?_
        rintro e w' ⟨rfl, rfl⟩
        generalize (x + 0 + z) / 4294967296 = cc at *
        generalize (x + 0 + z) % 4294967296 = gg at *
        go_wp2_with fail
        have hst := rows_step hr (by omega) hb (Nat.le_refl _) (gg : Int) (by rw [HG.out])
        go_roundw
        case rel => exact ⟨j + 1, cc, by omega, by go_num, rfl, hc1, HC, hst.1, hst.2⟩
        case measure => simp [intOf]; omega
    · obtain rfl : j = n := by omega
      have hoc := hr.cell (fillN_get (n := j + 1) (by omega : j < j + 1))
      have hof := Blk.frozen hr j
      have HG : Hid (z = dig V j) := by unfold Hid; rw [HV.out, add_last l l' j h.lt h'.lt (by rw [HL.out]; omega) (by rw [HL'.out]; omega), ← HZ.out]
      go_wp2_with fail
      have hst := rows_step hr (by omega) hb (Nat.le_refl _) (z : Int) (by rw [← HG.out])
      go_ret
      have hr2 := hst.1
      rw [fillN_all] at hr2
      refine ⟨_, _, _, _, rfl, hr2.sl (limbs_digN _ _) (digN_length _ _) (by omega), ?_, by omega, fun _ => ⟨_, rfl, Nat.le_refl _⟩, hst.2⟩
      rw [val_digN_of_lt (by rw [HV.out]; exact add_lt l l' j h.lt h'.lt (by rw [HL.out]; omega) (by rw [HL'.out]; omega)), HV.out]

set_option maxHeartbeats 1000000 in
theorem add_lt' (A B : Option Addr) (n c m d : Nat) (l l' : List Nat) (w : World) (h : SL w A n c l) (h' : SL w B m d l') (hn : n ≤ 1000000) (hmn : m < n) :
    Calls Tryz.prog 198 #[.slice B m d, .slice A n c] w (RetV (val l + val l') 1000001 w) := by
  have hcap := h.cap
  have hcap' := h'.cap
  have HL := Lib.hid h.len
  have HL' := Lib.hid h'.len
  go_enter Tryz.func198, Tryz.ntmps198
  go_wp2_with (at_make; refine wpList_mk rfl (.tmp 19) (.tmp 19) _ 60 rfl u32_info Tryz.underlying23 .i64 .i64 _ _ (n + 1) (n + 1) rfl rfl (by omega) (by omega) (Nat.le_refl _) (by omega) ?_; intro w1 hr1 hb1 hs1)
  obtain ⟨V, hV⟩ : ∃ V, V = val l + val l' := ⟨_, rfl⟩
  have HV := Lib.hid hV
  clear hV
  go_loopw [6, 23] (fun cy i wr => ∃ j z : Nat, j ≤ n ∧ i = .int .i64 j ∧ cy = .int .u32 (z : Int) ∧ z ≤ 1 ∧ Hid (z = addC l l' j) ∧ Row wr w.heap.size 60 (fillN (n + 1) V j) ∧ Below w.heap.size w wr) (fun _ i _ => n - (intOf i).toNat)
  case atStart => exact ⟨0, 0, Nat.zero_le _, rfl, rfl, by omega, (addC_zero _ _).symm, by rw [fillN_zero]; exact hr1, hb1⟩
  case round =>
    obtain ⟨j, z, hj, rfl, rfl, hz, HZ, hr, hb⟩ := hrel
    by_cases hlt : j < n
    · obtain ⟨b, off, x, rfl, hxb, hx, hcell, hxlt⟩ := (h.below hb).get hlt
      have HX := Lib.hid (lim_some hx)
      clear hx
      have hoc := hr.cell (fillN_get (n := n + 1) (by omega : j < n + 1))
      have hof := Blk.frozen hr j
      by_cases hlast : j < m
      · obtain ⟨b', off', y, rfl, hyb, hy, hcelly, hylt⟩ := (h'.below hb).get hlast
        have HY := Lib.hid (lim_some hy)
        clear hy
        have HC : Hid ((x + y + z) / 4294967296 = addC l l' (j + 1)) := by unfold Hid; rw [add_carry, HX.out, HY.out, ← HZ.out]
        have HG : Hid ((x + y + z) % 4294967296 = dig V j) := by unfold Hid; rw [HV.out, add_dig, HX.out, HY.out, ← HZ.out]
        have hc1 : (x + y + z) / 4294967296 ≤ 1 := by omega
        go_wp2_with fail
        refine (add32_any x y z _ hxlt hylt hz).mono ?_
        rintro e w' ⟨rfl, rfl⟩
        generalize (x + y + z) / 4294967296 = cc at *
        generalize (x + y + z) % 4294967296 = gg at *
        go_wp2_with fail
        have hst := rows_step hr (by omega) hb (Nat.le_refl _) (gg : Int) (by rw [HG.out])
        go_roundw
        case rel => exact ⟨j + 1, cc, by omega, by go_num, rfl, hc1, HC, hst.1, hst.2⟩
        case measure => simp [intOf]; omega
      · have HY : Hid (lim l' j = 0) := lim_none (by rw [HL'.out]; omega)
        have HC : Hid ((x + 0 + z) / 4294967296 = addC l l' (j + 1)) := by unfold Hid; rw [add_carry, HX.out, HY.out, ← HZ.out]
        have HG : Hid ((x + 0 + z) % 4294967296 = dig V j) := by unfold Hid; rw [HV.out, add_dig, HX.out, HY.out, ← HZ.out]
        have hc1 : (x + 0 + z) / 4294967296 ≤ 1 := by omega
        go_wp2_with fail
        refine (add32_any x 0 z _ hxlt (by omega) hz).mono ?_
        rintro e w' ⟨rfl, rfl⟩
        generalize (x + 0 + z) / 4294967296 = cc at *
        generalize (x + 0 + z) % 4294967296 = gg at *
        go_wp2_with fail
        have hst := rows_step hr (by omega) hb (Nat.le_refl _) (gg : Int) (by rw [HG.out])
        go_roundw
        case rel => exact ⟨j + 1, cc, by omega, by go_num, rfl, hc1, HC, hst.1, hst.2⟩
        case measure => simp [intOf]; omega
    · obtain rfl : j = n := by omega
      have hoc := hr.cell (fillN_get (n := j + 1) (by omega : j < j + 1))
      have hof := Blk.frozen hr j
      have HG : Hid (z = dig V j) := by unfold Hid; rw [HV.out, add_last l l' j h.lt h'.lt (by rw [HL.out]; omega) (by rw [HL'.out]; omega), ← HZ.out]
      go_wp2_with fail
      have hst := rows_step hr (by omega) hb (Nat.le_refl _) (z : Int) (by rw [← HG.out])
      go_ret
      have hr2 := hst.1
      rw [fillN_all] at hr2
      refine ⟨_, _, _, _, rfl, hr2.sl (limbs_digN _ _) (digN_length _ _) (by omega), ?_, by omega, fun _ => ⟨_, rfl, Nat.le_refl _⟩, hst.2⟩
      rw [val_digN_of_lt (by rw [HV.out]; exact add_lt l l' j h.lt h'.lt (by rw [HL.out]; omega) (by rw [HL'.out]; omega)), HV.out]

end Go.Proofs.YtekajoifgdpmlaaGreatDoor
