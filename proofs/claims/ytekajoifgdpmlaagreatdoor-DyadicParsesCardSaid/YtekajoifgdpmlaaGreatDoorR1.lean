/- The reference: trim, zeros, right, bits, compare: what each call computes. -/
import Derived.Test.YtekajoifgdpmlaaGreatDoorA3
namespace Go.Proofs.YtekajoifgdpmlaaGreatDoor
open Go.RowKit Pl Go.Shelf

set_option maxHeartbeats 400000 in
theorem rtrim_any (A : Option Addr) (n c : Nat) (l : List Nat) (w : World) (h : SL w A n c l) (hn : n ≤ 1000000) :
    Calls Tryz.prog 40 #[.slice A n c] w (RetS (digs (val l)) w) := by
  have hcap := h.cap
  have hmax := h.max
  have hlen := Lib.hid h.len
  go_enter Tryz.func40, Tryz.ntmps40
  go_wp2_with fail
  go_loop [3] (fun i => ∃ k : Nat, k ≤ n ∧ i = .int .i64 k ∧ Hid (∀ j, k ≤ j → j < n → l[j]? = some 0)) (fun i => (intOf i).toNat)
  case atStart => exact ⟨n, Nat.le_refl _, rfl, fun j h1 h2 => absurd h2 (by omega)⟩
  case round =>
    obtain ⟨k, hk, rfl, HZ⟩ := hrel
    have hw := (h.take hk).alloc (.cells #[] 60)
    have fin : (k = 0 ∨ l[k - 1]? ≠ some 0) → ∀ v1 w1, Own w1 w.heap.size 60 v1 ([] ++ l.take k) → Below w.heap.size (w.alloc (.cells #[] 60)) w1 → RetS (digs (val l)) w (.returned v1) w1 := by
      intro he v1 w1 hown1 hb1
      have e := take_trim l h.lt k (by rw [hlen.out]; exact hk) (fun j h1 h2 => HZ.out j h1 (by rw [hlen.out] at h2; exact h2)) he
      rw [List.nil_append, e] at hown1
      obtain ⟨A1, c1, rfl, hs1, hf1⟩ := hown1.sl (limbs_digs _)
      exact ⟨_, _, _, rfl, hs1, hf1, (ballo _ _).trans hb1⟩
    have FIN := Lib.hid fin
    clear fin
    by_cases h0 : 0 < k
    · obtain ⟨b, off, x, rfl, hb, hx, hcell, hlt⟩ := h.get (k := k - 1) (by omega)
      have HX := Lib.hid hx
      clear hx
      by_cases hx0 : x = 0
      · subst hx0
        go_wp2_with fail
        go_round
        case rel => exact ⟨k - 1, by omega, by go_num, trimStep HZ.out HX.out⟩
        case measure => simp [intOf]; omega
      · have hx1 : ((x : Int) == 0) = false := by simp; omega
        go_wp2_with (at_builtin; refine wpList_app rfl (.tmp 18) (.tmp 21) _ rfl 60 u32_info Tryz.underlying23 w.heap.size _ [] rfl (Own.row (Blk.new _ _ _) (Nat.le_refl _) (by simp)) _ k c (l.take k) rfl hw (by simp; omega) (by simp) ?_; intro v1 w1 hown1 hb1)
        go_ret
        exact FIN.out (.inr (by rw [HX.out]; simp; omega)) v1 w1 hown1 hb1
    · obtain rfl : k = 0 := by omega
      go_wp2_with (at_builtin; refine wpList_app rfl (.tmp 18) (.tmp 21) _ rfl 60 u32_info Tryz.underlying23 w.heap.size _ [] rfl (Own.row (Blk.new _ _ _) (Nat.le_refl _) (by simp)) _ 0 c (l.take 0) rfl hw (by simp) (by simp) ?_; intro v1 w1 hown1 hb1)
      go_ret
      exact FIN.out (by simp) v1 w1 hown1 hb1

theorem and_one32 (x : Nat) (hx : x < 4294967296) : bits .and .u32 (x : Int) 1 = ((x % 2 : Nat) : Int) := by
  have := u32_and_nat x 1 hx (by omega)
  rw [Nat.and_one_is_mod] at this
  exact this

set_option maxHeartbeats 400000 in
theorem zeros_any (A : Option Addr) (n c : Nat) (l : List Nat) (w : World) (h : SL w A n c l) (hn : n ≤ 1000000) (h0 : 0 < val l) :
    Calls Tryz.prog 179 #[.slice A n c] w fun e w' => e = .returned (.int .i64 (tz (val l))) ∧ w = w' := by
  have hcap := h.cap
  have hidx := tz_index l h.lt h0
  rw [h.len] at hidx
  have H0 := Lib.hid h0
  clear h0
  generalize hz : tz (val l) = z at *
  have HZ := Lib.hid hz
  clear hz
  go_enter Tryz.func179, Tryz.ntmps179
  go_wp2_with fail
  go_loop [3] (fun i => ∃ k : Nat, k ≤ z ∧ i = .int .i64 k) (fun i => z - (intOf i).toNat)
  case atStart => exact ⟨0, Nat.zero_le _, rfl⟩
  case round =>
    obtain ⟨k, hk, rfl⟩ := hrel
    obtain ⟨b, off, x, rfl, hb, hx, hcell, hlt⟩ := h.get (k := k / 32) (by omega)
    have hbit := bit_at l h.lt k x hx
    have htz := bit_tz (val l) k H0.out (by rw [HZ.out]; exact hk)
    rw [HZ.out] at htz
    have hxr : x / 2 ^ (k % 32) < 4294967296 := Nat.lt_of_le_of_lt (Nat.div_le_self _ _) hlt
    have hand := and_one32 (x / 2 ^ (k % 32)) hxr
    rw [Int.natCast_ediv, Int.natCast_pow, show ((2 : Nat) : Int) = 2 from rfl] at hand
    have HA := Lib.hid hand
    clear hand hxr
    have HX := Lib.hid hx
    clear hx
    by_cases hkz : k = z
    · subst hkz
      have h1 : x / 2 ^ (k % 32) % 2 = 1 := by rw [hbit]; exact htz.2 rfl
      have ha : bits .and .u32 ((x : Int) / 2 ^ (k % 32)) 1 = 1 := by rw [HA.out, h1]; rfl
      clear hbit htz h1
      go_wp2_with fail
      go_ret
      exact ⟨rfl, rfl⟩
    · have h1 : x / 2 ^ (k % 32) % 2 = 0 := by
        have : ¬ val l / 2 ^ k % 2 = 1 := fun h => hkz (htz.1 h)
        omega
      have ha : bits .and .u32 ((x : Int) / 2 ^ (k % 32)) 1 = 0 := by rw [HA.out, h1]; rfl
      clear hbit htz h1
      go_wp2_with fail
      go_round
      case rel => exact ⟨k + 1, by omega, by go_num⟩
      case measure => simp [intOf]; omega

theorem mask32 (a : Nat) (ha : a < 18446744073709551616) : bits .and .u64 (a : Int) 4294967295 = ((a % 4294967296 : Nat) : Int) := by
  have := u64_and_nat a 4294967295 ha (by omega)
  rw [show (4294967295 : Nat) = 2 ^ 32 - 1 from rfl, Nat.and_two_pow_sub_one_eq_mod] at this
  exact this
theorem maskMod (a : Nat) (ha : a < 18446744073709551616) : bits .and .u64 (a : Int) 4294967295 % 4294967296 = ((a % 4294967296 : Nat) : Int) := by
  rw [mask32 a ha]; omega
theorem rr_mid {dl : List Nat} (h : Limbs dl) {j x y k V : Nat} (hV : V = val dl / 2 ^ (k % 32)) (hx : dl[j]? = some x) (hy : dl[j + 1]? = some y) :
    bits .and .u64 (bits .or .u64 (x : Int) ((y : Int) * 4294967296) / 2 ^ (k % 32)) 4294967295 % 4294967296 = ((dig V j : Nat) : Int) := by
  have e := shr_mid h (k := k) hx hy
  have hxl := h.get hx
  have hyl := h.get hy
  rw [show bits .or .u64 (x : Int) ((y : Int) * 4294967296) = ((2 ^ 32 * y + x : Nat) : Int) from (or_low64 x y 32 hxl (by omega)).2] at e ⊢
  have e2 : ((2 ^ 32 * y + x : Nat) : Int) / 2 ^ (k % 32) = (((2 ^ 32 * y + x) / 2 ^ (k % 32) : Nat) : Int) := by rw [Int.natCast_ediv, Int.natCast_pow]; rfl
  rw [e2] at e ⊢
  rw [maskMod _ (Nat.lt_of_le_of_lt (Nat.div_le_self _ _) (by omega)), hV, ← e]
  omega
theorem rr_last {dl : List Nat} (h : Limbs dl) {j x k V : Nat} (hV : V = val dl / 2 ^ (k % 32)) (hx : dl[j]? = some x) (hy : dl[j + 1]? = none) :
    bits .and .u64 ((x : Int) / 2 ^ (k % 32)) 4294967295 % 4294967296 = ((dig V j : Nat) : Int) := by
  have e := shr_last h (k := k) hx hy
  have hxl := h.get hx
  have e2 : (x : Int) / 2 ^ (k % 32) = ((x / 2 ^ (k % 32) : Nat) : Int) := by rw [Int.natCast_ediv, Int.natCast_pow]; rfl
  rw [e2] at e ⊢
  rw [maskMod _ (Nat.lt_of_le_of_lt (Nat.div_le_self _ _) (by omega)), hV, ← e]
  omega

set_option maxRecDepth 100000 in
set_option maxHeartbeats 1000000 in
theorem rright_any (A : Option Addr) (n c k : Nat) (l : List Nat) (w : World) (h : SL w A n c l) (hn : n ≤ 1000000) (hk : k ≤ 100000000) :
    Calls Tryz.prog 180 #[.slice A n c, .int .i64 (k : Int)] w (RetS (digs (val l / 2 ^ k)) w) := by
  have hlen := h.len
  have hcap := h.cap
  have hmax := h.max
  have HL := Lib.hid hlen
  clear hlen
  by_cases hbig : n ≤ k / 32
  · have hv : val l / 2 ^ k = 0 := by
      rw [Nat.div_eq_of_lt]
      have h1 := val_lt l h.lt
      rw [HL.out, base_pow] at h1
      exact Nat.lt_of_lt_of_le h1 (Nat.pow_le_pow_right (by omega) (by omega))
    have HV := Lib.hid hv
    clear hv
    go_enter Tryz.func180, Tryz.ntmps180
    go_wp2_with fail
    go_ret
    rw [HV.out]
    exact ⟨_, _, _, rfl, SL.nil _, Fresh.zero, Below.refl _ _⟩
  · obtain ⟨b, off, rfl, _, _⟩ := h.at_ (by omega)
    have hdec : decide ((n : Int) ≤ (k : Int) / 32) = false := by simp; omega
    have hS := h.drop (k := k / 32) (by omega)
    have HV := Lib.hid (val_drop l h.lt (k / 32) (by rw [HL.out]; omega))
    go_enter Tryz.func180, Tryz.ntmps180
    go_wp2_with fail
    have HM : Hid (n - k / 32 ≤ 1000000) := by unfold Hid; omega
    clear hdec hbig hcap hmax
    generalize n - k / 32 = M at *
    generalize off + k / 32 = off2 at *
    generalize c - k / 32 = c2 at *
    generalize l.drop (k / 32) = dl at *
    have hM := HM.out
    obtain ⟨V, hV⟩ : ∃ V, V = val dl / 2 ^ (k % 32) := ⟨_, rfl⟩
    have HVV := Lib.hid hV
    clear hV
    go_loopw [5, 6] (fun v i wr => ∃ j : Nat, j ≤ M ∧ i = .int .i64 j ∧ Own wr w.heap.size 60 v (digN j V) ∧ Below w.heap.size w wr) (fun _ i _ => M - (intOf i).toNat)
    case atStart => exact ⟨0, Nat.zero_le _, rfl, Own.nil _ _ _, Below.refl _ _⟩
    case round =>
      obtain ⟨j, hj, rfl, hr, hb⟩ := hrel
      by_cases hlt : j < M
      · obtain ⟨x, hxb, hx, hcell, hxlt⟩ := (hS.below hb).get' hlt
        have HX := Lib.hid hx
        clear hx
        by_cases hlast : j + 1 < M
        · obtain ⟨y, hyb, hy, hcelly, hylt⟩ := (hS.below hb).get' hlast
          have HY := Lib.hid hy
          clear hy
          go_wp2_with (at_builtin; refine wpList_app rfl (.tmp 42) (.tmp 50) _ rfl 60 u32_info Tryz.underlying23 w.heap.size _ (digN j V) rfl (hr.alloc _) _ 1 1 [dig V j] rfl (SL.oneI _ _ _ _ (rr_mid hS.lt HVV.out HX.out HY.out) (dig_lt _ _)) (by rw [digN_length]; omega) (by have := hb.size; simp; omega) ?_; intro v1 w1 hown1 hb1)
          rw [← digN_succ] at hown1
          have hbw := (hb.alloc hb.size _).trans hb1
          go_roundw
          case rel => exact ⟨j + 1, by omega, by go_num, hown1, hbw⟩
          case measure => simp [intOf]; omega
        · go_wp2_with (at_builtin; refine wpList_app rfl (.tmp 42) (.tmp 50) _ rfl 60 u32_info Tryz.underlying23 w.heap.size _ (digN j V) rfl (hr.alloc _) _ 1 1 [dig V j] rfl (SL.oneI _ _ _ _ (rr_last hS.lt HVV.out HX.out (List.getElem?_eq_none (by rw [hS.len]; omega))) (dig_lt _ _)) (by rw [digN_length]; omega) (by have := hb.size; simp; omega) ?_; intro v1 w1 hown1 hb1)
          rw [← digN_succ] at hown1
          have hbw := (hb.alloc hb.size _).trans hb1
          go_roundw
          case rel => exact ⟨j + 1, by omega, by go_num, hown1, hbw⟩
          case measure => simp [intOf]; omega
      · obtain ⟨A1, c1, rfl, hs1, hf1⟩ := hr.sl (limbs_digN _ _)
        rw [digN_length] at hs1 hf1 ⊢
        go_wp2_with fail
        refine (rtrim_any A1 j c1 _ _ hs1 (by omega)).mono ?_
        rintro e w2 ⟨A2, n2, c2, rfl, hs2, hf2, hb2⟩
        go_wp2_with fail
        go_ret
        obtain rfl : j = M := by omega
        have hlt := val_lt dl hS.lt
        rw [hS.len] at hlt
        rw [val_digN_of_lt (by rw [HVV.out]; exact Nat.lt_of_le_of_lt (Nat.div_le_self _ _) hlt), HVV.out, HV.out, Nat.div_div_eq_div_mul, base_pow, ← Nat.pow_add, show 32 * (k / 32) + k % 32 = k from by omega] at hs2
        exact ⟨A2, n2, c2, rfl, hs2, hf2.mono hb.size, bnext hb hb2⟩

end Go.Proofs.YtekajoifgdpmlaaGreatDoor
