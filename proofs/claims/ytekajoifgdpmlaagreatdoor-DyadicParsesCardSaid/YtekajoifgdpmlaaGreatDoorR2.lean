/- The reference: bits, compare, Equal: what each call computes. -/
import Derived.Test.YtekajoifgdpmlaaGreatDoorR1
import Derived.Test.YtekajoifgdpmlaaGreatDoorA5
namespace Go.Proofs.YtekajoifgdpmlaaGreatDoor
open Go.RowKit Pl Go.Shelf

set_option maxHeartbeats 400000 in
theorem rbits_any (A : Option Addr) (n c : Nat) (l : List Nat) (w : World) (h : SL w A n c l) (hn : n ≤ 1000000) (ht : Trim l) :
    Calls Tryz.prog 134 #[.slice A n c] w fun e w' => e = .returned (.int .i64 (blen (val l))) ∧ w = w' := by
  by_cases h0 : n = 0
  · have hl := h.empty h0
    subst h0
    subst hl
    go_enter Tryz.func134, Tryz.ntmps134
    go_wp2_with fail
    go_ret
    exact ⟨rfl, rfl⟩
  · obtain ⟨k, rfl⟩ : ∃ k, n = k + 1 := ⟨n - 1, by omega⟩
    obtain ⟨b, off, x, rfl, hb, hx, hcell, hlt⟩ := h.get (k := k) (by omega)
    have hx0 : 0 < x := by
      rcases Nat.eq_zero_or_pos x with rfl | hp
      · exact absurd (by rw [List.getLast?_eq_getElem?, h.len]; exact hx) ht
      · exact hp
    have hb1 := le_blen x hx0
    have hb2 := lt_blen x
    have hb3 := blen_pos x hx0
    have hfin : blen (val l) = 32 * k + blen x := by
      have := blen_top l h.lt k x (blen x - 1) h.len hx hb1 (by rw [show blen x - 1 + 1 = blen x from by omega]; exact hb2)
      omega
    have hbl : blen x ≤ 32 := blen_le_of x 32 hlt
    have HF := Lib.hid hfin
    have HX := Lib.hid hx
    have HT := Lib.hid ht
    clear hfin hx hb1 hb2 ht h0
    go_enter Tryz.func134, Tryz.ntmps134
    go_wp2_with fail
    go_loop [3, 4] (fun s v => ∃ y t : Nat, y ≤ x ∧ v = .int .u32 (y : Int) ∧ s = .int .i64 (32 * k + t) ∧ t ≤ 32 ∧ Hid (blen x = t + blen y)) (fun _ v => (intOf v).toNat)
    case atStart => exact ⟨x, 0, Nat.le_refl _, rfl, by go_num, by omega, by simp [Hid]⟩
    case round =>
      obtain ⟨y, t, hy, rfl, rfl, ht, HB⟩ := hrel
      by_cases hy0 : 0 < y
      · have hh := blen_half y hy0
        have hB := HB.out
        have HH : Hid (blen x = (t + 1) + blen (y / 2)) := by unfold Hid; omega
        have ht' : t + 1 ≤ 32 := by omega
        clear hh hB
        go_wp2_with fail
        go_round
        case rel => exact ⟨y / 2, t + 1, by omega, by go_num, by go_num, ht', HH⟩
        case measure => simp [intOf]; omega
      · obtain rfl : y = 0 := by omega
        go_wp2_with fail
        go_ret
        have hB := HB.out
        rw [blen_zero] at hB
        exact ⟨by rw [HF.out, hB]; go_num, rfl⟩

set_option maxHeartbeats 1000000 in
theorem rcompare_any (A B : Option Addr) (n c m d : Nat) (l l' : List Nat) (w : World) (h : SL w A n c l) (h' : SL w B m d l') :
    Calls Tryz.prog 99 #[.slice A n c, .slice B m d] w fun e w' => e = .returned (.int .i64 (cmpL l l')) ∧ ∃ q, w' = w.drewN q := by
  have hcap := h.cap
  have hcap' := h'.cap
  have hmax := h.max
  have hmax' := h'.max
  have HK := Lib.hid h.len
  have HK' := Lib.hid h'.len
  by_cases hlt : n < m
  · have hne : ((n : Int) == (m : Int)) = false := by simp; omega
    have hne' : ((n : Int) != (m : Int)) = true := by simp; omega
    go_enter Tryz.func99, Tryz.ntmps99
    go_wp2_with fail
    go_ret
    exact ⟨by rw [cmpL, HK.out, HK'.out, if_pos hlt]; rfl, 0, rfl⟩
  by_cases hgt : m < n
  · have hne : ((n : Int) == (m : Int)) = false := by simp; omega
    have hne' : ((n : Int) != (m : Int)) = true := by simp; omega
    go_enter Tryz.func99, Tryz.ntmps99
    go_wp2_with fail
    go_ret
    exact ⟨by rw [cmpL, HK.out, HK'.out, if_neg hlt, if_pos hgt]; rfl, 0, rfl⟩
  obtain rfl : n = m := by omega
  have HC : Hid (cmpL l l' = cmpN (val l) (val l')) := by unfold Hid cmpL; rw [HK.out, HK'.out, if_neg hlt, if_neg hgt]
  clear hlt hgt
  go_enter Tryz.func99, Tryz.ntmps99
  go_wp2_with fail
  go_loopw [5] (fun i wr => ∃ j : Nat, j ≤ n ∧ i = .int .i64 ((j : Int) - 1) ∧ (∃ q, wr = w.drewN q) ∧ Hid (l.drop j = l'.drop j)) (fun i _ => (intOf i + 1).toNat)
  case atStart => exact ⟨n, Nat.le_refl _, rfl, ⟨0, rfl⟩, by rw [Hid, List.drop_of_length_le (by rw [HK.out]; omega), List.drop_of_length_le (by rw [HK'.out]; omega)]⟩
  case round =>
    obtain ⟨j, hj, rfl, ⟨q, rfl⟩, HD⟩ := hrel
    by_cases h0 : j = 0
    · subst h0
      go_wp2_with fail
      go_ret
      exact ⟨by rw [HC.out, cmpN_eq (by have := HD.out; simp at this; rw [this])]; rfl, q, rfl⟩
    · obtain ⟨t, rfl⟩ : ∃ t, j = t + 1 := ⟨j - 1, by omega⟩
      rw [show ((t + 1 : Nat) : Int) - 1 = (t : Int) from by omega]
      obtain ⟨b, off, x, rfl, hb, hx, hcell, hxlt⟩ := h.get (k := t) (by omega)
      obtain ⟨b', off', y, rfl, hb', hy, hcell', hylt⟩ := h'.get (k := t) (by omega)
      have HX := Lib.hid hx
      have HY := Lib.hid hy
      clear hx hy
      have ht : t < n := by omega
      by_cases hxy : x < y
      · go_wp2_with fail
        go_quiet (fail)
        go_wp2_with fail
        go_ret
        exact ⟨by rw [HC.out, cmpN_lt (val_lt_of_top h.lt (by rw [HK.out, HK'.out]) HD.out HX.out HY.out hxy)]; rfl, _, by rw [World.drewN_drewN]⟩
      by_cases hyx : y < x
      · go_wp2_with fail
        go_quiet (fail)
        go_wp2_with fail
        go_quiet (fail)
        go_wp2_with fail
        go_ret
        exact ⟨by rw [HC.out, cmpN_gt (val_lt_of_top h'.lt (by rw [HK.out, HK'.out]) HD.out.symm HY.out HX.out hyx)]; rfl, _, by rw [World.drewN_drewN, World.drewN_drewN]⟩
      · obtain rfl : x = y := by omega
        go_wp2_with fail
        go_quiet (fail)
        go_wp2_with fail
        go_quiet (fail)
        go_wp2_with fail
        go_roundw
        case rel => exact ⟨t, by omega, rfl, ⟨_, by first | rfl | rw [World.drewN_drewN, World.drewN_drewN]⟩, drop_step HD.out HX.out HY.out⟩
        case measure => simp [intOf]

end Go.Proofs.YtekajoifgdpmlaaGreatDoor
