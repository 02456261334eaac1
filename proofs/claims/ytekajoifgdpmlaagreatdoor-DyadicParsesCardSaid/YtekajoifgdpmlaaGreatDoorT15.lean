/- The reference's digits: what the call computes. -/
import Derived.Test.YtekajoifgdpmlaaGreatDoorTB
namespace Go.Proofs.YtekajoifgdpmlaaGreatDoor
open Go.RowKit Pl Go.Shelf

theorem len_one (t : List UInt8) : ((t.length : Int) + 1 == 1) = (t.length == 0) := by
  rw [Bool.eq_iff_iff, beq_iff_eq, beq_iff_eq]
  omega

set_option maxRecDepth 100000 in
set_option maxHeartbeats 2000000 in
theorem rdigits_any (s : List UInt8) (w : World) (hs : s.length ≤ 1000000) :
    Calls Tryz.prog 37 #[.string ⟨s.toArray⟩] w fun e w' => e = .returned (.bool (decOk s)) ∧ w = w' := by
  go_enter Tryz.func37, Tryz.ntmps37
  go_wp2_with fail
  go_loop [3] (fun i => ∃ k : Nat, k ≤ s.length ∧ i = .int .i64 k ∧ Hid (∀ j, j < k → (s[j]?).map isDig = some true)) (fun i => s.length - (intOf i).toNat)
  case atStart => exact ⟨0, by omega, rfl, fun j hj => absurd hj (by omega)⟩
  case round =>
    obtain ⟨k, hk, rfl, HD⟩ := hrel
    by_cases hlt : k < s.length
    · obtain ⟨ch, hsk⟩ : ∃ ch, s[k] = ch := ⟨_, rfl⟩
      have hby : ∀ h, (⟨s.toArray⟩ : ByteArray)[k]'h = ch := fun _ => hsk
      by_cases hd : isDig ch = true
      · have hb : 48 ≤ ch.toNat ∧ ch.toNat ≤ 57 := by simpa [isDig] using hd
        have HD2 : Hid (∀ i, i < k + 1 → (s[i]?).map isDig = some true) := fun i hi => by
          by_cases h : i < k
          · exact HD.out i h
          · obtain rfl : i = k := by omega
            rw [List.getElem?_eq_getElem hlt, hsk]; simp [hd]
        obtain ⟨b1, b2⟩ := hb
        clear hd
        go_wp2_with fail
        go_round
        case rel => exact ⟨k + 1, by omega, by go_num, HD2⟩
        case measure => simp [intOf]; omega
      · have hna : s.all isDig = false := by
          rw [← Bool.not_eq_true, List.all_eq_true]
          intro h
          exact hd (h ch (hsk ▸ List.getElem_mem hlt))
        have HNA : Hid (decOk s = false) := by unfold Hid decOk; rw [hna]; simp
        have hnb : ch.toNat < 48 ∨ 57 < ch.toNat := by simp [isDig] at hd; omega
        clear hd hna
        by_cases hc : ch.toNat < 48
        · have hc' : decide ((ch.toNat : Int) < 48) = true := by simp; omega
          go_wp2_with fail
          go_ret
          exact ⟨by rw [HNA.out]; rfl, rfl⟩
        · have hc' : decide ((ch.toNat : Int) < 48) = false := by simp; omega
          have hc2 : 57 < ch.toNat := by omega
          have hc3 : decide (57 < (ch.toNat : Int)) = true := by simp; omega
          go_wp2_with fail
          go_ret
          exact ⟨by rw [HNA.out]; rfl, rfl⟩
    · have hall : s.all isDig = true := by
        rw [List.all_eq_true]
        intro x hx
        obtain ⟨i, hi, rfl⟩ := List.getElem_of_mem hx
        have := HD.out i (by omega)
        rw [List.getElem?_eq_getElem hi] at this
        simpa using this
      have HR : Hid (decOk s = (!s.isEmpty && (s.head? != some 48 || s.length == 1))) := by unfold Hid decOk; rw [hall]; simp
      clear hall HD
      cases s with
      | nil =>
        go_wp2_with fail
        go_ret
        exact ⟨by rw [HR.out]; rfl, rfl⟩
      | cons c t =>
        have hb0 : ∀ h, (⟨(c :: t).toArray⟩ : ByteArray)[0]'h = c := fun _ => rfl
        by_cases hc : c = 48
        · subst hc
          have hb1 : ((48 : UInt8).toNat : Int) = 48 := rfl
          simp only [List.length_cons] at hlt hk hs
          go_wp2_with fail
          go_ret
          exact ⟨by rw [HR.out]; simp; exact len_one t, rfl⟩
        · have hc5 : ¬ c.toNat = 48 := fun h => hc (UInt8.toNat_inj.1 h)
          have hc4 : ¬ (c.toNat : Int) = 48 := by omega
          have hc6 : ((c.toNat : Int) == 48) = false := by simpa using hc4
          have hc7 : ((c.toNat : Int) != 48) = true := by simpa using hc4
          simp only [List.length_cons] at hlt hk hs
          go_wp2_with fail
          go_ret
          exact ⟨by rw [HR.out]; simp [hc], rfl⟩

end Go.Proofs.YtekajoifgdpmlaaGreatDoor
