import Derived.Test.YtekajoifgdpmlaaGreatDoorRows
import Derived.Test.YtekajoifgdpmlaaGreatDoorWords
import Derived.Test.YtekajoifgdpmlaaGreatDoorShelf
import Derived.Outline
namespace Go.Proofs.YtekajoifgdpmlaaGreatDoor
open Go.RowKit Pl

theorem trimStep {l : List Nat} {n k : Nat} (hz : ∀ j, k ≤ j → j < n → l[j]? = some 0) (hx : l[k - 1]? = some 0) : ∀ j, k - 1 ≤ j → j < n → l[j]? = some 0 := by
  intro j h1 h2
  by_cases hj : k ≤ j
  · exact hz j hj h2
  · obtain rfl : j = k - 1 := by omega
    exact hx
theorem trimEnd {w : World} {A : Option Addr} {n c k : Nat} {l : List Nat} (h : SL w A n c l) (hk : k ≤ n) (hz : ∀ j, k ≤ j → j < n → l[j]? = some 0) (he : k = 0 ∨ l[k - 1]? ≠ some 0) :
    Ending.returned (.slice A k c) = .returned (.slice A (digs (val l)).length c) := by
  have hl := h.len
  rw [← take_trim l h.lt k (by omega) (fun j h1 h2 => hz j h1 (by omega)) he, List.length_take, Nat.min_eq_left (by omega)]

set_option maxHeartbeats 400000 in
theorem trim_any (A : Option Addr) (n c : Nat) (l : List Nat) (w : World) (h : SL w A n c l) :
    Calls Tryz.prog 113 #[.slice A n c] w fun e w' => e = .returned (.slice A (digs (val l)).length c) ∧ w = w' := by
  have hcap := h.cap
  have hmax := h.max
  have hlen := Lib.hid h.len
  go_enter Tryz.func113, Tryz.ntmps113
  go_wp2
  go_loop [3] (fun i => ∃ k : Nat, k ≤ n ∧ i = .int .i64 k ∧ ∀ j, k ≤ j → j < n → l[j]? = some 0) (fun i => (intOf i).toNat)
  case atStart => exact ⟨n, Nat.le_refl _, rfl, fun j h1 h2 => absurd h2 (by omega)⟩
  case round =>
    obtain ⟨k, hk, rfl, hz⟩ := hrel
    have HZ := Lib.hid hz
    clear hz
    by_cases h0 : 0 < k
    · obtain ⟨b, off, x, rfl, hb, hx, hcell, hlt⟩ := h.get (k := k - 1) (by omega)
      have HX := Lib.hid hx
      clear hx
      by_cases hx0 : x = 0
      · subst hx0
        go_wp2
        go_round
        case rel => exact ⟨k - 1, by omega, by go_num, trimStep HZ.out HX.out⟩
        case measure => simp [intOf]; omega
      · have hx1 : ((x : Int) == 0) = false := by simp; omega
        go_wp2
        go_ret
        exact ⟨trimEnd h hk HZ.out (.inr (by rw [HX.out]; simp; omega)), rfl⟩
    · obtain rfl : k = 0 := by omega
      go_wp2
      go_ret
      exact ⟨trimEnd h hk HZ.out (.inl rfl), rfl⟩

set_option maxHeartbeats 400000 in
theorem trimmed_any (A : Option Addr) (n c : Nat) (l : List Nat) (w : World) (h : SL w A n c l) :
    Calls Tryz.prog 107 #[.slice A n c] w fun e w' => e = .returned (.slice A (digs (val l)).length c) ∧ w = w' := by
  have hcap := h.cap
  have hmax := h.max
  have hlen := Lib.hid h.len
  go_enter Tryz.func107, Tryz.ntmps107
  go_wp2
  go_loop [3] (fun i => ∃ k : Nat, k ≤ n ∧ i = .int .i64 k ∧ ∀ j, k ≤ j → j < n → l[j]? = some 0) (fun i => (intOf i).toNat)
  case atStart => exact ⟨n, Nat.le_refl _, rfl, fun j h1 h2 => absurd h2 (by omega)⟩
  case round =>
    obtain ⟨k, hk, rfl, hz⟩ := hrel
    have HZ := Lib.hid hz
    clear hz
    by_cases h0 : 0 < k
    · obtain ⟨b, off, x, rfl, hb, hx, hcell, hlt⟩ := h.get (k := k - 1) (by omega)
      have HX := Lib.hid hx
      clear hx
      by_cases hx0 : x = 0
      · subst hx0
        go_wp2
        go_round
        case rel => exact ⟨k - 1, by omega, by go_num, trimStep HZ.out HX.out⟩
        case measure => simp [intOf]; omega
      · have hx1 : ((x : Int) == 0) = false := by simp; omega
        go_wp2
        go_ret
        exact ⟨trimEnd h hk HZ.out (.inr (by rw [HX.out]; simp; omega)), rfl⟩
    · obtain rfl : k = 0 := by omega
      go_wp2
      go_ret
      exact ⟨trimEnd h hk HZ.out (.inl rfl), rfl⟩


set_option maxHeartbeats 400000 in
theorem clip_any (A : Option Addr) (n c : Nat) (w : World) (hcap : n ≤ c) (_hmax : c ≤ 9223372036854775807) :
    Calls Tryz.prog 110 #[.slice A n c] w fun e w' => e = .returned (.slice A n n) ∧ w = w' := by
  go_enter Tryz.func110, Tryz.ntmps110
  go_wp2
  go_ret
  exact ⟨rfl, rfl⟩

def expB (e : Int) : Bool := decide (-32768 ≤ e) && decide (e ≤ 32768)
set_option maxHeartbeats 400000 in
theorem exponent_any (e : Int) (w : World) :
    Calls Tryz.prog 97 #[.int .i64 e] w fun r w' => r = .returned (.bool (expB e)) ∧ w = w' := by
  by_cases h1 : -32768 ≤ e
  · by_cases h2 : e ≤ 32768
    · go_enter Tryz.func97, Tryz.ntmps97
      go_wp2
      go_ret
      exact ⟨by simp [expB, h1, h2], rfl⟩
    · go_enter Tryz.func97, Tryz.ntmps97
      go_wp2
      go_ret
      exact ⟨by simp [expB, h2], rfl⟩
  · go_enter Tryz.func97, Tryz.ntmps97
    go_wp2
    go_ret
    exact ⟨by simp [expB]; omega, rfl⟩

theorem len32_any (x : Nat) (w : World) (h : x < 4294967296) (h0 : 0 < x) :
    Calls Tryz.prog 228 #[.int .u32 (x : Int)] w fun e w' => e = .returned (.int .i64 (blen x)) ∧ w = w' := by
  refine (Tryz.bits_Len32 x w (by omega) (by omega)).mono ?_
  rintro e w' ⟨rfl, rfl⟩
  refine ⟨?_, rfl⟩
  obtain ⟨h1, h2, h3⟩ := Lib.bitLenAux_bounds 64 x (by omega) (by omega)
  have : blen x = Lib.bitLen x := by
    have := blen_eq x (Lib.bitLen x - 1) h2 (by rw [show Lib.bitLen x - 1 + 1 = Lib.bitLen x from Nat.sub_add_cancel h1]; exact h3)
    rw [this]; exact Nat.sub_add_cancel h1
  rw [this, Int.toNat_natCast]

set_option maxHeartbeats 400000 in
theorem bits_any (A : Option Addr) (n c : Nat) (l : List Nat) (w : World) (h : SL w A n c l) (hn : n ≤ 100000000) :
    Calls Tryz.prog 208 #[.slice A n c] w fun e w' => e = .returned (.int .i64 (blen (val l))) ∧ w = w' := by
  have hT := h.trim
  have hlim := digs_val_len l h.lt
  have hlen := h.len
  by_cases h0 : (digs (val l)).length = 0
  · have hv : val l = 0 := by rw [← val_digs (val l), List.eq_nil_of_length_eq_zero h0]; rfl
    go_enter Tryz.func208, Tryz.ntmps208
    go_wp2_with (go_at_call 113; refine (trim_any A n c l _ h).mono ?_; rintro e w' ⟨rfl, rfl⟩)
    go_ret
    exact ⟨by rw [hv]; rfl, rfl⟩
  · obtain ⟨k, hk⟩ : ∃ k, (digs (val l)).length = k + 1 := ⟨(digs (val l)).length - 1, by omega⟩
    have hkn : k + 1 ≤ n := by omega
    rw [hk] at hT
    obtain ⟨b, off, x, rfl, hb, hx, hcell, hlt⟩ := hT.get (k := k) (by omega)
    have hx0 : 0 < x := by
      rcases Nat.eq_zero_or_pos x with rfl | hp
      · exact absurd (by rw [List.getLast?_eq_getElem?, hk]; exact hx) (trim_digs (val l))
      · exact hp
    have hb1 := le_blen x hx0
    have hb2 := lt_blen x
    have hb3 := blen_pos x hx0
    have hfin : blen (val l) = 32 * k + blen x := by
      have := blen_top (digs (val l)) (limbs_digs _) k x (blen x - 1) hk hx hb1 (by rw [show blen x - 1 + 1 = blen x from by omega]; exact hb2)
      rw [val_digs] at this; omega
    have hbl : blen x ≤ 32 := blen_le_of x 32 hlt
    have HK := Lib.hid hk
    have HF := Lib.hid hfin
    have HX := Lib.hid hx
    clear hk hfin hx hb1 hb2 hT hlen hlim h0
    go_enter Tryz.func208, Tryz.ntmps208
    go_wp2_with (first
      | (go_at_call 113; refine (trim_any _ n c l _ h).mono ?_; rintro e w' ⟨rfl, rfl⟩; rw [HK.out])
      | (go_at_call 228; refine (len32_any x _ hlt hx0).mono ?_; rintro e w' ⟨rfl, rfl⟩))
    go_ret
    exact ⟨by rw [HF.out]; go_num, rfl⟩


set_option maxHeartbeats 400000 in
theorem size_any (A : Option Addr) (n c : Nat) (l : List Nat) (w : World) (h : SL w A n c l) (hn : n ≤ 100000000) :
    Calls Tryz.prog 168 #[.slice A n c] w fun e w' => e = .returned (.int .i64 (blen (val l))) ∧ w = w' := by
  go_enter Tryz.func168, Tryz.ntmps168
  go_wp2_with (go_at_call 208; refine (bits_any A n c l _ h hn).mono ?_; rintro e w' ⟨rfl, rfl⟩)
  go_ret
  exact ⟨rfl, rfl⟩

/-- An index that is at least 0 exactly if b holds. -/
def IdxPost (b : Bool) (w : World) (e : Ending) (w' : World) : Prop := ∃ r : Int, e = .returned (.int .i64 r) ∧ decide (0 ≤ r) = b ∧ w = w'
def longB (k : Nat) (F : Nat → Option Addr × Nat × Nat) : Bool := decide (∃ j, j < k ∧ 256 < (F j).2.1)

set_option maxHeartbeats 400000 in
theorem long1_any (A : Option Addr) (n c : Nat) (w : World) :
    Calls Tryz.prog 173 #[.slice A n c] w fun e w' => e = .returned (.bool (decide (256 < n))) ∧ w = w' := by
  by_cases h : 256 < n
  · go_enter Tryz.func173, Tryz.ntmps173
    go_wp2
    go_ret
    exact ⟨by simp; omega, rfl⟩
  · go_enter Tryz.func173, Tryz.ntmps173
    go_wp2
    go_ret
    exact ⟨by simp; omega, rfl⟩

set_option maxHeartbeats 400000 in
theorem indexFunc_any (g k : Nat) (F : Nat → Option Addr × Nat × Nat) (w : World) (hk : k ≤ 1000) (hc : ∀ j, j < k → w.cell? ⟨g, j, none⟩ = some (.slice (F j).1 (F j).2.1 (F j).2.2)) :
    Calls Tryz.prog 209 #[.slice (some ⟨g, 0, none⟩) k k, .func (.func 173) #[] #[]] w (IdxPost (longB k F) w) := by
  have HC := Lib.hid hc
  clear hc
  go_enter Tryz.func209, Tryz.ntmps209
  go_wp2_with fail
  go_loop [8] (fun i => ∃ j : Nat, j ≤ k ∧ i = .int .i64 j ∧ Hid (∀ m, m < j → (F m).2.1 ≤ 256)) (fun i => k - (intOf i).toNat)
  case atStart => exact ⟨0, Nat.zero_le _, rfl, fun m hm => absurd hm (by omega)⟩
  case round =>
    obtain ⟨j, hj, rfl, HZ⟩ := hrel
    by_cases hlt : j < k
    · have hcell := HC.out j hlt
      generalize hA : (F j).1 = A at hcell
      generalize hn : (F j).2.1 = n at hcell
      generalize hcc : (F j).2.2 = c at hcell
      have HN := Lib.hid hn
      clear hA hn hcc
      by_cases h256 : 256 < n
      · go_wp2_with (go_at_call 173; refine (long1_any A n c _).mono ?_; rintro e w' ⟨rfl, rfl⟩)
        go_ret
        refine ⟨_, rfl, ?_, rfl⟩
        rw [longB, decide_eq_true (⟨j, hlt, by rw [HN.out]; exact h256⟩ : ∃ j, j < k ∧ 256 < (F j).2.1)]
        simp
      · go_wp2_with (go_at_call 173; refine (long1_any A n c _).mono ?_; rintro e w' ⟨rfl, rfl⟩)
        go_round
        case rel => exact ⟨j + 1, by omega, by go_num, fun m hm => by
          by_cases hmj : m < j
          · exact HZ.out m hmj
          · obtain rfl : m = j := by omega
            rw [HN.out]; omega⟩
        case measure => simp [intOf]; omega
    · go_wp2_with fail
      go_ret
      refine ⟨_, rfl, ?_, rfl⟩
      have : ¬ ∃ j, j < k ∧ 256 < (F j).2.1 := by
        rintro ⟨m, h1, h2⟩
        have := HZ.out m (by omega)
        omega
      rw [longB, decide_eq_false this]
      simp

set_option maxHeartbeats 400000 in
theorem long_any (g k : Nat) (F : Nat → Option Addr × Nat × Nat) (w : World) (hk : k ≤ 1000) (hc : ∀ j, j < k → w.cell? ⟨g, j, none⟩ = some (.slice (F j).1 (F j).2.1 (F j).2.2)) :
    Calls Tryz.prog 112 #[.slice (some ⟨g, 0, none⟩) k k] w fun e w' => e = .returned (.bool (longB k F)) ∧ w = w' := by
  have HC := Lib.hid hc
  clear hc
  go_enter Tryz.func112, Tryz.ntmps112
  go_wp2_with (first
    | (go_at_call 172; go_in)
    | (go_at_call 209; refine (indexFunc_any g k F _ hk HC.out).mono ?_; rintro e w' ⟨r, rfl, hr, rfl⟩))
  go_ret
  exact ⟨rfl, rfl⟩

theorem long_one (g : Nat) (A : Option Addr) (n c : Nat) (w : World) (hc : w.cell? ⟨g, 0, none⟩ = some (.slice A n c)) :
    Calls Tryz.prog 112 #[.slice (some ⟨g, 0, none⟩) 1 1] w fun e w' => e = .returned (.bool (decide (256 < n))) ∧ w = w' := by
  refine (long_any g 1 (fun _ => (A, n, c)) w (by omega) (fun j hj => by
    obtain rfl : j = 0 := by omega
    exact hc)).mono ?_
  rintro e w' ⟨rfl, rfl⟩
  refine ⟨?_, rfl⟩
  rw [longB]
  congr 2
  exact decide_eq_decide.2 ⟨fun ⟨_, _, h⟩ => h, fun h => ⟨0, by omega, h⟩⟩

theorem long_two (g : Nat) (A B : Option Addr) (n c m d : Nat) (w : World) (hc : w.cell? ⟨g, 0, none⟩ = some (.slice A n c)) (hd : w.cell? ⟨g, 1, none⟩ = some (.slice B m d)) :
    Calls Tryz.prog 112 #[.slice (some ⟨g, 0, none⟩) 2 2] w fun e w' => e = .returned (.bool (decide (256 < n ∨ 256 < m))) ∧ w = w' := by
  refine (long_any g 2 (fun j => if j = 0 then (A, n, c) else (B, m, d)) w (by omega) (fun j hj => by
    by_cases h0 : j = 0
    · subst h0; exact hc
    · obtain rfl : j = 1 := by omega
      exact hd)).mono ?_
  rintro e w' ⟨rfl, rfl⟩
  refine ⟨?_, rfl⟩
  rw [longB]
  congr 2
  refine decide_eq_decide.2 ⟨?_, ?_⟩
  · rintro ⟨j, hj, h⟩
    by_cases h0 : j = 0
    · subst h0; exact .inl h
    · rw [if_neg h0] at h; exact .inr h
  · rintro (h | h)
    · exact ⟨0, by omega, h⟩
    · exact ⟨1, by omega, h⟩

set_option maxHeartbeats 400000 in
theorem done_ok (A : Option Addr) (n c : Nat) (l : List Nat) (w : World) (h : SL w A n c l) (hs : (digs (val l)).length ≤ 256) :
    Calls Tryz.prog 170 #[.slice A n c] w fun e w' => e = .returned (.tuple #[.slice A (digs (val l)).length (digs (val l)).length, .int .i64 0]) ∧ Below w.heap.size w w' := by
  have hT := h.trim
  have h1 := hT.cap
  have h2 := hT.max
  generalize hk : (digs (val l)).length = k at *
  have HK := Lib.hid hk
  clear hk
  go_enter Tryz.func170, Tryz.ntmps170
  go_wp2_with (first
      | (go_at_call 113; refine (trim_any A n c l _ h).mono ?_; rintro e w' ⟨rfl, rfl⟩; rw [HK.out])
      | (go_at_call 112; refine (long_one _ A k c _ (by simp)).mono ?_; rintro e w' ⟨rfl, rfl⟩)
      | (go_at_call 110; refine (clip_any A k c _ h1 h2).mono ?_; rintro e w' ⟨rfl, rfl⟩))
  go_ret2
  exact ⟨rfl, (Below.refl _ _).alloc (Nat.le_refl _) _⟩

set_option maxHeartbeats 400000 in
theorem done_big (A : Option Addr) (n c : Nat) (l : List Nat) (w : World) (h : SL w A n c l) (hs : 256 < (digs (val l)).length) :
    Calls Tryz.prog 170 #[.slice A n c] w fun e w' => e = .returned (.tuple #[.slice none 0 0, .int .i64 9]) ∧ Below w.heap.size w w' := by
  generalize hk : (digs (val l)).length = k at *
  have HK := Lib.hid hk
  clear hk
  go_enter Tryz.func170, Tryz.ntmps170
  go_wp2_with (first
      | (go_at_call 113; refine (trim_any A n c l _ h).mono ?_; rintro e w' ⟨rfl, rfl⟩; rw [HK.out])
      | (go_at_call 112; refine (long_one _ A k c _ (by simp)).mono ?_; rintro e w' ⟨rfl, rfl⟩))
  go_ret2
  exact ⟨rfl, (Below.refl _ _).alloc (Nat.le_refl _) _⟩

end Go.Proofs.YtekajoifgdpmlaaGreatDoor
