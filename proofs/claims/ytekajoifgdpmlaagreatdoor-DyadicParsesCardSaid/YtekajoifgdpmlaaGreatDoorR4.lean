/- The reference's Of, Checked, exponent, Make: what each call computes. -/
import Derived.Test.YtekajoifgdpmlaaGreatDoorR3
namespace Go.Proofs.YtekajoifgdpmlaaGreatDoor
open Go.RowKit Pl Go.Shelf

theorem canon_pos {neg : Bool} {v : Nat} {x : Int} (h : 0 < v) : canonD neg v x = ⟨neg, digs (v / 2 ^ tz v), x + tz v⟩ := by unfold canonD; rw [if_neg (by omega)]; rfl
theorem val_canon {neg : Bool} {v : Nat} {x : Int} (h : 0 < v) : val (canonD neg v x).l = oddp v := by rw [canon_pos h]; exact val_digs _

theorem digs_len_blen (n k : Nat) (h : blen n ≤ 32 * k) : (digs n).length ≤ k :=
  digs_length_lt n k (by rw [base_pow]; exact Nat.lt_of_lt_of_le (lt_blen n) (Nat.pow_le_pow_right (by omega) h))

/-- A canonical number is valid exactly if it is in range. -/
theorem vld_canon (neg : Bool) (v : Nat) (x : Int) : vld (canonD neg v x) = inR (val (canonD neg v x).l) (canonD neg v x).e := by
  rcases Nat.eq_zero_or_pos v with rfl | hp
  · simp [canonD, vld, inR, zeroD, val]
  · have ho := (oddp_spec v hp).2
    have ho0 : 0 < oddp v := by omega
    rw [val_canon hp, inR_pos ho0, canon_pos hp]
    unfold vld
    refine decide_eq_decide.2 ?_
    have e : v / 2 ^ tz v = oddp v := rfl
    simp only [e, val_digs]
    constructor
    · rintro (⟨h, _⟩ | ⟨_, _, _, _, h⟩)
      · rw [digs_pos _ ho0] at h; cases h
      · exact h
    · intro h
      refine .inr ⟨by rw [digs_pos _ ho0]; simp, ?_, trim_digs _, ho, h⟩
      have := digs_len_blen (oddp v) 128 (by omega)
      omega

set_option maxHeartbeats 1000000 in
theorem rof_any (neg : Bool) (A : Option Addr) (n c : Nat) (l : List Nat) (x : Int) (w : World) (h : SL w A n c l) (hn : n ≤ 1000000) (hx1 : -1000000 ≤ x) (hx2 : x ≤ 1000000) :
    Calls Tryz.prog 120 #[.bool neg, .slice A n c, .int .i64 x] w (RetD (canonD neg (val l) x) w) := by
  have h1 := h.alloc (.cells #[.bool false, .slice none 0 0, .int .i64 0] 25)
  have hn1 : (digs (val l)).length ≤ 1000000 := Nat.le_trans (digs_val_len l h.lt) (by rw [h.len]; exact hn)
  go_enter Tryz.func120, Tryz.ntmps120
  go_wp2_with fail
  refine (rtrim_any A n c l _ h1 hn).mono ?_
  rintro e w1 ⟨A1, n1, c1, rfl, hs1, hf1, hb1⟩
  have hlen1 := hs1.len
  have hn1' : n1 ≤ 1000000 := by rw [← hlen1]; exact hn1
  by_cases h0 : val l = 0
  · have hd : n1 = 0 := by rw [← hlen1, h0]; rfl
    subst hd
    have H0 := Lib.hid h0
    clear h0 hlen1
    obtain ⟨hc, hf⟩ := bcell hb1
    have hsz : w.heap.size + 1 ≤ w1.heap.size := by simpa using hb1.size
    have hB0 := (Blk.new w 25 #[.bool false, .slice none 0 0, .int .i64 0]).below hb1 (by simp)
    go_wp2_with fail
    refine bodyPost_ret (resD Tryz.results120 rfl (hB0.set3 _ _ _)) rfl ?_
    rw [canonD, if_pos H0.out]
    exact ⟨none, 0, 0, rfl, SL.nil _, Fresh.zero, below_set3 (bnext (ballo _ _) hb1) (Nat.le_refl _) _ _ _⟩
  · have hp : 0 < val l := by omega
    have hne : ((n1 : Int) == 0) = false := by
      have : n1 ≠ 0 := by rw [← hlen1, digs_pos _ hp]; simp
      simp; omega
    have htz : tz (val l) < 100000000 := by
      have h1 := tz_lt_blen (val l) hp
      have h2 := val_lt l h.lt
      rw [base_pow, h.len] at h2
      have := blen_le_of _ _ h2
      omega
    have HCD := Lib.hid (canon_pos (neg := neg) (x := x) hp)
    have hvd : val (digs (val l)) = val l := val_digs _
    have HVD := Lib.hid hvd
    clear hvd h0 hlen1
    generalize hdd : digs (val l) = dl at *
    clear hdd
    generalize hz : tz (val l) = z at *
    have HZ := Lib.hid hz
    clear hz
    go_wp2_with fail
    refine (zeros_any A1 n1 c1 dl _ hs1 hn1' (by rw [HVD.out]; exact hp)).mono ?_
    rintro e w' ⟨rfl, rfl⟩
    rw [HVD.out, HZ.out]
    go_wp2_with fail
    refine (rright_any A1 n1 c1 z dl _ hs1 hn1' (by omega)).mono ?_
    rintro e w2 ⟨A2, n2, c2, rfl, hs2, hf2, hb2⟩
    have hb12 := bnext hb1 hb2
    obtain ⟨hc, hf⟩ := bcell hb12
    have hsz : w.heap.size + 1 ≤ w2.heap.size := by simpa using hb12.size
    have hB0 := (Blk.new w 25 #[.bool false, .slice none 0 0, .int .i64 0]).below hb12 (by simp)
    go_wp2_with fail
    refine bodyPost_ret (resD Tryz.results120 rfl (hB0.set3 _ _ _)) rfl ?_
    rw [HCD.out]
    rw [HVD.out] at hs2
    have hlt : w.heap.size < w1.heap.size := Nat.lt_of_lt_of_le (by simp) hb1.size
    exact ⟨A2, n2, c2, rfl, (((hs2.far hf2 hlt 0 _).far hf2 hlt 1 _).far hf2 hlt 2 _), hf2.mono (Nat.le_trans (by simp) hb1.size), below_set3 (bnext (ballo _ _) hb12) (Nat.le_refl _) _ _ _⟩

set_option maxHeartbeats 1000000 in
theorem rchecked_ok (neg : Bool) (A : Option Addr) (n c : Nat) (l : List Nat) (x : Int) (w : World) (h : SL w A n c l) (hn : n ≤ 1000000) (hr : vld ⟨neg, l, x⟩ = true) :
    Calls Tryz.prog 41 #[.agg #[.bool neg, .slice A n c, .int .i64 x]] w fun e w' => e = .returned (.tuple #[.agg #[.bool neg, .slice A n c, .int .i64 x], .int .i64 0]) ∧ Below w.heap.size w w' := by
  have h2 := (h.alloc (.cells #[.bool neg, .slice A n c, .int .i64 x] 25)).alloc (.cells #[.bool false, .slice none 0 0, .int .i64 0] 25)
  have HR := Lib.hid hr
  clear hr
  go_enter Tryz.func41, Tryz.ntmps41
  go_wp2_with fail
  refine (rvalid_any neg A n c l x _ h2 hn).mono ?_
  rintro e w1 ⟨rfl, hb1⟩
  rw [HR.out]
  obtain ⟨hc, hf⟩ := bcell hb1
  have hsz : w.heap.size + 2 ≤ w1.heap.size := by simpa using hb1.size
  have hB0 := (Blk.new (w.alloc (.cells #[.bool neg, .slice A n c, .int .i64 x] 25)) 25 #[.bool false, .slice none 0 0, .int .i64 0]).below hb1 (by simp)
  rw [World.size_alloc] at hB0
  have hbw := (((ballo w (.cells #[.bool neg, .slice A n c, .int .i64 x] 25)).alloc (by simp) (.cells #[.bool false, .slice none 0 0, .int .i64 0] 25))).trans (hb1.mono (by simp <;> omega))
  go_wp2_with fail
  refine bodyPost_ret (resDE Tryz.results41 rfl (hB0.set3 _ _ _)) rfl ⟨rfl, below_set3 hbw (by simp) _ _ _⟩

set_option maxHeartbeats 1000000 in
theorem rchecked_big (neg : Bool) (A : Option Addr) (n c : Nat) (l : List Nat) (x : Int) (w : World) (h : SL w A n c l) (hn : n ≤ 1000000) (hr : vld ⟨neg, l, x⟩ = false) :
    Calls Tryz.prog 41 #[.agg #[.bool neg, .slice A n c, .int .i64 x]] w fun e w' => e = .returned (.tuple #[.agg #[.bool false, .slice none 0 0, .int .i64 0], .int .i64 9]) ∧ Below w.heap.size w w' := by
  have h2 := (h.alloc (.cells #[.bool neg, .slice A n c, .int .i64 x] 25)).alloc (.cells #[.bool false, .slice none 0 0, .int .i64 0] 25)
  have HR := Lib.hid hr
  clear hr
  go_enter Tryz.func41, Tryz.ntmps41
  go_wp2_with fail
  refine (rvalid_any neg A n c l x _ h2 hn).mono ?_
  rintro e w1 ⟨rfl, hb1⟩
  rw [HR.out]
  obtain ⟨hc, hf⟩ := bcell hb1
  have hsz : w.heap.size + 2 ≤ w1.heap.size := by simpa using hb1.size
  have hB0 := (Blk.new (w.alloc (.cells #[.bool neg, .slice A n c, .int .i64 x] 25)) 25 #[.bool false, .slice none 0 0, .int .i64 0]).below hb1 (by simp)
  rw [World.size_alloc] at hB0
  have hbw := (((ballo w (.cells #[.bool neg, .slice A n c, .int .i64 x] 25)).alloc (by simp) (.cells #[.bool false, .slice none 0 0, .int .i64 0] 25))).trans (hb1.mono (by simp <;> omega))
  go_wp2_with fail
  refine bodyPost_ret (resDE Tryz.results41 rfl (hB0.set3 _ _ _)) rfl ⟨rfl, below_set3 hbw (by simp) _ _ _⟩

end Go.Proofs.YtekajoifgdpmlaaGreatDoor
