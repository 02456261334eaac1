/- The reference's Of, Checked, exponent, Make: what each call computes. -/
import Derived.Test.YtjhokljoomeilaaDoorR3
namespace Go.Proofs.YtjhokljoomeilaaDoor
open Go.RowKit Pl Go.Shelf

theorem canon_pos {neg : Bool} {v : Nat} {x : Int} (h : 0 < v) : canonD neg v x = ⟨neg, digs (v / 2 ^ tz v), x + tz v⟩ := by unfold canonD; rw [if_neg (by omega)]; rfl
theorem val_canon {neg : Bool} {v : Nat} {x : Int} (h : 0 < v) : val (canonD neg v x).l = oddp v := by rw [canon_pos h]; exact val_digs _

theorem digs_len_blen (n k : Nat) (h : blen n ≤ 32 * k) : (digs n).length ≤ k :=
  digs_length_lt n k (by rw [base_pow]; exact Nat.lt_of_lt_of_le (lt_blen n) (Nat.pow_le_pow_right (by omega) h))

/-- A canonical number is valid exactly if it is in range. -/
theorem vld_canon (neg : Bool) (v : Nat) (x : Int) : vld (canonD neg v x) = inR (val (canonD neg v x).l) (canonD neg v x).e := by
  rcases Nat.eq_zero_or_pos v with rfl | hp
  · simp [canonD, vld, inR, zeroD, val]
  · have ho := (oddp_spec v hp).2
    have ho0 : 0 < oddp v := by omega
    rw [val_canon hp, inR_pos ho0, canon_pos hp]
    unfold vld
    refine decide_eq_decide.2 ?_
    have e : v / 2 ^ tz v = oddp v := rfl
    simp only [e, val_digs]
    constructor
    · rintro (⟨h, _⟩ | ⟨_, _, _, _, h⟩)
      · rw [digs_pos _ ho0] at h; cases h
      · exact h
    · intro h
      refine .inr ⟨by rw [digs_pos _ ho0]; simp, ?_, trim_digs _, ho, h⟩
      have := digs_len_blen (oddp v) 128 (by omega)
      omega

set_option maxHeartbeats 1000000 in
theorem rof_any (neg : Bool) (A : Option Addr) (n c : Nat) (l : List Nat) (x : Int) (w : World) (h : SL w A n c l) (hn : n ≤ 1000000) (hx1 : -1000000 ≤ x) (hx2 : x ≤ 1000000) :
    Calls Tryd.prog 41 #[.bool neg, .slice A n c, .int .i64 x] w (RetD (canonD neg (val l) x) w) := by
  have h1 := h.alloc (.cells #[.bool false, .slice none 0 0, .int .i64 0] 27)
  have hn1 : (digs (val l)).length ≤ 1000000 := Nat.le_trans (digs_val_len l h.lt) (by rw [h.len]; exact hn)
  go_enter Tryd.func41, Tryd.ntmps41
  go_wp2_with fail
  refine (rtrim_any A n c l _ h1 hn).mono ?_
  rintro e w1 ⟨A1, n1, c1, rfl, hs1, hf1, hb1⟩
  have hlen1 := hs1.len
  have hn1' : n1 ≤ 1000000 := by rw [← hlen1]; exact hn1
  by_cases h0 : val l = 0
  · have hd : n1 = 0 := by rw [← hlen1, h0]; rfl
    subst hd
    have H0 := Lib.hid h0
    clear h0 hlen1
    obtain ⟨hc, hf⟩ := bcell hb1
    have hsz : w.heap.size + 1 ≤ w1.heap.size := by simpa using hb1.size
    have hB0 := (Blk.new w 27 #[.bool false, .slice none 0 0, .int .i64 0]).below hb1 (by simp)
    go_wp2_with fail
    refine bodyPost_ret (resD Tryd.results41 rfl (hB0.set3 _ _ _)) rfl ?_
    rw [canonD, if_pos H0.out]
    exact ⟨none, 0, 0, rfl, SL.nil _, Fresh.zero, below_set3 (bnext (ballo _ _) hb1) (Nat.le_refl _) _ _ _⟩
  · have hp : 0 < val l := by omega
    have hne : ((n1 : Int) == 0) = false := by
      have : n1 ≠ 0 := by rw [← hlen1, digs_pos _ hp]; simp
      simp; omega
    have htz : tz (val l) < 100000000 := by
      have h1 := tz_lt_blen (val l) hp
      have h2 := val_lt l h.lt
      rw [base_pow, h.len] at h2
      have := blen_le_of _ _ h2
      omega
    have HCD := Lib.hid (canon_pos (neg := neg) (x := x) hp)
    have hvd : val (digs (val l)) = val l := val_digs _
    have HVD := Lib.hid hvd
    clear hvd h0 hlen1
    generalize hdd : digs (val l) = dl at *
    clear hdd
    generalize hz : tz (val l) = z at *
    have HZ := Lib.hid hz
    clear hz
    go_wp2_with fail
    refine (zeros_any A1 n1 c1 dl _ hs1 hn1' (by rw [HVD.out]; exact hp)).mono ?_
    rintro e w' ⟨rfl, rfl⟩
    rw [HVD.out, HZ.out]
    go_wp2_with fail
    refine (rright_any A1 n1 c1 z dl _ hs1 hn1' (by omega)).mono ?_
    rintro e w2 ⟨A2, n2, c2, rfl, hs2, hf2, hb2⟩
    have hb12 := bnext hb1 hb2
    obtain ⟨hc, hf⟩ := bcell hb12
    have hsz : w.heap.size + 1 ≤ w2.heap.size := by simpa using hb12.size
    have hB0 := (Blk.new w 27 #[.bool false, .slice none 0 0, .int .i64 0]).below hb12 (by simp)
    go_wp2_with fail
    refine bodyPost_ret (resD Tryd.results41 rfl (hB0.set3 _ _ _)) rfl ?_
    rw [HCD.out]
    rw [HVD.out] at hs2
    have hlt : w.heap.size < w1.heap.size := Nat.lt_of_lt_of_le (by simp) hb1.size
    exact ⟨A2, n2, c2, rfl, (((hs2.far hf2 hlt 0 _).far hf2 hlt 1 _).far hf2 hlt 2 _), hf2.mono (Nat.le_trans (by simp) hb1.size), below_set3 (bnext (ballo _ _) hb12) (Nat.le_refl _) _ _ _⟩

set_option maxHeartbeats 1000000 in
theorem rchecked_ok (neg : Bool) (A : Option Addr) (n c : Nat) (l : List Nat) (x : Int) (w : World) (h : SL w A n c l) (hn : n ≤ 1000000) (hr : vld ⟨neg, l, x⟩ = true) :
    Calls Tryd.prog 40 #[.agg #[.bool neg, .slice A n c, .int .i64 x]] w fun e w' => e = .returned (.tuple #[.agg #[.bool neg, .slice A n c, .int .i64 x], .int .i64 0]) ∧ Below w.heap.size w w' := by
  have h2 := (h.alloc (.cells #[.bool neg, .slice A n c, .int .i64 x] 27)).alloc (.cells #[.bool false, .slice none 0 0, .int .i64 0] 27)
  have HR := Lib.hid hr
  clear hr
  go_enter Tryd.func40, Tryd.ntmps40
  go_wp2_with fail
  refine (rvalid_any neg A n c l x _ h2 hn).mono ?_
  rintro e w1 ⟨rfl, hb1⟩
  rw [HR.out]
  obtain ⟨hc, hf⟩ := bcell hb1
  have hsz : w.heap.size + 2 ≤ w1.heap.size := by simpa using hb1.size
  have hB0 := (Blk.new (w.alloc (.cells #[.bool neg, .slice A n c, .int .i64 x] 27)) 27 #[.bool false, .slice none 0 0, .int .i64 0]).below hb1 (by simp)
  rw [World.size_alloc] at hB0
  have hbw := (((ballo w (.cells #[.bool neg, .slice A n c, .int .i64 x] 27)).alloc (by simp) (.cells #[.bool false, .slice none 0 0, .int .i64 0] 27))).trans (hb1.mono (by simp <;> omega))
  go_wp2_with fail
  refine bodyPost_ret (resDE Tryd.results40 rfl (hB0.set3 _ _ _)) rfl ⟨rfl, below_set3 hbw (by simp) _ _ _⟩

set_option maxHeartbeats 1000000 in
theorem rchecked_big (neg : Bool) (A : Option Addr) (n c : Nat) (l : List Nat) (x : Int) (w : World) (h : SL w A n c l) (hn : n ≤ 1000000) (hr : vld ⟨neg, l, x⟩ = false) :
    Calls Tryd.prog 40 #[.agg #[.bool neg, .slice A n c, .int .i64 x]] w fun e w' => e = .returned (.tuple #[.agg #[.bool false, .slice none 0 0, .int .i64 0], .int .i64 9]) ∧ Below w.heap.size w w' := by
  have h2 := (h.alloc (.cells #[.bool neg, .slice A n c, .int .i64 x] 27)).alloc (.cells #[.bool false, .slice none 0 0, .int .i64 0] 27)
  have HR := Lib.hid hr
  clear hr
  go_enter Tryd.func40, Tryd.ntmps40
  go_wp2_with fail
  refine (rvalid_any neg A n c l x _ h2 hn).mono ?_
  rintro e w1 ⟨rfl, hb1⟩
  rw [HR.out]
  obtain ⟨hc, hf⟩ := bcell hb1
  have hsz : w.heap.size + 2 ≤ w1.heap.size := by simpa using hb1.size
  have hB0 := (Blk.new (w.alloc (.cells #[.bool neg, .slice A n c, .int .i64 x] 27)) 27 #[.bool false, .slice none 0 0, .int .i64 0]).below hb1 (by simp)
  rw [World.size_alloc] at hB0
  have hbw := (((ballo w (.cells #[.bool neg, .slice A n c, .int .i64 x] 27)).alloc (by simp) (.cells #[.bool false, .slice none 0 0, .int .i64 0] 27))).trans (hb1.mono (by simp <;> omega))
  go_wp2_with fail
  refine bodyPost_ret (resDE Tryd.results40 rfl (hB0.set3 _ _ _)) rfl ⟨rfl, below_set3 hbw (by simp) _ _ _⟩

set_option maxHeartbeats 400000 in
theorem rexponent_any (e : Int) (w : World) :
    Calls Tryd.prog 39 #[.int .i64 e] w fun r w' => r = .returned (.bool (expB e)) ∧ w = w' := by
  by_cases h1 : -32768 ≤ e
  · by_cases h2 : e ≤ 32768
    · go_enter Tryd.func39, Tryd.ntmps39
      go_wp2
      go_ret
      exact ⟨by simp [expB, h1, h2], rfl⟩
    · go_enter Tryd.func39, Tryd.ntmps39
      go_wp2
      go_ret
      exact ⟨by simp [expB, h2], rfl⟩
  · go_enter Tryd.func39, Tryd.ntmps39
    go_wp2
    go_ret
    exact ⟨by simp [expB]; omega, rfl⟩

set_option maxHeartbeats 1000000 in
theorem rmake_arg (neg : Bool) (A : Option Addr) (n c : Nat) (x : Int) (w : World) (hbad : 256 < n ∨ expB x = false) :
    Calls Tryd.prog 13 #[.bool neg, .slice A n c, .int .i64 x] w (RetE zeroD 1 w) := by
  by_cases hn : 256 < n
  · go_enter Tryd.func13, Tryd.ntmps13
    go_wp2_with fail
    refine bodyPost_ret (v := .tuple #[.agg #[.bool false, .slice none 0 0, .int .i64 0], .int .i64 1]) (by simp [results, Tryd.results13, go_sem]) rfl ⟨none, 0, 0, rfl, SL.nil _, Fresh.zero, ?_⟩
    repeat (first | exact Below.refl _ _ | refine Below.alloc ?_ (by simp <;> omega) _ | refine Below.setCell ?_ (by simp) _)
  · have HB : Hid (expB x = false) := hbad.resolve_left hn
    clear hbad
    go_enter Tryd.func13, Tryd.ntmps13
    go_wp2_with (go_at_call 39; refine (rexponent_any x _).mono ?_; rintro e w' ⟨rfl, rfl⟩; rw [HB.out])
    refine bodyPost_ret (v := .tuple #[.agg #[.bool false, .slice none 0 0, .int .i64 0], .int .i64 1]) (by simp [results, Tryd.results13, go_sem]) rfl ⟨none, 0, 0, rfl, SL.nil _, Fresh.zero, ?_⟩
    repeat (first | exact Below.refl _ _ | refine Below.alloc ?_ (by simp <;> omega) _ | refine Below.setCell ?_ (by simp) _)

set_option maxHeartbeats 1000000 in
theorem rmake_ok (neg : Bool) (A : Option Addr) (n c : Nat) (l : List Nat) (x : Int) (w : World) (h : SL w A n c l) (hn : n ≤ 256) (he : expB x = true) :
    Calls Tryd.prog 13 #[.bool neg, .slice A n c, .int .i64 x] w (RetE (checkD neg (val l) x).1 (checkD neg (val l) x).2 w) := by
  have hx : -32768 ≤ x ∧ x ≤ 32768 := by simpa [expB] using he
  obtain ⟨hx1, hx2⟩ := hx
  have h1 := h.alloc (.cells #[.bool false, .slice none 0 0, .int .i64 0] 27)
  have HE := Lib.hid he
  clear he
  have h256 : ¬ 256 < n := by omega
  go_enter Tryd.func13, Tryd.ntmps13
  go_wp2_with fail
  refine (rexponent_any x _).mono ?_
  rintro e w' ⟨rfl, rfl⟩
  rw [HE.out]
  go_wp2_with fail
  refine (rof_any neg A n c l x _ h1 (by omega) (by omega) (by omega)).mono ?_
  rintro e w1 ⟨A1, n1, c1, rfl, hs1, hf1, hb1⟩
  have hn1 : n1 ≤ 256 := by
    rw [← hs1.len]
    unfold canonD
    split
    · simp [zeroD]
    · exact len256 h.lt (by rw [h.len]; exact hn) (Nat.div_le_self _ _)
  have HD : Hid (checkD neg (val l) x = if vld (canonD neg (val l) x) = true then (canonD neg (val l) x, 0) else (zeroD, 9)) := by unfold Hid; rw [vld_canon]; rfl
  generalize hd : canonD neg (val l) x = d at *
  clear hd
  generalize checkD neg (val l) x = r at *
  have hbw := bnext (ballo _ _) hb1
  by_cases hr : vld d = true
  · have hrr : r = (d, 0) := by rw [HD.out, if_pos hr]
    subst hrr
    go_wp2_with fail
    refine (rchecked_ok d.neg A1 n1 c1 d.l d.e _ hs1 (by omega) hr).mono ?_
    rintro e w2 ⟨rfl, hb2⟩
    have hb12 := bnext hb1 hb2
    have hbw2 := bnext hbw hb2
    obtain ⟨hc, hf⟩ := bcell hb12
    have hsz : w.heap.size + 1 ≤ w2.heap.size := by simpa using hb12.size
    have HR := Lib.hid hr
    clear hr
    go_wp2_with fail
    have hB0 := (Blk.new w 27 #[.bool false, .slice none 0 0, .int .i64 0]).below hb12 (by simp)
    refine bodyPost_ret (resDE Tryd.results13 rfl (hB0.set3 _ _ _)) rfl ?_
    have hlt : w.heap.size < (w.alloc (.cells #[.bool false, .slice none 0 0, .int .i64 0] 27)).heap.size := by simp
    have hs2 := hs1.below hb2
    exact ⟨A1, n1, c1, rfl, (((hs2.far hf1 hlt 0 _).far hf1 hlt 1 _).far hf1 hlt 2 _), hf1.mono (by simp), below_set3 hbw2 (Nat.le_refl _) _ _ _⟩
  · have hrr : r = (zeroD, 9) := by rw [HD.out, if_neg hr]
    subst hrr
    go_wp2_with fail
    refine (rchecked_big d.neg A1 n1 c1 d.l d.e _ hs1 (by omega) (by simpa using hr)).mono ?_
    rintro e w2 ⟨rfl, hb2⟩
    have hb12 := bnext hb1 hb2
    have hbw2 := bnext hbw hb2
    obtain ⟨hc, hf⟩ := bcell hb12
    have hsz : w.heap.size + 1 ≤ w2.heap.size := by simpa using hb12.size
    clear hr
    go_wp2_with fail
    have hB0 := (Blk.new w 27 #[.bool false, .slice none 0 0, .int .i64 0]).below hb12 (by simp)
    refine bodyPost_ret (resDE Tryd.results13 rfl (hB0.set3 _ _ _)) rfl ?_
    exact ⟨none, 0, 0, rfl, SL.nil _, Fresh.zero, below_set3 hbw2 (Nat.le_refl _) _ _ _⟩

end Go.Proofs.YtjhokljoomeilaaDoor
