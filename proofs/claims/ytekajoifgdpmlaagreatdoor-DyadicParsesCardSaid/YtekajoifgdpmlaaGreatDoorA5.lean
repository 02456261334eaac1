/- dyadic.inRange, checked, Make: what each call computes. -/
import Derived.Test.YtekajoifgdpmlaaGreatDoorA4
namespace Go.Proofs.YtekajoifgdpmlaaGreatDoor
open Go.RowKit Pl Go.Shelf

/-- In range, for the number v 2^e. -/
def inR (v : Nat) (e : Int) : Bool := decide (v = 0 ∨ (blen v ≤ 4096 ∧ -16384 ≤ e ∧ e ≤ 16384 ∧ (blen v : Int) + e ≤ 16384))

set_option maxHeartbeats 1000000 in
theorem inRange_any (neg : Bool) (A : Option Addr) (n c : Nat) (l : List Nat) (x : Int) (w : World) (h : SL w A n c l) (hn : n ≤ 100000000) :
    Calls Tryz.prog 106 #[.agg #[.bool neg, .slice A n c, .int .i64 x]] w fun e w' => e = .returned (.bool (inR (val l) x)) ∧ w.alloc (.cells #[.bool neg, .slice A n c, .int .i64 x] 25) = w' := by
  have h1 := h.alloc (.cells #[.bool neg, .slice A n c, .int .i64 x] 25)
  have hb0 : val l = 0 ↔ blen (val l) = 0 := ⟨fun h => by rw [h]; rfl, fun h => by
    rcases Nat.eq_zero_or_pos (val l) with h' | h'
    · exact h'
    · have := blen_pos _ h'; omega⟩
  have hR : inR (val l) x = decide (blen (val l) = 0 ∨ (blen (val l) ≤ 4096 ∧ -16384 ≤ x ∧ x ≤ 16384 ∧ (blen (val l) : Int) + x ≤ 16384)) := by unfold inR; exact decide_eq_decide.2 (or_congr hb0 Iff.rfl)
  have HR := Lib.hid hR
  clear hR hb0
  generalize hN : blen (val l) = N at *
  have HN := Lib.hid hN
  clear hN
  have fin : ∀ b : Bool, (b = true ↔ (N = 0 ∨ (N ≤ 4096 ∧ -16384 ≤ x ∧ x ≤ 16384 ∧ (N : Int) + x ≤ 16384))) → Ending.returned (.bool b) = .returned (.bool (inR (val l) x)) := by
    intro b hb
    rw [HR.out]
    congr 2
    rw [Bool.eq_iff_iff, hb, decide_eq_true_iff]
  have FIN := Lib.hid fin
  clear fin
  by_cases c0 : N = 0
  · subst c0
    go_enter Tryz.func106, Tryz.ntmps106
    go_wp2_with (go_at_call 168; refine (size_any A n c l _ h1 hn).mono ?_; rintro e w' ⟨rfl, rfl⟩; rw [HN.out])
    go_ret
    exact ⟨FIN.out true (by simp), rfl⟩
  have c0' : ((N : Int) == 0) = false := by simp; omega
  by_cases c1 : N ≤ 4096
  · by_cases c2 : -16384 ≤ x
    · by_cases c3 : x ≤ 16384
      · by_cases c4 : (N : Int) + x ≤ 16384
        · go_enter Tryz.func106, Tryz.ntmps106
          go_wp2_with (go_at_call 168; refine (size_any A n c l _ h1 hn).mono ?_; rintro e w' ⟨rfl, rfl⟩; rw [HN.out])
          go_ret
          exact ⟨FIN.out true (by simp; omega), rfl⟩
        · go_enter Tryz.func106, Tryz.ntmps106
          go_wp2_with (go_at_call 168; refine (size_any A n c l _ h1 hn).mono ?_; rintro e w' ⟨rfl, rfl⟩; rw [HN.out])
          go_ret
          exact ⟨FIN.out (decide ((N : Int) + x ≤ 16384)) (by simp; omega), rfl⟩
      · go_enter Tryz.func106, Tryz.ntmps106
        go_wp2_with (go_at_call 168; refine (size_any A n c l _ h1 hn).mono ?_; rintro e w' ⟨rfl, rfl⟩; rw [HN.out])
        go_ret
        exact ⟨FIN.out false (by simp; omega), rfl⟩
    · go_enter Tryz.func106, Tryz.ntmps106
      go_wp2_with (go_at_call 168; refine (size_any A n c l _ h1 hn).mono ?_; rintro e w' ⟨rfl, rfl⟩; rw [HN.out])
      go_ret
      exact ⟨FIN.out false (by simp; omega), rfl⟩
  · go_enter Tryz.func106, Tryz.ntmps106
    go_wp2_with (go_at_call 168; refine (size_any A n c l _ h1 hn).mono ?_; rintro e w' ⟨rfl, rfl⟩; rw [HN.out])
    go_ret
    exact ⟨FIN.out false (by simp; omega), rfl⟩

/-- A number that the call made, and an error number. -/
def RetE (d : Dy) (k : Int) (w : World) (e : Ending) (w' : World) : Prop := ∃ A n c, e = .returned (.tuple #[.agg #[.bool d.neg, .slice A n c, .int .i64 d.e], .int .i64 k]) ∧ SL w' A n c d.l ∧ Fresh w.heap.size A n ∧ Below w.heap.size w w'
/-- The same, where the number may lie where an argument lay. -/
def RetA (d : Dy) (k : Int) (A : Option Addr) (n c : Nat) (w : World) (e : Ending) (w' : World) : Prop := e = .returned (.tuple #[.agg #[.bool d.neg, .slice A n c, .int .i64 d.e], .int .i64 k]) ∧ Below w.heap.size w w'

set_option maxHeartbeats 1000000 in
theorem checked_ok (neg : Bool) (A : Option Addr) (n c : Nat) (l : List Nat) (x : Int) (w : World) (h : SL w A n c l) (hn : n ≤ 100000000) (hr : inR (val l) x = true) :
    Calls Tryz.prog 34 #[.agg #[.bool neg, .slice A n c, .int .i64 x]] w fun e w' => e = .returned (.tuple #[.agg #[.bool neg, .slice A n c, .int .i64 x], .int .i64 0]) ∧ Below w.heap.size w w' := by
  have h2 := (h.alloc (.cells #[.bool neg, .slice A n c, .int .i64 x] 25)).alloc (.cells #[.bool false, .slice none 0 0, .int .i64 0] 25)
  have HR := Lib.hid hr
  clear hr
  go_enter Tryz.func34, Tryz.ntmps34
  go_wp2_with (go_at_call 106; refine (inRange_any neg A n c l x _ h2 hn).mono ?_; rintro e w' ⟨rfl, rfl⟩; rw [HR.out])
  refine bodyPost_ret (v := .tuple #[.agg #[.bool neg, .slice A n c, .int .i64 x], .int .i64 0]) (by simp [results, Tryz.results34, go_sem]) rfl ⟨rfl, ?_⟩
  repeat (first | exact Below.refl _ _ | refine Below.alloc ?_ (by simp <;> omega) _ | refine Below.setCell ?_ (by simp) _)

set_option maxHeartbeats 1000000 in
theorem checked_big (neg : Bool) (A : Option Addr) (n c : Nat) (l : List Nat) (x : Int) (w : World) (h : SL w A n c l) (hn : n ≤ 100000000) (hr : inR (val l) x = false) :
    Calls Tryz.prog 34 #[.agg #[.bool neg, .slice A n c, .int .i64 x]] w fun e w' => e = .returned (.tuple #[.agg #[.bool false, .slice none 0 0, .int .i64 0], .int .i64 9]) ∧ Below w.heap.size w w' := by
  have h2 := (h.alloc (.cells #[.bool neg, .slice A n c, .int .i64 x] 25)).alloc (.cells #[.bool false, .slice none 0 0, .int .i64 0] 25)
  have HR := Lib.hid hr
  clear hr
  go_enter Tryz.func34, Tryz.ntmps34
  go_wp2_with (go_at_call 106; refine (inRange_any neg A n c l x _ h2 hn).mono ?_; rintro e w' ⟨rfl, rfl⟩; rw [HR.out])
  refine bodyPost_ret (v := .tuple #[.agg #[.bool false, .slice none 0 0, .int .i64 0], .int .i64 9]) (by simp [results, Tryz.results34, go_sem]) rfl ⟨rfl, ?_⟩
  repeat (first | exact Below.refl _ _ | refine Below.alloc ?_ (by simp <;> omega) _ | refine Below.setCell ?_ (by simp) _)

/-- The canonical number and OK, or zero and ErrBig. -/
def checkD (neg : Bool) (v : Nat) (e : Int) : Dy × Int := if inR (val (canonD neg v e).l) (canonD neg v e).e = true then (canonD neg v e, 0) else (zeroD, 9)

set_option maxHeartbeats 1000000 in
theorem make_arg (neg : Bool) (A : Option Addr) (n c : Nat) (x : Int) (w : World) (hbad : 256 < n ∨ expB x = false) :
    Calls Tryz.prog 26 #[.bool neg, .slice A n c, .int .i64 x] w (RetE zeroD 1 w) := by
  by_cases hn : 256 < n
  · go_enter Tryz.func26, Tryz.ntmps26
    go_wp2_with fail
    refine bodyPost_ret (v := .tuple #[.agg #[.bool false, .slice none 0 0, .int .i64 0], .int .i64 1]) (by simp [results, Tryz.results26, go_sem]) rfl ⟨none, 0, 0, rfl, SL.nil _, Fresh.zero, ?_⟩
    repeat (first | exact Below.refl _ _ | refine Below.alloc ?_ (by simp <;> omega) _ | refine Below.setCell ?_ (by simp) _)
  · have HB : Hid (expB x = false) := by rcases hbad with h | h
                                         · exact absurd h hn
                                         · exact h
    clear hbad
    go_enter Tryz.func26, Tryz.ntmps26
    go_wp2_with (go_at_call 97; refine (exponent_any x _).mono ?_; rintro e w' ⟨rfl, rfl⟩; rw [HB.out])
    refine bodyPost_ret (v := .tuple #[.agg #[.bool false, .slice none 0 0, .int .i64 0], .int .i64 1]) (by simp [results, Tryz.results26, go_sem]) rfl ⟨none, 0, 0, rfl, SL.nil _, Fresh.zero, ?_⟩
    repeat (first | exact Below.refl _ _ | refine Below.alloc ?_ (by simp <;> omega) _ | refine Below.setCell ?_ (by simp) _)

set_option maxHeartbeats 1000000 in
theorem make_ok (neg : Bool) (A : Option Addr) (n c : Nat) (l : List Nat) (x : Int) (w : World) (h : SL w A n c l) (hn : n ≤ 256) (he : expB x = true) (ht : Tabs w) :
    Calls Tryz.prog 26 #[.bool neg, .slice A n c, .int .i64 x] w (RetE (checkD neg (val l) x).1 (checkD neg (val l) x).2 w) := by
  have hx : -32768 ≤ x ∧ x ≤ 32768 := by simpa [expB] using he
  obtain ⟨hx1, hx2⟩ := hx
  have h1 := h.alloc (.cells #[.bool false, .slice none 0 0, .int .i64 0] 25)
  have HT1 := Lib.hid (ht.next (ballo w (.cells #[.bool false, .slice none 0 0, .int .i64 0] 25)))
  clear ht
  have HE := Lib.hid he
  clear he
  have h256 : ¬ 256 < n := by omega
  go_enter Tryz.func26, Tryz.ntmps26
  go_wp2_with fail
  refine (exponent_any x _).mono ?_
  rintro e w' ⟨rfl, rfl⟩
  rw [HE.out]
  go_wp2_with fail
  refine (canonical_any neg A n c l x _ h1 hn (by omega) (by omega) HT1.out).mono ?_
  rintro e w1 ⟨A1, n1, c1, rfl, hs1, hf1, hb1⟩
  have hn1 : n1 ≤ 256 := by
    rw [← hs1.len]
    unfold canonD
    split
    · simp [zeroD]
    · exact len256 h.lt (by rw [h.len]; exact hn) (Nat.div_le_self _ _)
  have HD : Hid (checkD neg (val l) x = if inR (val (canonD neg (val l) x).l) (canonD neg (val l) x).e = true then (canonD neg (val l) x, 0) else (zeroD, 9)) := rfl
  generalize hd : canonD neg (val l) x = d at *
  clear hd
  generalize checkD neg (val l) x = r at *
  have hbw := bnext (ballo _ _) hb1
  by_cases hr : inR (val d.l) d.e = true
  · have hrr : r = (d, 0) := by rw [HD.out, if_pos hr]
    subst hrr
    go_wp2_with fail
    refine (checked_ok d.neg A1 n1 c1 d.l d.e _ hs1 (by omega) hr).mono ?_
    rintro e w2 ⟨rfl, hb2⟩
    have hb12 := bnext hb1 hb2
    have hbw2 := bnext hbw hb2
    obtain ⟨hc, hf⟩ := bcell hb12
    have hsz : w.heap.size + 1 ≤ w2.heap.size := by simpa using hb12.size
    have HR := Lib.hid hr
    clear hr
    go_wp2_with fail
    have hB0 := (Blk.new w 25 #[.bool false, .slice none 0 0, .int .i64 0]).below hb12 (by simp)
    refine bodyPost_ret (resDE Tryz.results26 rfl (hB0.set3 _ _ _)) rfl ?_
    have hlt : w.heap.size < (w.alloc (.cells #[.bool false, .slice none 0 0, .int .i64 0] 25)).heap.size := by simp
    have hs2 := hs1.below hb2
    exact ⟨A1, n1, c1, rfl, (((hs2.far hf1 hlt 0 _).far hf1 hlt 1 _).far hf1 hlt 2 _), hf1.mono (by simp), below_set3 hbw2 (Nat.le_refl _) _ _ _⟩
  · have hrr : r = (zeroD, 9) := by rw [HD.out, if_neg hr]
    subst hrr
    go_wp2_with fail
    refine (checked_big d.neg A1 n1 c1 d.l d.e _ hs1 (by omega) (by simpa using hr)).mono ?_
    rintro e w2 ⟨rfl, hb2⟩
    have hb12 := bnext hb1 hb2
    have hbw2 := bnext hbw hb2
    obtain ⟨hc, hf⟩ := bcell hb12
    have hsz : w.heap.size + 1 ≤ w2.heap.size := by simpa using hb12.size
    clear hr
    go_wp2_with fail
    have hB0 := (Blk.new w 25 #[.bool false, .slice none 0 0, .int .i64 0]).below hb12 (by simp)
    refine bodyPost_ret (resDE Tryz.results26 rfl (hB0.set3 _ _ _)) rfl ?_
    exact ⟨none, 0, 0, rfl, SL.nil _, Fresh.zero, below_set3 hbw2 (Nat.le_refl _) _ _ _⟩

end Go.Proofs.YtekajoifgdpmlaaGreatDoor
