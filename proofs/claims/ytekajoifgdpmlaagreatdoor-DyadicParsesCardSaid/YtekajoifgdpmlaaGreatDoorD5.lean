/- dyadic.Add, Sub, Int: what each call computes. -/
import Derived.Test.YtekajoifgdpmlaaGreatDoorD4
namespace Go.Proofs.YtekajoifgdpmlaaGreatDoor
open Go.RowKit Pl Go.Shelf

def addD (d d' : Dy) : Dy × Int := if vld d = true ∧ vld d' = true then sumD d d' else (zeroD, 1)

set_option maxHeartbeats 2000000 in
theorem addD_any (neg neg' : Bool) (A B : Option Addr) (n c m d : Nat) (l l' : List Nat) (x x' : Int) (w : World) (h : SL w A n c l) (h' : SL w B m d l') (ht : Tabs w) (hn : n ≤ 1000000) (hm : m ≤ 1000000) :
    Calls Tryz.prog 27 #[.agg #[.bool neg, .slice A n c, .int .i64 x], .agg #[.bool neg', .slice B m d, .int .i64 x']] w
      (RetE (addD ⟨neg, l, x⟩ ⟨neg', l', x'⟩).1 (addD ⟨neg, l, x⟩ ⟨neg', l', x'⟩).2 w) := by
  have HA : Hid (addD ⟨neg, l, x⟩ ⟨neg', l', x'⟩ = if vld ⟨neg, l, x⟩ = true ∧ vld ⟨neg', l', x'⟩ = true then sumD ⟨neg, l, x⟩ ⟨neg', l', x'⟩ else (zeroD, 1)) := rfl
  generalize addD ⟨neg, l, x⟩ ⟨neg', l', x'⟩ = r at *
  have HS : Hid (vld ⟨neg, l, x⟩ = true → vld ⟨neg', l', x'⟩ = true → ∀ W, SL W A n c l → SL W B m d l' → Tabs W → Calls Tryz.prog 98 #[.agg #[.bool neg, .slice A n c, .int .i64 x], .agg #[.bool neg', .slice B m d, .int .i64 x']] W
      (RetE (sumD ⟨neg, l, x⟩ ⟨neg', l', x'⟩).1 (sumD ⟨neg, l, x⟩ ⟨neg', l', x'⟩).2 W)) := fun hv hv' W h1 h2 h3 => sum_any neg neg' A B n c m d l l' x x' W h1 h2 h3 hv hv'
  generalize sumD ⟨neg, l, x⟩ ⟨neg', l', x'⟩ = sd at *
  obtain ⟨k1, k2, k3, k4, k5⟩ := box3 w 25 #[.bool neg, .slice A n c, .int .i64 x] #[.bool neg', .slice B m d, .int .i64 x'] #[.bool false, .slice none 0 0, .int .i64 0]
  have h1 := h.below k5
  have h1' := h'.below k5
  have HT := Lib.hid (ht.next k5)
  clear ht
  generalize hv : vld ⟨neg, l, x⟩ = v at *
  generalize hv' : vld ⟨neg', l', x'⟩ = v' at *
  have HV := Lib.hid hv
  have HV' := Lib.hid hv'
  clear hv hv'
  go_enter Tryz.func27, Tryz.ntmps27
  go_wp2_with fail
  generalize ((w.alloc (.cells #[.bool neg, .slice A n c, .int .i64 x] 25)).alloc (.cells #[.bool neg', .slice B m d, .int .i64 x'] 25)).alloc (.cells #[.bool false, .slice none 0 0, .int .i64 0] 25) = W0 at *
  refine (valid_any neg A n c l x _ h1 (by omega)).mono ?_
  rintro e w1 ⟨rfl, hb1⟩
  rw [HV.out]
  have j1 := k1.below hb1 (by omega)
  have j2 := k2.below hb1 (by omega)
  have j3 := k3.below hb1 (by omega)
  have hz1 : w.heap.size + 3 ≤ w1.heap.size := by have := hb1.size; omega
  have h2 := h1.below hb1
  have h2' := h1'.below hb1
  have HT1 := Lib.hid (HT.out.next hb1)
  have hbw := bnext k5 hb1
  obtain ⟨s0, s1, s2⟩ := j1.cells3
  obtain ⟨t0, t1, t2⟩ := j2.cells3
  obtain ⟨r0, r1, r2⟩ := j3.cells3
  have f0 := j3.frozen 0
  have f1 := j3.frozen 1
  have f2 := j3.frozen 2
  clear k1 k2 k3 k4 h1 h1' HT hb1
  cases v
  · have hr : r = (zeroD, 1) := by rw [HA.out]; simp
    subst hr
    clear HA HS
    go_wp2_with fail
    refine bodyPost_ret (resDE Tryz.results27 rfl (j3.set3 _ _ _)) rfl ?_
    exact ⟨none, 0, 0, rfl, SL.nil _, Fresh.zero, below_set3 hbw (by omega) _ _ _⟩
  · go_wp2_with fail
    refine (valid_any neg' B m d l' x' _ h2' (by omega)).mono ?_
    rintro e w2 ⟨rfl, hb2⟩
    rw [HV'.out]
    have i1 := j1.below hb2 (by omega)
    have i2 := j2.below hb2 (by omega)
    have i3 := j3.below hb2 (by omega)
    have hz2 : w.heap.size + 3 ≤ w2.heap.size := by have := hb2.size; omega
    have h3 := h2.below hb2
    have h3' := h2'.below hb2
    have HT2 := Lib.hid (HT1.out.next hb2)
    have hbw2 := bnext hbw hb2
    clear s0 s1 s2 t0 t1 t2 r0 r1 r2 f0 f1 f2 j1 j2 j3 h2 h2' HT1 hb2 hbw hz1
    obtain ⟨s0, s1, s2⟩ := i1.cells3
    obtain ⟨t0, t1, t2⟩ := i2.cells3
    obtain ⟨r0, r1, r2⟩ := i3.cells3
    have f0 := i3.frozen 0
    have f1 := i3.frozen 1
    have f2 := i3.frozen 2
    cases v'
    · have hr : r = (zeroD, 1) := by rw [HA.out]; simp
      subst hr
      clear HA HS
      go_wp2_with fail
      refine bodyPost_ret (resDE Tryz.results27 rfl (i3.set3 _ _ _)) rfl ?_
      exact ⟨none, 0, 0, rfl, SL.nil _, Fresh.zero, below_set3 hbw2 (by omega) _ _ _⟩
    · have hr : r = sd := by rw [HA.out]; simp
      subst hr
      clear HA
      go_wp2_with fail
      refine (HS.out (by simp) (by simp) _ h3 h3' HT2.out).mono ?_
      rintro e w3 ⟨A3, n3, c3, rfl, hs3, hf3, hb3⟩
      have g3 := i3.below hb3 (by omega)
      obtain ⟨v0, v1, v2⟩ := g3.cells3
      have e0 := g3.frozen 0
      have e1 := g3.frozen 1
      have e2 := g3.frozen 2
      have hz3 : w.heap.size + 3 ≤ w3.heap.size := by have := hb3.size; omega
      go_wp2_with fail
      refine bodyPost_ret (resDE Tryz.results27 rfl (g3.set3 _ _ _)) rfl ?_
      exact ⟨A3, n3, c3, rfl, (((hs3.far hf3 (by omega) 0 _).far hf3 (by omega) 1 _).far hf3 (by omega) 2 _), hf3.mono (by omega), below_set3 (bnext hbw2 hb3) (by omega) _ _ _⟩

/-- An integer as a number. -/
def intD (n : Int) : Dy := canonD (decide (n < 0)) n.natAbs 0
theorem val_two (k : Nat) : val [k % 4294967296, k / 4294967296] = k := by simp [val]; omega

theorem SL.two (w : World) (t : TypeId) (x y : Nat) (hx : x < 4294967296) (hy : y < 4294967296) : SL (w.alloc (.cells #[.int .u32 (x : Int), .int .u32 (y : Int)] t)) (some ⟨w.heap.size, 0, none⟩) 2 2 [x, y] :=
  ⟨rfl, by omega, by omega, fun z hz => by simp at hz; omega, fun _ => ⟨_, _, rfl, by simp, fun j z hz => by
    rcases j with _ | _ | j
    · simp at hz; subst hz; simp
    · simp at hz; subst hz; simp
    · simp at hz⟩⟩

set_option maxHeartbeats 1000000 in
theorem intD_nonneg (k : Nat) (w : World) (hk : k < 9223372036854775808) (ht : Tabs w) :
    Calls Tryz.prog 28 #[.int .i64 (k : Int)] w (RetD (intD k) w) := by
  have HI : Hid (intD k = canonD false (val [k % 4294967296, k / 4294967296]) 0) := by
    unfold Hid intD
    rw [val_two, show decide ((k : Int) < 0) = false from by simp, Int.natAbs_natCast]
  have HT := Lib.hid ht
  clear ht
  have e1 : (k : Int) % 4294967296 = ((k % 4294967296 : Nat) : Int) := by omega
  have e2 : (k : Int) / 4294967296 = ((k / 4294967296 : Nat) : Int) := by omega
  have E1 := Lib.hid e1
  have E2 := Lib.hid e2
  clear e1 e2
  have hdk : decide ((k : Int) < 0) = false := by simp
  go_enter Tryz.func28, Tryz.ntmps28
  go_wp2_with fail
  have e1 := E1.out
  have e2 := E2.out
  rw [e1, e2]
  clear e1 e2
  have hs0 := SL.two (w.alloc (.cells #[.bool false, .slice none 0 0, .int .i64 0] 25)) 60 (k % 4294967296) (k / 4294967296) (by omega) (by omega)
  rw [World.size_alloc] at hs0
  have hb0 : Below w.heap.size w ((w.alloc (.cells #[.bool false, .slice none 0 0, .int .i64 0] 25)).alloc (.cells #[.int .u32 ((k % 4294967296 : Nat) : Int), .int .u32 ((k / 4294967296 : Nat) : Int)] 60)) := (ballo _ _).alloc (by simp) _
  have k1 := (Blk.new w 25 #[.bool false, .slice none 0 0, .int .i64 0]).alloc (.cells #[.int .u32 ((k % 4294967296 : Nat) : Int), .int .u32 ((k / 4294967296 : Nat) : Int)] 60)
  have hz0 : w.heap.size + 2 ≤ ((w.alloc (.cells #[.bool false, .slice none 0 0, .int .i64 0] 25)).alloc (.cells #[.int .u32 ((k % 4294967296 : Nat) : Int), .int .u32 ((k / 4294967296 : Nat) : Int)] 60)).heap.size := by simp
  generalize (w.alloc (.cells #[.bool false, .slice none 0 0, .int .i64 0] 25)).alloc (.cells #[.int .u32 ((k % 4294967296 : Nat) : Int), .int .u32 ((k / 4294967296 : Nat) : Int)] 60) = W0 at *
  refine (canonical_any false _ 2 2 _ 0 _ hs0 (by omega) (by omega) (by omega) (HT.out.next hb0)).mono ?_
  rintro e w1 ⟨A1, n1, c1, rfl, hs1, hf1, hb1⟩
  rw [← HI.out] at hs1 ⊢
  have j1 := k1.below hb1 (by omega)
  obtain ⟨s0, s1, s2⟩ := j1.cells3
  have f0 := j1.frozen 0
  have f1 := j1.frozen 1
  have f2 := j1.frozen 2
  have hz1 : w.heap.size + 2 ≤ w1.heap.size := by have := hb1.size; omega
  go_wp2_with fail
  refine bodyPost_ret (resD Tryz.results28 rfl (j1.set3 _ _ _)) rfl ?_
  exact ⟨A1, n1, c1, rfl, (((hs1.far hf1 (by omega) 0 _).far hf1 (by omega) 1 _).far hf1 (by omega) 2 _), hf1.mono (by omega), below_set3 (bnext hb0 hb1) (by omega) _ _ _⟩

set_option maxHeartbeats 1000000 in
theorem intD_neg (k : Nat) (w : World) (hk : k ≤ 9223372036854775808) (h0 : 0 < k) (ht : Tabs w) :
    Calls Tryz.prog 28 #[.int .i64 (-(k : Int))] w (RetD (intD (-(k : Int))) w) := by
  have HI : Hid (intD (-(k : Int)) = canonD true (val [k % 4294967296, k / 4294967296]) 0) := by
    unfold Hid intD
    rw [val_two, show decide (-(k : Int) < 0) = true from by simp; omega, Int.natAbs_neg, Int.natAbs_natCast]
  have HT := Lib.hid ht
  clear ht
  have e1 : (k : Int) % 4294967296 = ((k % 4294967296 : Nat) : Int) := by omega
  have e2 : (k : Int) / 4294967296 = ((k / 4294967296 : Nat) : Int) := by omega
  have E1 := Lib.hid e1
  have E2 := Lib.hid e2
  clear e1 e2
  have hwk : IntKind.u64.wrap (-IntKind.u64.wrap (-(k : Int))) = (k : Int) := by
    simp only [IntKind.wrap, IntKind.bits, IntKind.signed]
    simp
    omega
  have hm : (k : Int) / 4294967296 % 4294967296 = (k : Int) / 4294967296 := by omega
  go_enter Tryz.func28, Tryz.ntmps28
  go_wp2_with fail
  have e1 := E1.out
  have e2 := E2.out
  rw [e1, e2]
  clear e1 e2
  have hs0 := SL.two (w.alloc (.cells #[.bool false, .slice none 0 0, .int .i64 0] 25)) 60 (k % 4294967296) (k / 4294967296) (by omega) (by omega)
  rw [World.size_alloc] at hs0
  have hb0 : Below w.heap.size w ((w.alloc (.cells #[.bool false, .slice none 0 0, .int .i64 0] 25)).alloc (.cells #[.int .u32 ((k % 4294967296 : Nat) : Int), .int .u32 ((k / 4294967296 : Nat) : Int)] 60)) := (ballo _ _).alloc (by simp) _
  have k1 := (Blk.new w 25 #[.bool false, .slice none 0 0, .int .i64 0]).alloc (.cells #[.int .u32 ((k % 4294967296 : Nat) : Int), .int .u32 ((k / 4294967296 : Nat) : Int)] 60)
  have hz0 : w.heap.size + 2 ≤ ((w.alloc (.cells #[.bool false, .slice none 0 0, .int .i64 0] 25)).alloc (.cells #[.int .u32 ((k % 4294967296 : Nat) : Int), .int .u32 ((k / 4294967296 : Nat) : Int)] 60)).heap.size := by simp
  generalize (w.alloc (.cells #[.bool false, .slice none 0 0, .int .i64 0] 25)).alloc (.cells #[.int .u32 ((k % 4294967296 : Nat) : Int), .int .u32 ((k / 4294967296 : Nat) : Int)] 60) = W0 at *
  refine (canonical_any true _ 2 2 _ 0 _ hs0 (by omega) (by omega) (by omega) (HT.out.next hb0)).mono ?_
  rintro e w1 ⟨A1, n1, c1, rfl, hs1, hf1, hb1⟩
  rw [← HI.out] at hs1 ⊢
  have j1 := k1.below hb1 (by omega)
  obtain ⟨s0, s1, s2⟩ := j1.cells3
  have f0 := j1.frozen 0
  have f1 := j1.frozen 1
  have f2 := j1.frozen 2
  have hz1 : w.heap.size + 2 ≤ w1.heap.size := by have := hb1.size; omega
  go_wp2_with fail
  refine bodyPost_ret (resD Tryz.results28 rfl (j1.set3 _ _ _)) rfl ?_
  exact ⟨A1, n1, c1, rfl, (((hs1.far hf1 (by omega) 0 _).far hf1 (by omega) 1 _).far hf1 (by omega) 2 _), hf1.mono (by omega), below_set3 (bnext hb0 hb1) (by omega) _ _ _⟩

end Go.Proofs.YtekajoifgdpmlaaGreatDoor
