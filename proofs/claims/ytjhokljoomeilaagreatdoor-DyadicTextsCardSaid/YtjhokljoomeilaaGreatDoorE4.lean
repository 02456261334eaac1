/- dyadic.Sub, Scale: what each call computes. -/
import Derived.Test.YtjhokljoomeilaaGreatDoorE2
import Derived.Test.YtjhokljoomeilaaGreatDoorD5
namespace Go.Proofs.YtjhokljoomeilaaGreatDoor
open Go.RowKit Pl Go.Shelf

def subD (d d' : Dy) : Dy × Int := if vld d = true ∧ vld d' = true then sumD d (negD d') else (zeroD, 1)
theorem vld_neg {d : Dy} (hv : vld d = true) : vld (negD d) = true := by
  unfold negD
  split
  · rename_i h
    unfold vld at hv ⊢
    simp only [decide_eq_true_eq] at hv ⊢
    rcases hv with h' | h'
    · exact absurd h'.1 h.2
    · exact .inr h'
  · rfl

set_option maxHeartbeats 2000000 in
theorem subD_any (neg neg' : Bool) (A B : Option Addr) (n c m d : Nat) (l l' : List Nat) (x x' : Int) (w : World) (h : SL w A n c l) (h' : SL w B m d l') (ht : Tabs w) (hn : n ≤ 1000000) (hm : m ≤ 1000000) :
    Calls Tryz.prog 11 #[.agg #[.bool neg, .slice A n c, .int .i64 x], .agg #[.bool neg', .slice B m d, .int .i64 x']] w
      (RetE (subD ⟨neg, l, x⟩ ⟨neg', l', x'⟩).1 (subD ⟨neg, l, x⟩ ⟨neg', l', x'⟩).2 w) := by
  have HA : Hid (subD ⟨neg, l, x⟩ ⟨neg', l', x'⟩ = if vld ⟨neg, l, x⟩ = true ∧ vld ⟨neg', l', x'⟩ = true then sumD ⟨neg, l, x⟩ (negD ⟨neg', l', x'⟩) else (zeroD, 1)) := rfl
  generalize subD ⟨neg, l, x⟩ ⟨neg', l', x'⟩ = r at *
  obtain ⟨⟨nn, nl, ne⟩, hnd⟩ : ∃ d, d = negD ⟨neg', l', x'⟩ := ⟨_, rfl⟩
  have HND := Lib.hid hnd
  have HVN : Hid (vld ⟨neg', l', x'⟩ = true → vld ⟨nn, nl, ne⟩ = true) := fun hv' => by rw [hnd]; exact vld_neg hv'
  rw [← hnd] at HA
  clear hnd
  have HS : Hid (vld ⟨neg, l, x⟩ = true → vld ⟨nn, nl, ne⟩ = true → ∀ W AA nA cA, SL W A n c l → SL W AA nA cA nl → Tabs W → Calls Tryz.prog 28 #[.agg #[.bool neg, .slice A n c, .int .i64 x], .agg #[.bool nn, .slice AA nA cA, .int .i64 ne]] W
      (RetE (sumD ⟨neg, l, x⟩ ⟨nn, nl, ne⟩).1 (sumD ⟨neg, l, x⟩ ⟨nn, nl, ne⟩).2 W)) := fun hv hv' W AA nA cA h1 h2 h3 => sum_any neg nn A AA n c nA cA l nl x ne W h1 h2 h3 hv hv'
  generalize sumD ⟨neg, l, x⟩ ⟨nn, nl, ne⟩ = sd at *
  obtain ⟨k1, k2, k3, k4, k5⟩ := box3 w 24 #[.bool neg, .slice A n c, .int .i64 x] #[.bool neg', .slice B m d, .int .i64 x'] #[.bool false, .slice none 0 0, .int .i64 0]
  have h1 := h.below k5
  have h1' := h'.below k5
  have HT := Lib.hid (ht.next k5)
  clear ht
  generalize hv : vld ⟨neg, l, x⟩ = v at *
  generalize hv' : vld ⟨neg', l', x'⟩ = v' at *
  have HV := Lib.hid hv
  have HV' := Lib.hid hv'
  clear hv hv'
  go_enter Tryz.func11, Tryz.ntmps11
  go_wp2_with fail
  generalize ((w.alloc (.cells #[.bool neg, .slice A n c, .int .i64 x] 24)).alloc (.cells #[.bool neg', .slice B m d, .int .i64 x'] 24)).alloc (.cells #[.bool false, .slice none 0 0, .int .i64 0] 24) = W0 at *
  refine (valid_any neg A n c l x _ h1 (by omega)).mono ?_
  rintro e w1 ⟨rfl, hb1⟩
  rw [HV.out]
  have j1 := k1.below hb1 (by omega)
  have j2 := k2.below hb1 (by omega)
  have j3 := k3.below hb1 (by omega)
  have hz1 : w.heap.size + 3 ≤ w1.heap.size := by have := hb1.size; omega
  have h2 := h1.below hb1
  have h2' := h1'.below hb1
  have HT1 := Lib.hid (HT.out.next hb1)
  have hbw := bnext k5 hb1
  obtain ⟨s0, s1, s2⟩ := j1.cells3
  obtain ⟨t0, t1, t2⟩ := j2.cells3
  obtain ⟨r0, r1, r2⟩ := j3.cells3
  have f0 := j3.frozen 0
  have f1 := j3.frozen 1
  have f2 := j3.frozen 2
  clear k1 k2 k3 k4 h1 h1' HT hb1
  cases v
  · have hr : r = (zeroD, 1) := by rw [HA.out]; simp
    subst hr
    clear HA HS
    go_wp2_with fail
    refine bodyPost_ret (resDE Tryz.results11 rfl (j3.set3 _ _ _)) rfl ?_
    exact ⟨none, 0, 0, rfl, SL.nil _, Fresh.zero, below_set3 hbw (by omega) _ _ _⟩
  · go_wp2_with fail
    refine (valid_any neg' B m d l' x' _ h2' (by omega)).mono ?_
    rintro e w2 ⟨rfl, hb2⟩
    rw [HV'.out]
    have i1 := j1.below hb2 (by omega)
    have i2 := j2.below hb2 (by omega)
    have i3 := j3.below hb2 (by omega)
    have hz2 : w.heap.size + 3 ≤ w2.heap.size := by have := hb2.size; omega
    have h3 := h2.below hb2
    have h3' := h2'.below hb2
    have HT2 := Lib.hid (HT1.out.next hb2)
    have hbw2 := bnext hbw hb2
    clear s0 s1 s2 t0 t1 t2 r0 r1 r2 f0 f1 f2 j1 j2 j3 h2 h2' HT1 hb2 hbw hz1
    obtain ⟨s0, s1, s2⟩ := i1.cells3
    obtain ⟨t0, t1, t2⟩ := i2.cells3
    obtain ⟨r0, r1, r2⟩ := i3.cells3
    have f0 := i3.frozen 0
    have f1 := i3.frozen 1
    have f2 := i3.frozen 2
    cases v'
    · have hr : r = (zeroD, 1) := by rw [HA.out]; simp
      subst hr
      clear HA HS
      go_wp2_with fail
      refine bodyPost_ret (resDE Tryz.results11 rfl (i3.set3 _ _ _)) rfl ?_
      exact ⟨none, 0, 0, rfl, SL.nil _, Fresh.zero, below_set3 hbw2 (by omega) _ _ _⟩
    · have hr : r = sd := by rw [HA.out]; simp
      subst hr
      clear HA
      have hg0 : w.heap.size < w2.drew.heap.size := i1.lt
      have hg1 : w.heap.size + 1 < w2.drew.heap.size := i2.lt
      have hg2 : w.heap.size + 2 < w2.drew.heap.size := i3.lt
      clear r0 r1 r2 f0 f1 f2
      go_wp2_with fail
      go_region_held3 (fun W => W.cell? ⟨w.heap.size, 0, none⟩ = some (.bool neg) ∧ W.cell? ⟨w.heap.size, 1, none⟩ = some (.slice A n c) ∧ W.cell? ⟨w.heap.size, 2, none⟩ = some (.int .i64 x) ∧ W.cell? ⟨w.heap.size + 1, 0, none⟩ = some (.bool neg') ∧ W.cell? ⟨w.heap.size + 1, 1, none⟩ = some (.slice B m d) ∧ W.cell? ⟨w.heap.size + 1, 2, none⟩ = some (.int .i64 x'))
        (first | exact ⟨s0, s1, s2, t0, t1, t2⟩ | exact keep6 hbA hg0 hg1 ⟨s0, s1, s2, t0, t1, t2⟩ | exact keep6 hbB hg0 hg1 ⟨s0, s1, s2, t0, t1, t2⟩ | exact keep6 (below_set3 (B := w.heap.size + 2) (Below.refl _ _) (Nat.le_refl _) _ _ _) (by omega) (by omega) (keep6 hbB hg0 hg1 ⟨s0, s1, s2, t0, t1, t2⟩))
        (first
          | (go_at_call 31; (refine (negD_any neg' B m d l' x' _ h3'.drew (by omega)).mono ?_); rw [← HND.out]; rintro e wA ⟨AA, nA, cA, rfl, hsA, hfA, hbA⟩)
          | (go_at_call 28; (refine (HS.out (by simp) (HVN.out (by simp)) _ AA nA cA (h3.drew.below hbA) hsA ((show Tabs w2.drew from HT2.out).next hbA)).mono ?_); rintro e w3 ⟨A3, n3, c3, rfl, hs3, hf3, hb3⟩; have hbB := bnext hbA hb3; have g3 := i3.drew.below hbB hg2; obtain ⟨v0, v1, v2⟩ := g3.cells3; have e0 := g3.frozen 0; have e1 := g3.frozen 1; have e2 := g3.frozen 2))
      have hz3 : w.heap.size + 3 ≤ wA.heap.size := by have := hbA.size; simp at this; omega
      go_wp2_with fail
      refine bodyPost_ret (resDE Tryz.results11 rfl (g3.set3 _ _ _)) rfl ?_
      exact ⟨A3, n3, c3, rfl, (((hs3.far hf3 (by omega) 0 _).far hf3 (by omega) 1 _).far hf3 (by omega) 2 _), hf3.mono (by omega), below_set3 (bnext (below_drewN hbw2 1) hbB) (by omega) _ _ _⟩

def scaleD (d : Dy) (k : Int) : Dy × Int := if vld d = true ∧ expB k = true then checkD d.neg (val d.l) (d.e + k) else (zeroD, 1)

set_option maxHeartbeats 2000000 in
theorem scaleD_any (neg : Bool) (A : Option Addr) (n c : Nat) (l : List Nat) (x k : Int) (w : World) (h : SL w A n c l) (ht : Tabs w) (hn : n ≤ 1000000) :
    Calls Tryz.prog 15 #[.agg #[.bool neg, .slice A n c, .int .i64 x], .int .i64 k] w (RetE (scaleD ⟨neg, l, x⟩ k).1 (scaleD ⟨neg, l, x⟩ k).2 w) := by
  have HA : Hid (scaleD ⟨neg, l, x⟩ k = if vld ⟨neg, l, x⟩ = true ∧ expB k = true then checkD neg (val l) (x + k) else (zeroD, 1)) := rfl
  generalize scaleD ⟨neg, l, x⟩ k = r at *
  have k1 := (Blk.new w 24 #[.bool neg, .slice A n c, .int .i64 x]).alloc (.cells #[.bool false, .slice none 0 0, .int .i64 0] 24)
  have k3 := Blk.newAt (w.alloc (.cells #[.bool neg, .slice A n c, .int .i64 x] 24)) 24 #[.bool false, .slice none 0 0, .int .i64 0] (g := w.heap.size + 1) (by simp)
  have k5 := (ballo w (.cells #[.bool neg, .slice A n c, .int .i64 x] 24)).alloc (by simp) (.cells #[.bool false, .slice none 0 0, .int .i64 0] 24)
  have h1 := h.below k5
  have HT := Lib.hid (ht.next k5)
  have HVB : Hid (vld ⟨neg, l, x⟩ = true → n ≤ 256 ∧ -16384 ≤ x ∧ x ≤ 16384) := fun hv => vld_len h hv
  clear ht
  generalize hv : vld ⟨neg, l, x⟩ = v at *
  have HV := Lib.hid hv
  clear hv
  go_enter Tryz.func15, Tryz.ntmps15
  go_wp2_with fail
  generalize (w.alloc (.cells #[.bool neg, .slice A n c, .int .i64 x] 24)).alloc (.cells #[.bool false, .slice none 0 0, .int .i64 0] 24) = W0 at *
  refine (valid_any neg A n c l x _ h1 (by omega)).mono ?_
  rintro e w1 ⟨rfl, hb1⟩
  rw [HV.out]
  have j1 := k1.below hb1 k1.lt
  have j3 := k3.below hb1 k3.lt
  have hz1 : w.heap.size + 2 ≤ w1.heap.size := j3.lt
  have h2 := h1.below hb1
  have HT1 := Lib.hid (HT.out.next hb1)
  have hbw := bnext k5 hb1
  obtain ⟨s0, s1, s2⟩ := j1.cells3
  obtain ⟨r0, r1, r2⟩ := j3.cells3
  have f0 := j3.frozen 0
  have f1 := j3.frozen 1
  have f2 := j3.frozen 2
  clear k1 k3 h1 HT hb1
  cases v
  · have hr : r = (zeroD, 1) := by rw [HA.out]; simp
    subst hr
    clear HA
    go_wp2_with fail
    refine bodyPost_ret (resDE Tryz.results15 rfl (j3.set3 _ _ _)) rfl ?_
    exact ⟨none, 0, 0, rfl, SL.nil _, Fresh.zero, below_set3 hbw (by omega) _ _ _⟩
  · go_wp2_with fail
    refine (exponent_any k _).mono ?_
    rintro e w' ⟨rfl, rfl⟩
    cases hk : expB k
    · have hr : r = (zeroD, 1) := by rw [HA.out, hk]; simp
      subst hr
      clear HA
      go_wp2_with fail
      refine bodyPost_ret (resDE Tryz.results15 rfl (j3.set3 _ _ _)) rfl ?_
      exact ⟨none, 0, 0, rfl, SL.nil _, Fresh.zero, below_set3 hbw (by omega) _ _ _⟩
    · have hkb : -32768 ≤ k ∧ k ≤ 32768 := by simpa [expB] using hk
      obtain ⟨hk1, hk2⟩ := hkb
      obtain ⟨hn256, hx1, hx2⟩ := HVB.out (by simp)
      have hr : r = checkD neg (val l) (x + k) := by rw [HA.out, hk]; simp
      have HR := Lib.hid hr
      clear HA hk hr
      have hw : IntKind.i64.wrap (x + k) = x + k := IntWalk.i64_in _ (by omega)
      go_wp2_with fail
      first | (refine (canonical_any neg A n c l (x + k) _ h2 hn256 (by omega) (by omega) HT1.out).mono ?_) | (rw [hw]; refine (canonical_any neg A n c l (x + k) _ h2 hn256 (by omega) (by omega) HT1.out).mono ?_)
      rintro e w2 ⟨A1, n1, c1, rfl, hs1, hf1, hb2⟩
      have hn1 : n1 ≤ 256 := by
        rw [← hs1.len]
        unfold canonD
        split
        · simp [zeroD]
        · exact len256 h.lt (by rw [h.len]; exact hn256) (Nat.div_le_self _ _)
      have HD : Hid (r = if inR (val (canonD neg (val l) (x + k)).l) (canonD neg (val l) (x + k)).e = true then (canonD neg (val l) (x + k), 0) else (zeroD, 9)) := HR.out
      generalize hd : canonD neg (val l) (x + k) = d at *
      clear hd HR
      have hbw2 := bnext hbw hb2
      have i3 := j3.below hb2 j3.lt
      clear hw s0 s1 s2 r0 r1 r2 f0 f1 f2
      by_cases hr : inR (val d.l) d.e = true
      · have hrr : r = (d, 0) := by rw [HD.out, if_pos hr]
        subst hrr
        go_wp2_with fail
        refine (checked_ok d.neg A1 n1 c1 d.l d.e _ hs1 (by omega) hr).mono ?_
        rintro e w3 ⟨rfl, hb3⟩
        have HRR := Lib.hid hr
        clear hr HD
        have g3 := i3.below hb3 i3.lt
        obtain ⟨v0, v1, v2⟩ := g3.cells3
        have e0 := g3.frozen 0
        have e1 := g3.frozen 1
        have e2 := g3.frozen 2
        have hf1' : Fresh (w.heap.size + 2) A1 n1 := hf1.mono hz1
        go_wp2_with fail
        refine bodyPost_ret (resDE Tryz.results15 rfl (g3.set3 _ _ _)) rfl ?_
        exact ⟨A1, n1, c1, rfl, ((((hs1.below hb3).far hf1' (by omega) 0 _).far hf1' (by omega) 1 _).far hf1' (by omega) 2 _), hf1.mono (by omega), below_set3 (bnext hbw2 hb3) (by omega) _ _ _⟩
      · have hrr : r = (zeroD, 9) := by rw [HD.out, if_neg hr]
        subst hrr
        go_wp2_with fail
        refine (checked_big d.neg A1 n1 c1 d.l d.e _ hs1 (by omega) (by simpa using hr)).mono ?_
        rintro e w3 ⟨rfl, hb3⟩
        have HRR := Lib.hid hr
        clear hr HD
        have g3 := i3.below hb3 i3.lt
        have hz2 : w.heap.size + 2 ≤ w2.heap.size := i3.lt
        obtain ⟨v0, v1, v2⟩ := g3.cells3
        have e0 := g3.frozen 0
        have e1 := g3.frozen 1
        have e2 := g3.frozen 2
        go_wp2_with fail
        refine bodyPost_ret (resDE Tryz.results15 rfl (g3.set3 _ _ _)) rfl ?_
        exact ⟨none, 0, 0, rfl, SL.nil _, Fresh.zero, below_set3 (bnext hbw2 hb3) (by omega) _ _ _⟩

end Go.Proofs.YtjhokljoomeilaaGreatDoor
