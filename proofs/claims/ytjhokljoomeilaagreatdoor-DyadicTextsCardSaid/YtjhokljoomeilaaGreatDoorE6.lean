/- dyadic.Mul: what the call computes. -/
import Derived.Test.YtjhokljoomeilaaGreatDoorE4
import Derived.Test.YtjhokljoomeilaaGreatDoorE5
namespace Go.Proofs.YtjhokljoomeilaaGreatDoor
open Go.RowKit Pl Go.Shelf

def mulD (d d' : Dy) : Dy × Int := if vld d = true ∧ vld d' = true then checkD (d.neg != d'.neg) (val d.l * val d'.l) (d.e + d'.e) else (zeroD, 1)
theorem blen_mul {v u : Nat} (hv : 0 < v) (hu : 0 < u) : blen v + blen u ≤ blen (v * u) + 1 ∧ blen (v * u) ≤ blen v + blen u := by
  have p1 := blen_pos v hv
  have p2 := blen_pos u hu
  constructor
  · have h1 := Nat.mul_le_mul (le_blen v hv) (le_blen u hu)
    rw [← Nat.pow_add] at h1
    have := lt_blen_of _ _ h1
    omega
  · refine blen_le_of _ _ ?_
    rw [Nat.pow_add]
    exact Nat.mul_lt_mul'' (lt_blen v) (lt_blen u)

set_option maxRecDepth 100000 in
set_option maxHeartbeats 4000000 in
theorem mulD_any (neg neg' : Bool) (A B : Option Addr) (n c m d : Nat) (l l' : List Nat) (x x' : Int) (w : World) (h : SL w A n c l) (h' : SL w B m d l') (ht : Tabs w) (hn : n ≤ 1000000) (hm : m ≤ 1000000) :
    Calls Tryz.prog 13 #[.agg #[.bool neg, .slice A n c, .int .i64 x], .agg #[.bool neg', .slice B m d, .int .i64 x']] w
      (RetE (mulD ⟨neg, l, x⟩ ⟨neg', l', x'⟩).1 (mulD ⟨neg, l, x⟩ ⟨neg', l', x'⟩).2 w) := by
  have HA : Hid (mulD ⟨neg, l, x⟩ ⟨neg', l', x'⟩ = if vld ⟨neg, l, x⟩ = true ∧ vld ⟨neg', l', x'⟩ = true then checkD (neg != neg') (val l * val l') (x + x') else (zeroD, 1)) := rfl
  generalize mulD ⟨neg, l, x⟩ ⟨neg', l', x'⟩ = r at *
  have HVB : Hid (vld ⟨neg, l, x⟩ = true → n ≤ 256 ∧ -16384 ≤ x ∧ x ≤ 16384) := fun hv => vld_len h hv
  have HVB' : Hid (vld ⟨neg', l', x'⟩ = true → m ≤ 256 ∧ -16384 ≤ x' ∧ x' ≤ 16384) := fun hv => vld_len h' hv
  have HVO : Hid (vld ⟨neg, l, x⟩ = true → n ≠ 0 → val l % 2 = 1) := fun hv hn => (vld_bounds hv ((ne_nil_iff h).2 hn)).2.2.1
  have HVO' : Hid (vld ⟨neg', l', x'⟩ = true → m ≠ 0 → val l' % 2 = 1) := fun hv hn => (vld_bounds hv ((ne_nil_iff h').2 hn)).2.2.1
  have HVL : Hid (vld ⟨neg, l, x⟩ = true → n ≠ 0 → blen (val l) ≤ 4096) := fun hv hn => (vld_bounds hv ((ne_nil_iff h).2 hn)).2.2.2.1
  have HVL' : Hid (vld ⟨neg', l', x'⟩ = true → m ≠ 0 → blen (val l') ≤ 4096) := fun hv hn => (vld_bounds hv ((ne_nil_iff h').2 hn)).2.2.2.1
  have HZ : Hid (n = 0 → val l = 0) := fun hn => by rw [h.empty hn]; rfl
  have HZ' : Hid (m = 0 → val l' = 0) := fun hn => by rw [h'.empty hn]; rfl
  obtain ⟨k1, k2, k3, k4, k5⟩ := box3 w 24 #[.bool neg, .slice A n c, .int .i64 x] #[.bool neg', .slice B m d, .int .i64 x'] #[.bool false, .slice none 0 0, .int .i64 0]
  have h1 := h.below k5
  have h1' := h'.below k5
  have HT := Lib.hid (ht.next k5)
  clear ht
  generalize hv : vld ⟨neg, l, x⟩ = v at *
  generalize hv' : vld ⟨neg', l', x'⟩ = v' at *
  have HV := Lib.hid hv
  have HV' := Lib.hid hv'
  clear hv hv'
  go_enter Tryz.func13, Tryz.ntmps13
  go_wp2_with fail
  generalize ((w.alloc (.cells #[.bool neg, .slice A n c, .int .i64 x] 24)).alloc (.cells #[.bool neg', .slice B m d, .int .i64 x'] 24)).alloc (.cells #[.bool false, .slice none 0 0, .int .i64 0] 24) = W0 at *
  refine (valid_any neg A n c l x _ h1 (by omega)).mono ?_
  rintro e w1 ⟨rfl, hb1⟩
  rw [HV.out]
  have j1 := k1.below hb1 (by omega)
  have j2 := k2.below hb1 (by omega)
  have j3 := k3.below hb1 (by omega)
  have hz1 : w.heap.size + 3 ≤ w1.heap.size := by have := hb1.size; omega
  have h2 := h1.below hb1
  have h2' := h1'.below hb1
  have HT1 := Lib.hid (HT.out.next hb1)
  have hbw := bnext k5 hb1
  obtain ⟨s0, s1, s2⟩ := j1.cells3
  obtain ⟨t0, t1, t2⟩ := j2.cells3
  obtain ⟨r0, r1, r2⟩ := j3.cells3
  have f0 := j3.frozen 0
  have f1 := j3.frozen 1
  have f2 := j3.frozen 2
  clear k1 k2 k3 k4 h1 h1' HT hb1
  cases v
  · have hr : r = (zeroD, 1) := by rw [HA.out]; simp
    subst hr
    clear HA
    go_wp2_with fail
    refine bodyPost_ret (resDE Tryz.results13 rfl (j3.set3 _ _ _)) rfl ?_
    exact ⟨none, 0, 0, rfl, SL.nil _, Fresh.zero, below_set3 hbw (by omega) _ _ _⟩
  · go_wp2_with fail
    refine (valid_any neg' B m d l' x' _ h2' (by omega)).mono ?_
    rintro e w2 ⟨rfl, hb2⟩
    rw [HV'.out]
    have i1 := j1.below hb2 (by omega)
    have i2 := j2.below hb2 (by omega)
    have i3 := j3.below hb2 (by omega)
    have hz2 : w.heap.size + 3 ≤ w2.heap.size := by have := hb2.size; omega
    have h3 := h2.below hb2
    have h3' := h2'.below hb2
    have HT2 := Lib.hid (HT1.out.next hb2)
    have hbw2 := bnext hbw hb2
    clear s0 s1 s2 t0 t1 t2 r0 r1 r2 f0 f1 f2 j1 j2 j3 h2 h2' HT1 hb2 hbw hz1
    obtain ⟨s0, s1, s2⟩ := i1.cells3
    obtain ⟨t0, t1, t2⟩ := i2.cells3
    obtain ⟨r0, r1, r2⟩ := i3.cells3
    have f0 := i3.frozen 0
    have f1 := i3.frozen 1
    have f2 := i3.frozen 2
    cases v'
    · have hr : r = (zeroD, 1) := by rw [HA.out]; simp
      subst hr
      clear HA
      go_wp2_with fail
      refine bodyPost_ret (resDE Tryz.results13 rfl (i3.set3 _ _ _)) rfl ?_
      exact ⟨none, 0, 0, rfl, SL.nil _, Fresh.zero, below_set3 hbw2 (by omega) _ _ _⟩
    · have hr : r = checkD (neg != neg') (val l * val l') (x + x') := by rw [HA.out]; simp
      have HR := Lib.hid hr
      clear HA hr
      obtain ⟨hn256, hx1, hx2⟩ := HVB.out (by simp)
      obtain ⟨hm256, hy1, hy2⟩ := HVB'.out (by simp)
      by_cases hn0 : n = 0
      · have hr : r = (zeroD, 0) := by rw [HR.out, HZ.out hn0, Nat.zero_mul]; rfl
        subst hr
        subst hn0
        clear HR
        go_wp2_with fail
        refine bodyPost_ret (resDE Tryz.results13 rfl (i3.set3 _ _ _)) rfl ?_
        exact ⟨none, 0, 0, rfl, SL.nil _, Fresh.zero, below_set3 hbw2 (by omega) _ _ _⟩
      have hn0' : ((n : Int) == 0) = false := by simp; omega
      by_cases hm0 : m = 0
      · have hr : r = (zeroD, 0) := by rw [HR.out, HZ'.out hm0, Nat.mul_zero]; rfl
        subst hr
        subst hm0
        clear HR
        go_wp2_with fail
        refine bodyPost_ret (resDE Tryz.results13 rfl (i3.set3 _ _ _)) rfl ?_
        exact ⟨none, 0, 0, rfl, SL.nil _, Fresh.zero, below_set3 hbw2 (by omega) _ _ _⟩
      have hm0' : ((m : Int) == 0) = false := by simp; omega
      have HO1 := Lib.hid (HVO.out (by simp) hn0)
      have HO2 := Lib.hid (HVO'.out (by simp) hm0)
      have HBM := Lib.hid (blen_mul (v := val l) (u := val l') (by have := HO1.out; omega) (by have := HO2.out; omega))
      have b1 := HVL.out (by simp) hn0
      have b2 := HVL'.out (by simp) hm0
      generalize hN : blen (val l) = N at *
      generalize hM : blen (val l') = M at *
      have HN := Lib.hid hN
      have HM := Lib.hid hM
      clear hN hM
      have hq1 : IntKind.i64.wrap ((N : Int) + (M : Int)) = (N : Int) + (M : Int) := IntWalk.i64_in _ (by omega)
      have hq2 : IntKind.i64.wrap ((N : Int) + (M : Int) - 1) = (N : Int) + (M : Int) - 1 := IntWalk.i64_in _ (by omega)
      have HQ : Hid (∀ q, Calls Tryz.prog 33 #[.slice A n c] (w2.drewN q) fun e w' => e = .returned (.int .i64 (N : Int)) ∧ w' = w2.drewN q) := fun q => by
        have := size_any A n c l _ (h3.drewN q) (by omega)
        rw [HN.out] at this
        exact this.mono (fun e w' ⟨he, hw⟩ => ⟨he, hw.symm⟩)
      have HQ' : Hid (∀ q, Calls Tryz.prog 33 #[.slice B m d] (w2.drewN q) fun e w' => e = .returned (.int .i64 (M : Int)) ∧ w' = w2.drewN q) := fun q => by
        have := size_any B m d l' _ (h3'.drewN q) (by omega)
        rw [HM.out] at this
        exact this.mono (fun e w' ⟨he, hw⟩ => ⟨he, hw.symm⟩)
      by_cases hbig : 4096 < (N : Int) + (M : Int) - 1
      · have hr : r = (zeroD, 9) := by
          rw [HR.out]
          refine check_big _ _ _ (by rw [Nat.mul_mod, HO1.out, HO2.out]) ?_
          have := HBM.out.1
          omega
        subst hr
        have hdec : decide (4096 < (N : Int) + (M : Int) - 1) = true := decide_eq_true hbig
        clear HR HBM
        go_wp2_with fail
        go_quiet ((go_at_call 33; first | (with_reducible exact Calls.quiet_of_same (HQ.out _)) | (with_reducible exact Calls.quiet_of_same (HQ'.out _))))
        go_wp2_with fail
        refine bodyPost_ret (resDE Tryz.results13 rfl ((i3.drewN _).set3 _ _ _)) rfl ?_
        exact ⟨none, 0, 0, rfl, SL.nil _, Fresh.zero, below_set3 (below_drewN hbw2 _) (by omega) _ _ _⟩
      · have hdec : decide (4096 < (N : Int) + (M : Int) - 1) = false := decide_eq_false hbig
        have hlen : (digs (val l * val l')).length ≤ 256 := Nat.le_trans (digs_len_blen _ 129 (by have := HBM.out.2; omega)) (by omega)
        have HLE := Lib.hid hlen
        clear HBM hlen
        go_wp2_with fail
        go_quiet ((go_at_call 33; first | (with_reducible exact Calls.quiet_of_same (HQ.out _)) | (with_reducible exact Calls.quiet_of_same (HQ'.out _))))
        have h5 := h3.drewN nq
        have h5' := h3'.drewN nq
        have HT5 : Hid (Tabs (w2.drewN nq)) := HT2.out
        have m1 := i1.drewN nq
        have m2 := i2.drewN nq
        have m3 := i3.drewN nq
        have hbw5 := below_drewN hbw2 nq
        clear i1 i2 i3 h3 h3' HT2 hbw2 HQ HQ' hq1 hq2 s0 s1 s2 t0 t1 t2 r0 r1 r2 f0 f1 f2
        have hz5 : w.heap.size + 3 ≤ (w2.drewN nq).heap.size := hz2
        clear hz2
        generalize w2.drewN nq = W5 at *
        obtain ⟨s0, s1, s2⟩ := m1.cells3
        obtain ⟨t0, t1, t2⟩ := m2.cells3
        go_wp2_with fail
        refine (Mul_ok A B n c m d l l' _ h5 h5' hn256 hm256 HLE.out).mono ?_
        rintro e w6 ⟨A6, n6, c6, rfl, hs6, hf6, hb6⟩
        have p1 := m1.below hb6 m1.lt
        have p2 := m2.below hb6 m2.lt
        have p3 := m3.below hb6 m3.lt
        have hbw6 := bnext hbw5 hb6
        have HT6 := Lib.hid (HT5.out.next hb6)
        have hz6 : w.heap.size + 3 ≤ w6.heap.size := p3.lt
        have hn6 : n6 ≤ 256 := by rw [← hs6.len]; exact HLE.out
        clear m1 m2 m3 s0 s1 s2 t0 t1 t2 HT5 hbw5 h5 h5' hb6 hf6
        obtain ⟨s0, s1, s2⟩ := p1.cells3
        obtain ⟨t0, t1, t2⟩ := p2.cells3
        have hw : IntKind.i64.wrap (x + x') = x + x' := IntWalk.i64_in _ (by omega)
        go_wp2_with fail
        refine (canonical_any (neg != neg') A6 n6 c6 (digs (val l * val l')) (x + x') _ hs6 hn6 (by omega) (by omega) HT6.out).mono ?_
        rw [val_digs]
        rintro e w7 ⟨A1, n1, c1, rfl, hs1, hf1, hb7⟩
        have hn1 : n1 ≤ 256 := by
          rw [← hs1.len]
          unfold canonD
          split
          · simp [zeroD]
          · exact len256 (limbs_digs (val l * val l')) HLE.out (by rw [val_digs]; exact Nat.div_le_self _ _)
        have HD : Hid (r = if inR (val (canonD (neg != neg') (val l * val l') (x + x')).l) (canonD (neg != neg') (val l * val l') (x + x')).e = true then (canonD (neg != neg') (val l * val l') (x + x'), 0) else (zeroD, 9)) := HR.out
        generalize hd : canonD (neg != neg') (val l * val l') (x + x') = d7 at *
        clear hd HR
        have hbw7 := bnext hbw6 hb7
        have q3 := p3.below hb7 p3.lt
        have hz7 : w.heap.size + 3 ≤ w7.heap.size := q3.lt
        clear hw s0 s1 s2 t0 t1 t2
        by_cases hr : inR (val d7.l) d7.e = true
        · have hrr : r = (d7, 0) := by rw [HD.out, if_pos hr]
          subst hrr
          go_wp2_with fail
          refine (checked_ok d7.neg A1 n1 c1 d7.l d7.e _ hs1 (by omega) hr).mono ?_
          rintro e w8 ⟨rfl, hb8⟩
          clear hr HD
          have g3 := q3.below hb8 q3.lt
          obtain ⟨v0, v1, v2⟩ := g3.cells3
          have e0 := g3.frozen 0
          have e1 := g3.frozen 1
          have e2 := g3.frozen 2
          have hf1' : Fresh (w.heap.size + 3) A1 n1 := hf1.mono hz6
          go_wp2_with fail
          refine bodyPost_ret (resDE Tryz.results13 rfl (g3.set3 _ _ _)) rfl ?_
          exact ⟨A1, n1, c1, rfl, ((((hs1.below hb8).far hf1' (by omega) 0 _).far hf1' (by omega) 1 _).far hf1' (by omega) 2 _), hf1.mono (by omega), below_set3 (bnext hbw7 hb8) (by omega) _ _ _⟩
        · have hrr : r = (zeroD, 9) := by rw [HD.out, if_neg hr]
          subst hrr
          go_wp2_with fail
          refine (checked_big d7.neg A1 n1 c1 d7.l d7.e _ hs1 (by omega) (by simpa using hr)).mono ?_
          rintro e w8 ⟨rfl, hb8⟩
          clear hr HD
          have g3 := q3.below hb8 q3.lt
          obtain ⟨v0, v1, v2⟩ := g3.cells3
          have e0 := g3.frozen 0
          have e1 := g3.frozen 1
          have e2 := g3.frozen 2
          go_wp2_with fail
          refine bodyPost_ret (resDE Tryz.results13 rfl (g3.set3 _ _ _)) rfl ?_
          exact ⟨none, 0, 0, rfl, SL.nil _, Fresh.zero, below_set3 (bnext hbw7 hb8) (by omega) _ _ _⟩

end Go.Proofs.YtjhokljoomeilaaGreatDoor
