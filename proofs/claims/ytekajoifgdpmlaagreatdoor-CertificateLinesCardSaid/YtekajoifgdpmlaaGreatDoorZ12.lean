/- Bundle 12: what the laws' walks stand on: C8, C9, C10. -/
import Derived.Test.YtekajoifgdpmlaaGreatDoorZ11
/-! C8 -/
namespace Go.Proofs.YtekajoifgdpmlaaGreatDoor
open Go.RowKit Pl Go.Shelf

theorem rint_zero_eq : canonD false (val [0, 0]) 0 = ⟨false, [], 0⟩ := by kernel_rfl
set_option maxHeartbeats 1000000 in
theorem rint_zero (w : World) : Calls Tryz.prog 48 #[.int .i64 0] w (RetD ⟨false, [], 0⟩ w) := by
  have hs0 := SL.two (w.alloc (.cells #[.bool false, .slice none 0 0, .int .i64 0] 25)) 60 0 0 (by omega) (by omega)
  rw [World.size_alloc] at hs0
  simp only [Int.natCast_zero] at hs0
  have hb0 := bnext (ballo w (.cells #[.bool false, .slice none 0 0, .int .i64 0] 25)) (ballo (w.alloc (.cells #[.bool false, .slice none 0 0, .int .i64 0] 25)) (.cells #[.int .u32 0, .int .u32 0] 60))
  have k1 := (Blk.new w 25 #[.bool false, .slice none 0 0, .int .i64 0]).next (ballo (w.alloc (.cells #[.bool false, .slice none 0 0, .int .i64 0] 25)) (.cells #[.int .u32 0, .int .u32 0] 60))
  have hz0 : w.heap.size + 2 ≤ ((w.alloc (.cells #[.bool false, .slice none 0 0, .int .i64 0] 25)).alloc (.cells #[.int .u32 0, .int .u32 0] 60)).heap.size := by simp
  go_enter Tryz.func48, Tryz.ntmps48
  go_wp2_with fail
  rw [show bits BinOp.and IntKind.u64 0 4294967295 % 4294967296 = 0 from by kernel_rfl]
  generalize ((w.alloc (.cells #[.bool false, .slice none 0 0, .int .i64 0] 25)).alloc (.cells #[.int .u32 0, .int .u32 0] 60)) = W0 at *
  refine (rof_any false _ 2 2 _ 0 _ hs0 (by omega) (by omega) (by omega)).mono ?_
  rw [rint_zero_eq]
  rintro e w1 ⟨A1, n1, c1, rfl, hs1, hf1, hb1⟩
  dsimp only at hs1
  have j1 := k1.next hb1
  obtain ⟨s0, s1, s2⟩ := j1.cells3
  have f0 := j1.frozen 0
  have f1 := j1.frozen 1
  have f2 := j1.frozen 2
  have hz1 : w.heap.size + 2 ≤ w1.heap.size := by have := hb1.size; omega
  go_wp2_with fail
  refine bodyPost_ret (resD Tryz.results48 rfl (j1.set3 _ _ _)) rfl ?_
  exact ⟨A1, n1, c1, rfl, (((hs1.far hf1 (by omega) 0 _).far hf1 (by omega) 1 _).far hf1 (by omega) 2 _), hf1.mono (by omega), below_set3 (bnext hb0 hb1) (by omega) _ _ _⟩

theorem rint_one_eq : canonD false (val [1, 0]) 0 = ⟨false, [1], 0⟩ := by kernel_rfl
set_option maxHeartbeats 1000000 in
theorem rint_one (w : World) : Calls Tryz.prog 48 #[.int .i64 1] w (RetD ⟨false, [1], 0⟩ w) := by
  have hs0 := SL.two (w.alloc (.cells #[.bool false, .slice none 0 0, .int .i64 0] 25)) 60 1 0 (by omega) (by omega)
  rw [World.size_alloc] at hs0
  simp only [Int.natCast_zero, show ((1 : Nat) : Int) = 1 from rfl] at hs0
  have hb0 := bnext (ballo w (.cells #[.bool false, .slice none 0 0, .int .i64 0] 25)) (ballo (w.alloc (.cells #[.bool false, .slice none 0 0, .int .i64 0] 25)) (.cells #[.int .u32 1, .int .u32 0] 60))
  have k1 := (Blk.new w 25 #[.bool false, .slice none 0 0, .int .i64 0]).next (ballo (w.alloc (.cells #[.bool false, .slice none 0 0, .int .i64 0] 25)) (.cells #[.int .u32 1, .int .u32 0] 60))
  have hz0 : w.heap.size + 2 ≤ ((w.alloc (.cells #[.bool false, .slice none 0 0, .int .i64 0] 25)).alloc (.cells #[.int .u32 1, .int .u32 0] 60)).heap.size := by simp
  go_enter Tryz.func48, Tryz.ntmps48
  go_wp2_with fail
  rw [show bits BinOp.and IntKind.u64 1 4294967295 % 4294967296 = 1 from by kernel_rfl]
  generalize ((w.alloc (.cells #[.bool false, .slice none 0 0, .int .i64 0] 25)).alloc (.cells #[.int .u32 1, .int .u32 0] 60)) = W0 at *
  refine (rof_any false _ 2 2 _ 0 _ hs0 (by omega) (by omega) (by omega)).mono ?_
  rw [rint_one_eq]
  rintro e w1 ⟨A1, n1, c1, rfl, hs1, hf1, hb1⟩
  dsimp only at hs1
  have j1 := k1.next hb1
  obtain ⟨s0, s1, s2⟩ := j1.cells3
  have f0 := j1.frozen 0
  have f1 := j1.frozen 1
  have f2 := j1.frozen 2
  have hz1 : w.heap.size + 2 ≤ w1.heap.size := by have := hb1.size; omega
  go_wp2_with fail
  refine bodyPost_ret (resD Tryz.results48 rfl (j1.set3 _ _ _)) rfl ?_
  exact ⟨A1, n1, c1, rfl, (((hs1.far hf1 (by omega) 0 _).far hf1 (by omega) 1 _).far hf1 (by omega) 2 _), hf1.mono (by omega), below_set3 (bnext hb0 hb1) (by omega) _ _ _⟩

theorem rvalid_R (vs : List Value) (d : Dy) (w : World) (h : RD w vs d) (hd : Bd d) : Calls Tryz.prog 68 #[.agg vs.toArray] w (Says (vld d) w) := by
  obtain ⟨A, n, c, rfl, hs⟩ := h
  have := hs.len
  unfold Bd at hd
  exact rvalid_any d.neg A n c d.l d.e w hs (by omega)
theorem rcmp_R (vs us : List Value) (d d' : Dy) (w : World) (h : RD w vs d) (h' : RD w us d') (hv : vld d = true) (hv' : vld d' = true) :
    Calls Tryz.prog 184 #[.agg vs.toArray, .agg us.toArray] w fun e w' => e = .returned (.int .i64 (cmpD d d')) ∧ Below w.heap.size w w' := by
  obtain ⟨A, n, c, rfl, hs⟩ := h
  obtain ⟨B, m, c', rfl, hs'⟩ := h'
  exact rcmp_any d.neg A n c d.l d.e d'.neg B m c' d'.l d'.e w hs hs' hv hv'
theorem rsign_R (vs : List Value) (d : Dy) (w : World) (h : RD w vs d) (hv : vld d = true) : Calls Tryz.prog 69 #[.agg vs.toArray] w fun e w' => e = .returned (.int .i64 (sgnD d)) ∧ Below w.heap.size w w' := by
  obtain ⟨A, n, c, rfl, hs⟩ := h
  exact rsign_any d.neg A n c d.l d.e w hs hv
theorem requal_R (vs us : List Value) (d d' : Dy) (w : World) (h : RD w vs d) (h' : RD w us d') :
    Calls Tryz.prog 29 #[.agg vs.toArray, .agg us.toArray] w (Says (eqD d d') w) := by
  obtain ⟨A, n, c, rfl, hs⟩ := h
  obtain ⟨B, m, c', rfl, hs'⟩ := h'
  exact requal_any d.neg d'.neg A B n c m c' d.l d'.l d.e d'.e w hs hs'

set_option maxHeartbeats 1000000 in
theorem rizero_any (vs : List Value) (d : Dy) (w : World) (h : RD w vs d) : Calls Tryz.prog 183 #[.agg vs.toArray] w (Says (zro d) w) := by
  obtain ⟨A, n, c, rfl, hs⟩ := h
  obtain ⟨neg, l, x⟩ := d
  dsimp only at hs ⊢
  have hl : decide (l = []) = decide (n = 0) := decide_eq_decide.2 ⟨fun e => by rw [← hs.len, e]; rfl, fun e => hs.empty e⟩
  have HZ : Hid (zro ⟨neg, l, x⟩ = (!neg && decide (n = 0) && decide (x = 0))) := by unfold Hid zro; rw [← hl]
  have hm := hs.cap
  have hm2 := hs.max
  clear hl hs
  cases neg
  · by_cases h0 : n = 0
    · subst h0
      by_cases hx : x = 0
      · subst hx
        go_enter Tryz.func183, Tryz.ntmps183
        go_wp2_with fail
        go_ret
        exact ⟨by rw [HZ.out]; simp, ballo _ _⟩
      · have hx2 : (x == 0) = false := by simpa using hx
        go_enter Tryz.func183, Tryz.ntmps183
        go_wp2_with fail
        go_ret
        exact ⟨by rw [HZ.out]; simp [hx], ballo _ _⟩
    · have hn2 : ((n : Int) == 0) = false := by simpa using h0
      go_enter Tryz.func183, Tryz.ntmps183
      go_wp2_with fail
      go_ret
      exact ⟨by rw [HZ.out]; simp [h0], ballo _ _⟩
  · go_enter Tryz.func183, Tryz.ntmps183
    go_wp2_with fail
    go_ret
    exact ⟨by rw [HZ.out]; simp, ballo _ _⟩

set_option maxRecDepth 100000 in
set_option maxHeartbeats 2000000 in
theorem rivalid_any (vs : List Value) (x : Iv) (w : World) (h : RI w vs x) (hx : BdI x) : Calls Tryz.prog 135 #[.agg vs.toArray] w (Says (ivV x) w) := by
  obtain ⟨A, n, c, B, m, d, rfl, h1, h2⟩ := h
  obtain ⟨⟨ln, ll, le⟩, ⟨un, ul, ue⟩, al⟩ := x
  dsimp only at h1 h2 ⊢
  have r1 : RD w [.bool ln, .slice A n c, .int .i64 le] ⟨ln, ll, le⟩ := ⟨A, n, c, rfl, h1⟩
  have r2 : RD w [.bool un, .slice B m d, .int .i64 ue] ⟨un, ul, ue⟩ := ⟨B, m, d, rfl, h2⟩
  have hb0 := ballo w (.cells #[.bool ln, .slice A n c, .int .i64 le, .bool un, .slice B m d, .int .i64 ue, .bool al] 87)
  have k0 := Blk.new w 87 #[.bool ln, .slice A n c, .int .i64 le, .bool un, .slice B m d, .int .i64 ue, .bool al]
  have H1 := Lib.hid (fun W hb => lasts_RD w W _ _ r1 hb)
  have H2 := Lib.hid (fun W hb => lasts_RD w W _ _ r2 hb)
  have HX := Lib.hid hx
  clear h1 h2 hx r1 r2
  cases al
  · have HV : Hid (ivV ⟨⟨ln, ll, le⟩, ⟨un, ul, ue⟩, false⟩ = (vld ⟨ln, ll, le⟩ && vld ⟨un, ul, ue⟩ && decide (cmpD ⟨ln, ll, le⟩ ⟨un, ul, ue⟩ ≤ 0))) := rfl
    go_enter Tryz.func135, Tryz.ntmps135
    go_wp2_with fail
    generalize w.alloc (.cells #[.bool ln, .slice A n c, .int .i64 le, .bool un, .slice B m d, .int .i64 ue, .bool false] 87) = W0 at *
    refine (rvalid_R _ _ _ (H1.out _ hb0) HX.out.1).mono ?_
    rintro e w1 ⟨rfl, hb1⟩
    replace hb0 := bnext hb0 hb1
    replace k0 := k0.next hb1
    clear hb1
    cases hv1 : vld ⟨ln, ll, le⟩
    · rw [hv1] at HV
      clear hv1
      go_wp2_with fail
      go_ret
      exact ⟨by rw [HV.out]; rfl, hb0⟩
    have HL := Lib.hid hv1
    rw [hv1] at HV
    clear hv1
    obtain ⟨q0, q1, q2, q3, q4, q5, q6⟩ := k0.cells7
    go_wp2_with fail
    refine (rvalid_R _ _ _ (H2.out _ hb0) HX.out.2).mono ?_
    rintro e w2 ⟨rfl, hb2⟩
    clear q0 q1 q2 q3 q4 q5 q6
    replace hb0 := bnext hb0 hb2
    replace k0 := k0.next hb2
    clear hb2
    cases hv1 : vld ⟨un, ul, ue⟩
    · rw [hv1] at HV
      clear hv1
      go_wp2_with fail
      go_ret
      exact ⟨by rw [HV.out]; rfl, hb0⟩
    have HU := Lib.hid hv1
    rw [hv1] at HV
    clear hv1
    obtain ⟨q0, q1, q2, q3, q4, q5, q6⟩ := k0.cells7
    go_wp2_with fail
    refine (rcmp_R _ _ _ _ _ (H1.out _ hb0) (H2.out _ hb0) HL.out HU.out).mono ?_
    rintro e w3 ⟨rfl, hb3⟩
    clear q0 q1 q2 q3 q4 q5 q6
    replace hb0 := bnext hb0 hb3
    clear hb3 k0
    generalize cmpD ⟨ln, ll, le⟩ ⟨un, ul, ue⟩ = r at *
    go_wp2_with fail
    go_ret
    exact ⟨by rw [HV.out]; rfl, hb0⟩
  · have HV : Hid (ivV ⟨⟨ln, ll, le⟩, ⟨un, ul, ue⟩, true⟩ = (zro ⟨ln, ll, le⟩ && zro ⟨un, ul, ue⟩)) := rfl
    go_enter Tryz.func135, Tryz.ntmps135
    go_wp2_with fail
    generalize w.alloc (.cells #[.bool ln, .slice A n c, .int .i64 le, .bool un, .slice B m d, .int .i64 ue, .bool true] 87) = W0 at *
    refine (rizero_any _ _ _ (H1.out _ hb0)).mono ?_
    rintro e w1 ⟨rfl, hb1⟩
    replace hb0 := bnext hb0 hb1
    replace k0 := k0.next hb1
    clear hb1
    cases hv1 : zro ⟨ln, ll, le⟩
    · rw [hv1] at HV
      clear hv1
      go_wp2_with fail
      go_ret
      exact ⟨by rw [HV.out]; rfl, hb0⟩
    rw [hv1] at HV
    clear hv1
    obtain ⟨q0, q1, q2, q3, q4, q5, q6⟩ := k0.cells7
    go_wp2_with fail
    refine (rizero_any _ _ _ (H2.out _ hb0)).mono ?_
    rintro e w2 ⟨rfl, hb2⟩
    clear q0 q1 q2 q3 q4 q5 q6
    replace hb0 := bnext hb0 hb2
    clear hb2 k0
    generalize zro ⟨un, ul, ue⟩ = r at *
    go_wp2_with fail
    go_ret
    exact ⟨by rw [HV.out]; rfl, hb0⟩

theorem ivV_lo {x : Iv} (h : ivV x = true) (ha : x.all = false) : vld x.lo = true ∧ vld x.hi = true := by
  unfold ivV at h
  rw [ha] at h
  simp only [Bool.false_eq_true, if_false, Bool.and_eq_true] at h
  exact h.1

set_option maxRecDepth 100000 in
set_option maxHeartbeats 2000000 in
theorem rihas_any (vs us : List Value) (x : Iv) (d : Dy) (w : World) (h : RI w vs x) (h' : RD w us d) (hx : BdI x) (hd : Bd d) : Calls Tryz.prog 182 #[.agg vs.toArray, .agg us.toArray] w (Says (ivHas x d) w) := by
  obtain ⟨A, n, c, B, m, b, rfl, h1, h2⟩ := h
  obtain ⟨⟨ln, ll, le⟩, ⟨un, ul, ue⟩, al⟩ := x
  dsimp only at h1 h2 ⊢
  have rI : RI w [.bool ln, .slice A n c, .int .i64 le, .bool un, .slice B m b, .int .i64 ue, .bool al] ⟨⟨ln, ll, le⟩, ⟨un, ul, ue⟩, al⟩ := ⟨A, n, c, B, m, b, rfl, h1, h2⟩
  have r1 : RD w [.bool ln, .slice A n c, .int .i64 le] ⟨ln, ll, le⟩ := ⟨A, n, c, rfl, h1⟩
  have r2 : RD w [.bool un, .slice B m b, .int .i64 ue] ⟨un, ul, ue⟩ := ⟨B, m, b, rfl, h2⟩
  have HI := Lib.hid (fun W hb => lasts_RI w W _ _ rI hb)
  have H1 := Lib.hid (fun W hb => lasts_RD w W _ _ r1 hb)
  have H2 := Lib.hid (fun W hb => lasts_RD w W _ _ r2 hb)
  have HX := Lib.hid hx
  clear h1 h2 hx r1 r2 rI
  obtain ⟨C, p, q, rfl, h3⟩ := h'
  obtain ⟨dn, dl, de⟩ := d
  dsimp only at h3 ⊢
  have r3 : RD w [.bool dn, .slice C p q, .int .i64 de] ⟨dn, dl, de⟩ := ⟨C, p, q, rfl, h3⟩
  have H3 := Lib.hid (fun W hb => lasts_RD w W _ _ r3 hb)
  have HD := Lib.hid hd
  clear h3 r3 hd
  have HV : Hid (ivHas ⟨⟨ln, ll, le⟩, ⟨un, ul, ue⟩, al⟩ ⟨dn, dl, de⟩ = (ivV ⟨⟨ln, ll, le⟩, ⟨un, ul, ue⟩, al⟩ && vld ⟨dn, dl, de⟩ && (al || (decide (cmpD ⟨ln, ll, le⟩ ⟨dn, dl, de⟩ ≤ 0) && decide (cmpD ⟨dn, dl, de⟩ ⟨un, ul, ue⟩ ≤ 0))))) := rfl
  have hb0 := bnext (ballo w (.cells #[.bool ln, .slice A n c, .int .i64 le, .bool un, .slice B m b, .int .i64 ue, .bool al] 87)) (ballo (w.alloc (.cells #[.bool ln, .slice A n c, .int .i64 le, .bool un, .slice B m b, .int .i64 ue, .bool al] 87)) (.cells #[.bool dn, .slice C p q, .int .i64 de] 25))
  have k0 := (Blk.new w 87 #[.bool ln, .slice A n c, .int .i64 le, .bool un, .slice B m b, .int .i64 ue, .bool al]).next (ballo (w.alloc (.cells #[.bool ln, .slice A n c, .int .i64 le, .bool un, .slice B m b, .int .i64 ue, .bool al] 87)) (.cells #[.bool dn, .slice C p q, .int .i64 de] 25))
  have k1 : Blk ((w.alloc (.cells #[.bool ln, .slice A n c, .int .i64 le, .bool un, .slice B m b, .int .i64 ue, .bool al] 87)).alloc (.cells #[.bool dn, .slice C p q, .int .i64 de] 25)) (w.heap.size + 1) 25 #[.bool dn, .slice C p q, .int .i64 de] := Blk.newAt _ _ _ (by simp)
  go_enter Tryz.func182, Tryz.ntmps182
  go_wp2_with fail
  generalize (w.alloc (.cells #[.bool ln, .slice A n c, .int .i64 le, .bool un, .slice B m b, .int .i64 ue, .bool al] 87)).alloc (.cells #[.bool dn, .slice C p q, .int .i64 de] 25) = W0 at *
  refine (rivalid_any _ _ _ (HI.out _ hb0) HX.out).mono ?_
  rintro e w1 ⟨rfl, hb1x⟩
  replace hb0 := bnext hb0 hb1x
  replace k0 := k0.next hb1x
  replace k1 := k1.next hb1x
  clear hb1x
  cases hv1 : ivV ⟨⟨ln, ll, le⟩, ⟨un, ul, ue⟩, al⟩
  · rw [hv1] at HV
    clear hv1
    go_wp2_with fail
    go_ret
    exact ⟨by rw [HV.out]; rfl, hb0⟩
  have HL := Lib.hid (fun ha => ivV_lo hv1 ha)
  dsimp only at HL
  rw [hv1] at HV
  clear hv1
  obtain ⟨k0q0, k0q1, k0q2, k0q3, k0q4, k0q5, k0q6⟩ := k0.cells7
  obtain ⟨k1q0, k1q1, k1q2⟩ := k1.cells3
  go_wp2_with fail
  refine (rvalid_R _ _ _ (H3.out _ hb0) HD.out).mono ?_
  rintro e w2 ⟨rfl, hb2x⟩
  clear k0q0 k0q1 k0q2 k0q3 k0q4 k0q5 k0q6 k1q0 k1q1 k1q2
  replace hb0 := bnext hb0 hb2x
  replace k0 := k0.next hb2x
  replace k1 := k1.next hb2x
  clear hb2x
  cases hv1 : vld ⟨dn, dl, de⟩
  · rw [hv1] at HV
    clear hv1
    go_wp2_with fail
    go_ret
    exact ⟨by rw [HV.out]; rfl, hb0⟩
  have HU := Lib.hid hv1
  rw [hv1] at HV
  clear hv1
  cases al
  · obtain ⟨k0q0, k0q1, k0q2, k0q3, k0q4, k0q5, k0q6⟩ := k0.cells7
    obtain ⟨k1q0, k1q1, k1q2⟩ := k1.cells3
    go_wp2_with fail
    refine (rcmp_R _ _ _ _ _ (H1.out _ hb0) (H3.out _ hb0) (HL.out (by first | rfl | trivial)).1 HU.out).mono ?_
    rintro e w3 ⟨rfl, hb3x⟩
    clear k0q0 k0q1 k0q2 k0q3 k0q4 k0q5 k0q6 k1q0 k1q1 k1q2
    replace hb0 := bnext hb0 hb3x
    replace k0 := k0.next hb3x
    replace k1 := k1.next hb3x
    clear hb3x
    generalize cmpD ⟨ln, ll, le⟩ ⟨dn, dl, de⟩ = r1 at *
    cases hv1 : decide (r1 ≤ 0)
    · rw [hv1] at HV
      go_wp2_with fail
      go_ret
      exact ⟨by rw [HV.out]; rfl, hb0⟩
    rw [hv1] at HV
    obtain ⟨k0q0, k0q1, k0q2, k0q3, k0q4, k0q5, k0q6⟩ := k0.cells7
    obtain ⟨k1q0, k1q1, k1q2⟩ := k1.cells3
    go_wp2_with fail
    refine (rcmp_R _ _ _ _ _ (H3.out _ hb0) (H2.out _ hb0) HU.out (HL.out (by first | rfl | trivial)).2).mono ?_
    rintro e w4 ⟨rfl, hb4x⟩
    clear k0q0 k0q1 k0q2 k0q3 k0q4 k0q5 k0q6 k1q0 k1q1 k1q2
    replace hb0 := bnext hb0 hb4x
    replace k0 := k0.next hb4x
    replace k1 := k1.next hb4x
    clear hb4x
    generalize cmpD ⟨dn, dl, de⟩ ⟨un, ul, ue⟩ = r2 at *
    go_wp2_with fail
    go_ret
    exact ⟨by rw [HV.out]; rfl, hb0⟩
  · obtain ⟨k0q0, k0q1, k0q2, k0q3, k0q4, k0q5, k0q6⟩ := k0.cells7
    obtain ⟨k1q0, k1q1, k1q2⟩ := k1.cells3
    go_wp2_with fail
    go_ret
    exact ⟨by rw [HV.out]; rfl, hb0⟩

set_option maxRecDepth 100000 in
set_option maxHeartbeats 2000000 in
theorem rboxValid_any (A : Option Addr) (n c : Nat) (xs : List Iv) (w : World) (h : Sl 7 RI w A n c xs) (hx : ∀ x ∈ xs, BdI x) : Calls Tryz.prog 70 #[.slice A n c] w (Says (boxV xs) w) := by
  have HV : Hid (boxV xs = (decide (1 ≤ n) && decide (n ≤ 8) && !xs.any (fun x => x.all || !ivV x))) := by unfold Hid boxV; rw [h.len]
  have hm := h.cap
  have hm2 := h.max
  have HL := Lib.hid h.len
  have HS := Lib.hid h
  have HX := Lib.hid hx
  clear h hx
  by_cases h1 : 1 ≤ n
  · by_cases h8 : n ≤ 8
    · rw [decide_eq_true h1, decide_eq_true h8] at HV
      go_enter Tryz.func70, Tryz.ntmps70
      go_wp2_with fail
      go_loopw [3] (fun i wr => ∃ j : Nat, j ≤ n ∧ i = .int .i64 j ∧ Hid (∀ (m : Nat) (x : Iv), m < j → xs[m]? = some x → (x.all || !ivV x) = false) ∧ Below w.heap.size w wr) (fun i _ => n - (intOf i).toNat)
      case atStart => exact ⟨0, Nat.zero_le _, rfl, fun m x hm => absurd hm (by omega), Below.refl _ _⟩
      case round =>
        obtain ⟨j, hj, rfl, HZ, hb⟩ := hrel
        by_cases hlt : j < n
        · obtain ⟨b, off, x, vs, rfl, hbl, hxj, hk, hR, hc⟩ := HS.out.get hlt
          have HR := Lib.hid (lasts_RI _ _ _ _ hR hb)
          have HB := Lib.hid (HX.out x (List.mem_of_getElem? hxj))
          have HJ := Lib.hid hxj
          obtain ⟨A1, n1, c1, A2, n2, c2, rfl, hs1, hs2⟩ := hR
          have q0 := (hb.cell (p := ⟨b, off + j * 7, none⟩) hbl).trans (hc 0 _ rfl)
          have q1 := (hb.cell (p := ⟨b, off + j * 7 + 1, none⟩) hbl).trans (hc 1 _ rfl)
          have q2 := (hb.cell (p := ⟨b, off + j * 7 + 2, none⟩) hbl).trans (hc 2 _ rfl)
          have q3 := (hb.cell (p := ⟨b, off + j * 7 + 3, none⟩) hbl).trans (hc 3 _ rfl)
          have q4 := (hb.cell (p := ⟨b, off + j * 7 + 4, none⟩) hbl).trans (hc 4 _ rfl)
          have q5 := (hb.cell (p := ⟨b, off + j * 7 + 5, none⟩) hbl).trans (hc 5 _ rfl)
          have q6 := (hb.cell (p := ⟨b, off + j * 7 + 6, none⟩) hbl).trans (hc 6 _ rfl)
          clear hxj hc hk hs1 hs2
          cases hal : x.all
          · rw [hal] at q6
            have HAL := Lib.hid hal
            have HR2 : Hid (RI wr [.bool x.lo.neg, .slice A1 n1 c1, .int .i64 x.lo.e, .bool x.hi.neg, .slice A2 n2 c2, .int .i64 x.hi.e, .bool false] x) := by have := HR.out; rwa [hal] at this
            clear hal
            go_wp2_with fail
            refine (rivalid_any _ _ _ HR2.out HB.out).mono ?_
            rintro e w1 ⟨rfl, hb1⟩
            clear q0 q1 q2 q3 q4 q5 q6
            cases hq : ivV x
            · have HQ := Lib.hid hq
              clear hq
              go_wp2_with fail
              go_ret
              exact ⟨by rw [HV.out, any_yes _ xs j x HJ.out (by rw [HAL.out, HQ.out]; rfl)]; rfl, bthen hb hb1 (Nat.le_refl _)⟩
            · have HQ := Lib.hid hq
              clear hq
              go_wp2_with fail
              go_roundw
              case rel => exact ⟨j + 1, by omega, by go_num, fun m y hm hy => by
                by_cases hmj : m < j
                · exact HZ.out m y hmj hy
                · obtain rfl : m = j := by omega
                  rw [HJ.out] at hy
                  injection hy with hy
                  rw [← hy, HAL.out, HQ.out]; rfl, bthen hb hb1 (Nat.le_refl _)⟩
              case measure => simp [intOf]; omega
          · rw [hal] at q6
            have HAL := Lib.hid hal
            clear hal
            go_wp2_with fail
            go_ret
            exact ⟨by rw [HV.out, any_yes _ xs j x HJ.out (by rw [HAL.out]; rfl)]; rfl, hb⟩
        · go_wp2_with fail
          go_ret
          refine ⟨?_, hb⟩
          rw [HV.out, any_no _ xs (fun m x hx => HZ.out m x (by
            have := (List.getElem?_eq_some_iff.1 hx).1
            have := HL.out
            omega) hx)]
          rfl
    · go_enter Tryz.func70, Tryz.ntmps70
      go_wp2_with fail
      go_ret
      exact ⟨by rw [HV.out, decide_eq_true h1, decide_eq_false (show ¬ n ≤ 8 by omega)]; rfl, Below.refl _ _⟩
  · go_enter Tryz.func70, Tryz.ntmps70
    go_wp2_with fail
    go_ret
    exact ⟨by rw [HV.out, decide_eq_false (show ¬ 1 ≤ n by omega)]; rfl, Below.refl _ _⟩

end Go.Proofs.YtekajoifgdpmlaaGreatDoor

/-! C9 -/
namespace Go.Proofs.YtekajoifgdpmlaaGreatDoor
open Go.RowKit Pl Go.Shelf

def rowBad (N : Nat) (l : List Dy) : Bool := decide (l.length ≠ N) || l.any (fun d => !vld d)
def numV (m : List (List Dy)) : Bool := decide (1 ≤ m.length) && decide (m.length ≤ 8) && decide (1 ≤ (m.headD []).length) && decide ((m.headD []).length ≤ 8) && !m.any (rowBad (m.headD []).length)

set_option maxRecDepth 100000 in
set_option maxHeartbeats 4000000 in
theorem rnumbers_any (A : Option Addr) (n c : Nat) (m : List (List Dy)) (w : World) (h : Sl 1 RM w A n c m) (hx : ∀ l ∈ m, ∀ d ∈ l, Bd d) : Calls Tryz.prog 71 #[.slice A n c] w (Says (numV m) w) := by
  have hm := h.cap
  have hm2 := h.max
  obtain ⟨N0, hN0⟩ : ∃ N0, (m.headD []).length = N0 := ⟨_, rfl⟩
  have HV : Hid (numV m = (decide (1 ≤ n) && decide (n ≤ 8) && decide (1 ≤ N0) && decide (N0 ≤ 8) && !m.any (rowBad N0))) := by unfold Hid numV; rw [h.len, hN0]
  have HL := Lib.hid h.len
  have HX := Lib.hid hx
  by_cases h1 : 1 ≤ n
  rotate_left
  · clear h hN0
    go_enter Tryz.func71, Tryz.ntmps71
    go_wp2_with fail
    go_ret
    exact ⟨by rw [HV.out, decide_eq_false (show ¬ 1 ≤ n by omega)]; rfl, Below.refl _ _⟩
  by_cases h8 : n ≤ 8
  rotate_left
  · clear h hN0
    go_enter Tryz.func71, Tryz.ntmps71
    go_wp2_with fail
    go_ret
    exact ⟨by rw [HV.out, decide_eq_true h1, decide_eq_false (show ¬ n ≤ 8 by omega)]; rfl, Below.refl _ _⟩
  obtain ⟨b, off, l0, vs, rfl, hbl, hx0, hk0, hR0, hc0⟩ := h.get (j := 0) (by omega)
  obtain ⟨A0, n0, c0, rfl, hs0⟩ := hR0
  have e0 : n0 = N0 := by
    rw [← hN0, ← hs0.len]
    cases m with
    | nil => simp at hx0
    | cons a t => simp at hx0; rw [hx0]; rfl
  subst e0
  have q0 := hc0 0 _ rfl
  rw [Nat.zero_mul, Nat.add_zero] at q0
  have hm3 := hs0.cap
  have hm4 := hs0.max
  have HS := Lib.hid h
  clear h hx hN0 hx0 hk0 hc0 hs0
  by_cases g1 : 1 ≤ n0
  rotate_left
  · go_enter Tryz.func71, Tryz.ntmps71
    go_wp2_with fail
    go_ret
    exact ⟨by rw [HV.out, decide_eq_true h1, decide_eq_true h8, decide_eq_false (show ¬ 1 ≤ n0 by omega)]; rfl, Below.refl _ _⟩
  by_cases g8 : n0 ≤ 8
  rotate_left
  · go_enter Tryz.func71, Tryz.ntmps71
    go_wp2_with fail
    go_ret
    exact ⟨by rw [HV.out, decide_eq_true h1, decide_eq_true h8, decide_eq_true g1, decide_eq_false (show ¬ n0 ≤ 8 by omega)]; rfl, Below.refl _ _⟩
  rw [decide_eq_true h1, decide_eq_true h8, decide_eq_true g1, decide_eq_true g8] at HV
  go_enter Tryz.func71, Tryz.ntmps71
  go_wp2_with fail
  have Q0 := Lib.hid q0
  clear q0
  go_loopw [3] (fun v wr => ∃ i : Nat, i ≤ n ∧ v = .int .i64 i ∧ Hid (∀ (j : Nat) (l : List Dy), j < i → m[j]? = some l → rowBad n0 l = false) ∧ Below w.heap.size w wr) (fun v _ => n - (intOf v).toNat)
  case atStart => exact ⟨0, Nat.zero_le _, rfl, fun j l hj => absurd hj (by omega), Below.refl _ _⟩
  case round =>
    obtain ⟨i, hi, rfl, HZ, hb⟩ := hrel
    by_cases hlt : i < n
    · obtain ⟨l, vs, hbl1, hml, hk, hR, hc⟩ := HS.out.get' hlt
      obtain ⟨A1, n1, c1, rfl, hs⟩ := hR
      have qt := hc 0 _ rfl
      rw [Nat.mul_one, Nat.add_zero] at qt
      have QI := Lib.hid qt
      have q0 := (hb.cell (p := ⟨b, off, none⟩) hbl).trans Q0.out
      have q1 := (hb.cell (p := ⟨b, off + i, none⟩) hbl).trans qt
      have HM := Lib.hid hml
      have HS1 := Lib.hid hs
      have HXl := Lib.hid (HX.out l (List.mem_of_getElem? hml))
      have HL1 := Lib.hid hs.len
      have m3 := hs.cap
      have m4 := hs.max
      clear hc qt hk hml hs
      by_cases hn : n1 = n0
      rotate_left
      · have hne : ((n1 : Int) != (n0 : Int)) = true := by rw [bne_iff_ne]; omega
        have HB : Hid (rowBad n0 l = true) := by unfold Hid rowBad; rw [HL1.out, decide_eq_true (show n1 ≠ n0 from hn)]; rfl
        go_wp2_with fail
        go_quiet (fail)
        go_wp2_with fail
        go_ret
        exact ⟨by rw [HV.out, any_yes _ m i l HM.out HB.out]; rfl, below_drewN hb _⟩
      have hne : ((n1 : Int) != (n0 : Int)) = false := by rw [hn]; simp
      have HN := Lib.hid hn
      clear hn
      go_wp2_with fail
      go_quiet (fail)
      go_wp2_with fail
      replace hb := below_drewN hb nq
      generalize wr.drewN nq = W1 at *
      clear q0 q1
      go_loopw [4] (fun v wi => ∃ k : Nat, k ≤ n1 ∧ v = .int .i64 k ∧ Hid (∀ (j : Nat) (d : Dy), j < k → l[j]? = some d → (!vld d) = false) ∧ Below w.heap.size w wi) (fun v _ => n1 - (intOf v).toNat)
      case atStart => exact ⟨0, Nat.zero_le _, rfl, fun j l hj => absurd hj (by omega), hb⟩
      case round =>
        clear hb
        obtain ⟨k, hk, rfl, HZ1, hb⟩ := hrel
        have q1 := (hb.cell (p := ⟨b, off + i, none⟩) hbl).trans QI.out
        by_cases hlt1 : k < n1
        · obtain ⟨b1, off1, d, us, rfl, hbl2, hd, hk1, hR1, hc1⟩ := HS1.out.get hlt1
          have HBd := Lib.hid (HXl.out d (List.mem_of_getElem? hd))
          have HR1 := Lib.hid (lasts_RD _ _ _ _ hR1 hb)
          obtain ⟨DA, dm, dc, rfl, hsd⟩ := hR1
          have p0 := (hb.cell (p := ⟨b1, off1 + k * 3, none⟩) hbl2).trans (hc1 0 _ rfl)
          have p1 := (hb.cell (p := ⟨b1, off1 + k * 3 + 1, none⟩) hbl2).trans (hc1 1 _ rfl)
          have p2 := (hb.cell (p := ⟨b1, off1 + k * 3 + 2, none⟩) hbl2).trans (hc1 2 _ rfl)
          have HD := Lib.hid hd
          clear hd hc1 hk1 hsd
          go_wp2_with fail
          refine (rvalid_R _ _ _ HR1.out HBd.out).mono ?_
          rintro e w1 ⟨rfl, hb1⟩
          replace hb := bthen hb hb1 (Nat.le_refl _)
          clear p0 p1 p2 q1 hb1
          cases hv : vld d
          · have HVD := Lib.hid hv
            clear hv
            have HB : Hid (rowBad n0 l = true) := by unfold Hid rowBad; rw [any_yes (fun d => !vld d) l k d HD.out (by rw [HVD.out]; rfl), Bool.or_true]
            go_wp2_with fail
            go_ret
            exact ⟨by rw [HV.out, any_yes _ m i l HM.out HB.out]; rfl, hb⟩
          · have HVD := Lib.hid hv
            clear hv
            go_wp2_with fail
            go_roundw
            case rel => exact ⟨k + 1, by omega, by go_num, fun j d' hj hd' => by
              by_cases hjk : j < k
              · exact HZ1.out j d' hjk hd'
              · obtain rfl : j = k := by omega
                rw [HD.out] at hd'
                injection hd' with hd'
                rw [← hd', HVD.out]; rfl, hb⟩
            case measure => simp [intOf]; omega
        · have HRow : Hid (rowBad n0 l = false) := by
            unfold Hid rowBad
            rw [HL1.out, decide_eq_false (show ¬ n1 ≠ n0 by have := HN.out; omega), any_no _ l (fun j d hd => HZ1.out j d (by
              have := (List.getElem?_eq_some_iff.1 hd).1
              have := HL1.out
              omega) hd)]
            rfl
          go_wp2_with fail
          go_roundw
          case rel => exact ⟨i + 1, by omega, by go_num, fun j l' hj hl' => by
            by_cases hji : j < i
            · exact HZ.out j l' hji hl'
            · obtain rfl : j = i := by omega
              rw [HM.out] at hl'
              injection hl' with hl'
              rw [← hl']; exact HRow.out, hb⟩
          case measure => simp [intOf]; omega
    · go_wp2_with fail
      go_ret
      refine ⟨?_, hb⟩
      rw [HV.out, any_no _ m (fun j l hl => HZ.out j l (by
        have := (List.getElem?_eq_some_iff.1 hl).1
        have := HL.out
        omega) hl)]
      rfl

end Go.Proofs.YtekajoifgdpmlaaGreatDoor

/-! C10 -/
namespace Go.Proofs.YtekajoifgdpmlaaGreatDoor
open Go.RowKit Pl Go.Shelf

theorem num_of {a : List (List Dy)} {n : Nat} (h1 : 1 ≤ n) (h8 : n ≤ 8) (ha : a.length = n) : (numV a && decide ((a.headD []).length = n)) = !a.any (rowBad n) := by
  cases hb : a.any (rowBad n)
  · have h := List.any_eq_false.1 hb
    cases a with
    | nil => simp at ha; omega
    | cons l t =>
      have hl := h l (by simp)
      have e : l.length = n := by
        unfold rowBad at hl
        simp only [Bool.not_eq_true, Bool.or_eq_false_iff, decide_eq_false_iff_not, Decidable.not_not] at hl
        exact hl.1
      unfold numV
      rw [show ((l :: t).headD []).length = l.length from rfl, e, hb, ha, decide_eq_true h1, decide_eq_true h8]
      simp
  · by_cases e : (a.headD []).length = n
    · unfold numV
      rw [e, hb]
      simp
    · rw [decide_eq_false e]
      simp
theorem frV_ref {f : Fr} {n m p : Nat} (hc : f.c.length = n) (ha : f.a.length = m) (hr : f.r.length = p) : frV f = (decide (1 ≤ n) && decide (n ≤ 8) && decide (m = n) && decide (p = n) && numV f.a && decide ((f.a.headD []).length = n) && (!f.c.any (fun d => !vld d) && !f.r.any (fun x => x.all || !ivHas x zeroD))) := by
  unfold frV
  rw [hc, ha, hr]
  by_cases h1 : 1 ≤ n
  · by_cases h8 : n ≤ 8
    · by_cases hm : m = n
      · have := num_of h1 h8 (by rw [ha, hm])
        rw [decide_eq_true h1, decide_eq_true h8, decide_eq_true hm]
        simp only [Bool.true_and]
        rw [Bool.and_assoc (decide (p = n)) (numV f.a), this]
        show _ = _
        have e : f.a.any (fun l => decide (l.length ≠ n) || l.any (fun d => !vld d)) = f.a.any (rowBad n) := rfl
        rw [e]
        generalize f.c.any (fun d => !vld d) = x1
        generalize f.a.any (rowBad n) = x2
        generalize f.r.any (fun x => x.all || !ivHas x zeroD) = x3
        generalize decide (p = n) = x4
        cases x1 <;> cases x2 <;> cases x3 <;> cases x4 <;> rfl
      · rw [decide_eq_false hm]; simp
    · rw [decide_eq_false h8]; simp
  · rw [decide_eq_false h1]; simp

set_option maxRecDepth 100000 in
set_option maxHeartbeats 8000000 in
theorem rframeValid_any (vs : List Value) (f : Fr) (w : World) (h : RF w vs f) (hx : BdF f) : Calls Tryz.prog 133 #[.agg vs.toArray] w (Says (frV f) w) := by
  obtain ⟨A, n, c, B, m, d, C, p, q, rfl, h1, h2, h3⟩ := h
  obtain ⟨N0, hN0⟩ : ∃ N0, (f.a.headD []).length = N0 := ⟨_, rfl⟩
  have HV := Lib.hid (frV_ref h1.len h2.len h3.len)
  rw [hN0] at HV
  have m1 := h1.cap
  have m2 := h1.max
  have m3 := h2.cap
  have m4 := h2.max
  have m5 := h3.cap
  have m6 := h3.max
  have HL1 := Lib.hid h1.len
  have HL3 := Lib.hid h3.len
  have hb0 := ballo w (.cells #[.slice A n c, .slice B m d, .slice C p q] 39)
  have k0 := Blk.new w 39 #[.slice A n c, .slice B m d, .slice C p q]
  have HA := Lib.hid (fun W (hb : Below w.heap.size w W) => rnumbers_any B m d f.a W (h2.next lasts_RM hb) hx.a)
  have HS1 := Lib.hid h1
  have HS3 := Lib.hid h3
  have HR0 : Hid (0 < m → ∃ (b off : Nat) (A0 : Option Addr) (c0 : Nat), B = some ⟨b, off, none⟩ ∧ b < w.heap.size ∧ w.cell? ⟨b, off, none⟩ = some (.slice A0 N0 c0) ∧ N0 ≤ c0 ∧ c0 ≤ 9223372036854775807) := fun hm => by
    obtain ⟨b, off, l0, vs, e, hbl, hx0, hk0, hR0, hc0⟩ := h2.get (j := 0) hm
    obtain ⟨A0, n0, c0, rfl, hs0⟩ := hR0
    have e0 : n0 = N0 := by
      rw [← hN0, ← hs0.len]
      cases ha : f.a with
      | nil => rw [ha] at hx0; simp at hx0
      | cons a t => rw [ha] at hx0; simp at hx0; rw [hx0]; rfl
    subst e0
    have q0 := hc0 0 _ rfl
    rw [Nat.zero_mul, Nat.add_zero] at q0
    exact ⟨b, off, A0, c0, e, hbl, q0, hs0.cap, hs0.max⟩
  have HX := Lib.hid hx
  clear h1 h2 h3 hx hN0
  generalize numV f.a = nv at *
  by_cases e1 : 1 ≤ n
  rotate_left
  · rw [decide_eq_false e1] at HV
    clear k0 HA HS1 HS3 HR0
    go_enter Tryz.func133, Tryz.ntmps133
    go_wp2_with fail
    go_ret
    exact ⟨by rw [HV.out]; first | rfl | simp, hb0⟩
  rw [decide_eq_true e1] at HV
  by_cases e2 : n ≤ 8
  rotate_left
  · rw [decide_eq_false e2] at HV
    clear k0 HA HS1 HS3 HR0
    go_enter Tryz.func133, Tryz.ntmps133
    go_wp2_with fail
    go_ret
    exact ⟨by rw [HV.out]; first | rfl | simp, hb0⟩
  rw [decide_eq_true e2] at HV
  by_cases e3 : m = n
  rotate_left
  · rw [decide_eq_false e3] at HV
    clear k0 HA HS1 HS3 HR0
    have hne : ((m : Int) != (n : Int)) = true := by rw [bne_iff_ne]; omega
    go_enter Tryz.func133, Tryz.ntmps133
    go_wp2_with fail
    go_ret
    exact ⟨by rw [HV.out]; first | rfl | simp, hb0⟩
  rw [decide_eq_true e3] at HV
  have he3 : ((m : Int) != (n : Int)) = false := by rw [e3]; simp
  have em : 0 < m := by omega
  clear e3
  by_cases e4 : p = n
  rotate_left
  · rw [decide_eq_false e4] at HV
    clear k0 HA HS1 HS3 HR0
    have hne : ((p : Int) != (n : Int)) = true := by rw [bne_iff_ne]; omega
    go_enter Tryz.func133, Tryz.ntmps133
    go_wp2_with fail
    go_ret
    exact ⟨by rw [HV.out]; first | rfl | simp, hb0⟩
  rw [decide_eq_true e4] at HV
  have he4 : ((p : Int) != (n : Int)) = false := by rw [e4]; simp
  have HE4 := Lib.hid e4
  clear e4
  obtain ⟨b0, off0, A0, c0, rfl, hbl0, q00, g1, g2⟩ := HR0.out em
  have Q00 := Lib.hid q00
  clear q00 HR0
  go_enter Tryz.func133, Tryz.ntmps133
  go_wp2_with fail
  generalize w.alloc (.cells #[.slice A n c, .slice (some ⟨b0, off0, none⟩) m d, .slice C p q] 39) = W0 at *
  refine (HA.out _ hb0).mono ?_
  rintro e w1 ⟨rfl, hb1x⟩
  replace hb0 := bnext hb0 hb1x
  replace k0 := k0.next hb1x
  clear hb1x
  simp only [Bool.true_and] at HV
  cases hv1 : nv
  · rw [hv1] at HV
    clear hv1
    go_wp2_with fail
    go_ret
    exact ⟨by rw [HV.out]; first | rfl | simp, hb0⟩
  rw [hv1] at HV
  clear hv1
  have z0 := (hb0.cell (p := ⟨b0, off0, none⟩) hbl0).trans Q00.out
  by_cases e5 : N0 = n
  rotate_left
  · rw [decide_eq_false e5] at HV
    have hne : ((N0 : Int) != (n : Int)) = true := by rw [bne_iff_ne]; omega
    obtain ⟨k0q0, k0q1, k0q2⟩ := k0.cells3
    go_wp2_with fail
    go_ret
    exact ⟨by rw [HV.out]; first | rfl | simp, hb0⟩
  rw [decide_eq_true e5] at HV
  have he5 : ((N0 : Int) != (n : Int)) = false := by rw [e5]; simp
  clear e5
  obtain ⟨k0q0, k0q1, k0q2⟩ := k0.cells3
  go_wp2_with fail
  clear z0
  clear k0q0 k0q1 k0q2
  go_loopw [4] (fun v wr => ∃ i : Nat, i ≤ n ∧ v = .int .i64 i ∧ Hid (∀ (j : Nat) (y : Dy), j < i → f.c[j]? = some y → (!vld y) = false) ∧ Hid (∀ (j : Nat) (x : Iv), j < i → f.r[j]? = some x → (x.all || !ivHas x zeroD) = false) ∧ Below w.heap.size w wr ∧ Blk wr w.heap.size 39 #[.slice A n c, .slice (some ⟨b0, off0, none⟩) m d, .slice C p q]) (fun v _ => n - (intOf v).toNat)
  case atStart => exact ⟨0, Nat.zero_le _, rfl, fun j l hj => absurd hj (by omega), fun j l hj => absurd hj (by omega), hb0, k0⟩
  case round =>
    clear hb0 k0
    obtain ⟨i, hi, rfl, HZ1, HZ3, hbr, k0⟩ := hrel
    obtain ⟨k0q0, k0q1, k0q2⟩ := k0.cells3
    by_cases hlt : i < n
    · have hip : i < p := by have := HE4.out; omega
      obtain ⟨b1, off1, x, vs, rfl, hbl1, hxi, hk, hR, hc⟩ := HS3.out.get (j := i) hip
      have HRI := Lib.hid (lasts_RI _ _ _ _ hR hbr)
      have HBI := Lib.hid (HX.out.r x (List.mem_of_getElem? hxi))
      obtain ⟨A1, n1, c1, A2, n2, c2, rfl, hs1, hs2⟩ := hR
      have q0 := (hbr.cell (p := ⟨b1, off1 + i * 7, none⟩) hbl1).trans (hc 0 _ rfl)
      have q1 := (hbr.cell (p := ⟨b1, off1 + i * 7 + 1, none⟩) hbl1).trans (hc 1 _ rfl)
      have q2 := (hbr.cell (p := ⟨b1, off1 + i * 7 + 2, none⟩) hbl1).trans (hc 2 _ rfl)
      have q3 := (hbr.cell (p := ⟨b1, off1 + i * 7 + 3, none⟩) hbl1).trans (hc 3 _ rfl)
      have q4 := (hbr.cell (p := ⟨b1, off1 + i * 7 + 4, none⟩) hbl1).trans (hc 4 _ rfl)
      have q5 := (hbr.cell (p := ⟨b1, off1 + i * 7 + 5, none⟩) hbl1).trans (hc 5 _ rfl)
      have q6 := (hbr.cell (p := ⟨b1, off1 + i * 7 + 6, none⟩) hbl1).trans (hc 6 _ rfl)
      have HXI := Lib.hid hxi
      clear hxi hk hc hs1 hs2
      obtain ⟨b2, off2, y, us, rfl, hbl2, hyi, hk, hR, hc⟩ := HS1.out.get hlt
      have HRD := Lib.hid (lasts_RD _ _ _ _ hR hbr)
      have HBD := Lib.hid (HX.out.c y (List.mem_of_getElem? hyi))
      obtain ⟨A3, n3, c3, rfl, hs3⟩ := hR
      have p0 := (hbr.cell (p := ⟨b2, off2 + i * 3, none⟩) hbl2).trans (hc 0 _ rfl)
      have p1 := (hbr.cell (p := ⟨b2, off2 + i * 3 + 1, none⟩) hbl2).trans (hc 1 _ rfl)
      have p2 := (hbr.cell (p := ⟨b2, off2 + i * 3 + 2, none⟩) hbl2).trans (hc 2 _ rfl)
      have HYI := Lib.hid hyi
      clear hyi hk hc hs3
      have kx := Blk.new wr 87 #[.bool x.lo.neg, .slice A1 n1 c1, .int .i64 x.lo.e, .bool x.hi.neg, .slice A2 n2 c2, .int .i64 x.hi.e, .bool x.all]
      have hb1 := ballo wr (.cells #[.bool x.lo.neg, .slice A1 n1 c1, .int .i64 x.lo.e, .bool x.hi.neg, .slice A2 n2 c2, .int .i64 x.hi.e, .bool x.all] 87)
      have j0 := k0.next hb1
      obtain ⟨j0q0, j0q1, j0q2⟩ := j0.cells3
      have hl2 := Nat.lt_of_lt_of_le hbl2 hbr.size
      have s0 := (hb1.cell (p := ⟨b2, off2 + i * 3, none⟩) hl2).trans p0
      have s1 := (hb1.cell (p := ⟨b2, off2 + i * 3 + 1, none⟩) hl2).trans p1
      have s2 := (hb1.cell (p := ⟨b2, off2 + i * 3 + 2, none⟩) hl2).trans p2
      replace HRI := Lib.hid (lasts_RI _ _ _ _ HRI.out hb1)
      replace HRD := Lib.hid (lasts_RD _ _ _ _ HRD.out hb1)
      replace hbr := bthen hbr hb1 (Nat.le_refl _)
      clear p0 p1 p2 hb1 hl2
      go_wp2_with fail
      clear k0 k0q0 k0q1 k0q2 q0 q1 q2 q3 q4 q5 q6
      generalize wr.alloc (.cells #[.bool x.lo.neg, .slice A1 n1 c1, .int .i64 x.lo.e, .bool x.hi.neg, .slice A2 n2 c2, .int .i64 x.hi.e, .bool x.all] 87) = W1 at *
      generalize wr.heap.size = gx at *
      refine (rvalid_R _ _ _ HRD.out HBD.out).mono ?_
      rintro e w1 ⟨rfl, hb1⟩
      clear s0 s1 s2 j0q0 j0q1 j0q2
      replace hbr := bthen hbr hb1 (Nat.le_refl _)
      replace kx := kx.next hb1
      replace j0 := j0.next hb1
      replace HRI := Lib.hid (lasts_RI _ _ _ _ HRI.out hb1)
      clear hb1 HRD
      cases hv : vld y
      · have HB : Hid (f.c.any (fun d => !vld d) = true) := any_yes _ f.c i y HYI.out (by rw [hv]; rfl)
        clear hv
        go_wp2_with fail
        go_ret
        exact ⟨by rw [HV.out, HB.out]; first | rfl | simp, hbr⟩
      have HVY := Lib.hid hv
      clear hv
      obtain ⟨xq0, xq1, xq2, xq3, xq4, xq5, xq6⟩ := kx.cells7
      go_wp2_with fail
      refine (rivalid_any _ _ _ HRI.out HBI.out).mono ?_
      rintro e w2 ⟨rfl, hb1⟩
      clear xq0 xq1 xq2 xq3 xq4 xq5 xq6
      replace hbr := bthen hbr hb1 (Nat.le_refl _)
      replace kx := kx.next hb1
      replace j0 := j0.next hb1
      replace HRI := Lib.hid (lasts_RI _ _ _ _ HRI.out hb1)
      clear hb1
      cases hv : ivV x
      · have HB : Hid (f.r.any (fun x => x.all || !ivHas x zeroD) = true) := any_yes _ f.r i x HXI.out (by unfold ivHas; rw [hv]; simp)
        clear hv
        go_wp2_with fail
        go_ret
        exact ⟨by rw [HV.out, HB.out]; first | rfl | simp, hbr⟩
      clear hv
      obtain ⟨xq0, xq1, xq2, xq3, xq4, xq5, xq6⟩ := kx.cells7
      rcases Bool.eq_false_or_eq_true x.all with hal | hal
      · have HB : Hid (f.r.any (fun x => x.all || !ivHas x zeroD) = true) := any_yes _ f.r i x HXI.out (by rw [hal]; rfl)
        rw [hal] at xq6
        clear hal
        go_wp2_with fail
        go_ret
        exact ⟨by rw [HV.out, HB.out]; first | rfl | simp, hbr⟩
      have HAL := Lib.hid hal
      rw [hal] at xq6
      have HRI2 := HRI.out
      rw [hal] at HRI2
      replace HRI2 := Lib.hid HRI2
      clear hal
      go_wp2_with fail
      refine (rihas_any _ [.bool false, .slice none 0 0, .int .i64 0] _ zeroD _ HRI2.out ⟨none, 0, 0, rfl, SL.nil _⟩ HBI.out bd_zero).mono ?_
      rintro e w3 ⟨rfl, hb1⟩
      clear xq0 xq1 xq2 xq3 xq4 xq5 xq6
      replace hbr := bthen hbr hb1 (Nat.le_refl _)
      replace j0 := j0.next hb1
      clear hb1 kx
      cases hh : ivHas x zeroD
      · have HB : Hid (f.r.any (fun x => x.all || !ivHas x zeroD) = true) := any_yes _ f.r i x HXI.out (by rw [hh, Bool.not_false, Bool.or_true])
        clear hh
        go_wp2_with fail
        go_ret
        exact ⟨by rw [HV.out, HB.out]; first | rfl | simp, hbr⟩
      have HH := Lib.hid hh
      clear hh
      go_wp2_with fail
      go_roundw
      case rel => exact ⟨i + 1, by omega, by go_num, fun j d' hj hd' => by
        by_cases hjk : j < i
        · exact HZ1.out j d' hjk hd'
        · obtain rfl : j = i := by omega
          rw [HYI.out] at hd'
          injection hd' with hd'
          rw [← hd', HVY.out]; rfl, fun j d' hj hd' => by
        by_cases hjk : j < i
        · exact HZ3.out j d' hjk hd'
        · obtain rfl : j = i := by omega
          rw [HXI.out] at hd'
          injection hd' with hd'
          rw [← hd', HAL.out, HH.out]; rfl, hbr, j0⟩
      case measure => simp [intOf]; omega
    · go_wp2_with fail
      go_ret
      refine ⟨?_, hbr⟩
      rw [HV.out, any_no _ f.c (fun j y hy => HZ1.out j y (by
        have := (List.getElem?_eq_some_iff.1 hy).1
        have := HL1.out
        omega) hy), any_no _ f.r (fun j y hy => HZ3.out j y (by
        have := (List.getElem?_eq_some_iff.1 hy).1
        have := HL3.out
        have := HE4.out
        omega) hy)]
      rfl

set_option maxHeartbeats 1000000 in
theorem rframe_any (N : Nat) (vs : List Value) (f : Fr) (w : World) (h : RF w vs f) (hx : BdF f) : Calls Tryz.prog 66 #[.agg vs.toArray, .int .i64 N] w (Says (frV f && decide (f.c.length = N)) w) := by
  obtain ⟨A, n, c, B, m, d, C, p, q, rfl, h1, h2, h3⟩ := h
  have r1 : RF w [.slice A n c, .slice B m d, .slice C p q] f := ⟨A, n, c, B, m, d, C, p, q, rfl, h1, h2, h3⟩
  have hb0 := ballo w (.cells #[.slice A n c, .slice B m d, .slice C p q] 39)
  have k0 := Blk.new w 39 #[.slice A n c, .slice B m d, .slice C p q]
  have H1 := Lib.hid (rframeValid_any _ f _ (lasts_RF _ _ _ _ r1 hb0) hx)
  obtain ⟨r, hr⟩ : ∃ r, frV f = r := ⟨_, rfl⟩
  have HV : Hid ((frV f && decide (f.c.length = N)) = (r && decide (n = N))) := by unfold Hid; rw [h1.len, hr]
  rw [hr] at H1
  have m1 := h1.cap
  have m2 := h1.max
  clear h1 h2 h3 r1 hx hr
  go_enter Tryz.func66, Tryz.ntmps66
  go_wp2_with fail
  generalize w.alloc (.cells #[.slice A n c, .slice B m d, .slice C p q] 39) = W0 at *
  refine H1.out.mono ?_
  rintro e w1 ⟨rfl, hb1⟩
  replace hb0 := bnext hb0 hb1
  replace k0 := k0.next hb1
  clear hb1
  obtain ⟨k0q0, k0q1, k0q2⟩ := k0.cells3
  cases r
  · go_wp2_with fail
    go_ret
    exact ⟨by rw [HV.out]; rfl, hb0⟩
  by_cases hn : n = N
  · have hn2 : ((n : Int) == (N : Int)) = true := by rw [hn]; simp
    have HN := Lib.hid (decide_eq_true hn)
    clear hn
    go_wp2_with fail
    go_ret
    exact ⟨by rw [HV.out, HN.out]; rfl, hb0⟩
  · have hn2 : ((n : Int) == (N : Int)) = false := by rw [beq_eq_false_iff_ne]; omega
    have HN := Lib.hid (decide_eq_false hn)
    clear hn
    go_wp2_with fail
    go_ret
    exact ⟨by rw [HV.out, HN.out]; rfl, hb0⟩

end Go.Proofs.YtekajoifgdpmlaaGreatDoor
