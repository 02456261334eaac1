/- dyadic.compare, dyadic.Cmp: what each call computes. -/
import Derived.Test.YtekajoifgdpmlaaGreatDoorE2
import Derived.Test.YtekajoifgdpmlaaGreatDoorD3
namespace Go.Proofs.YtekajoifgdpmlaaGreatDoor
open Go.RowKit Pl Go.Shelf

/-- The comparison of the absolute values of two valid numbers that are not 0. -/
def acmp (d d' : Dy) : Int := if (blen (val d.l) : Int) + d.e < (blen (val d'.l) : Int) + d'.e then -1 else if (blen (val d'.l) : Int) + d'.e < (blen (val d.l) : Int) + d.e then 1 else
  cmpN (val d.l * 2 ^ (d.e - min d.e d'.e).toNat) (val d'.l * 2 ^ (d'.e - min d.e d'.e).toNat)
def cmpD (d d' : Dy) : Int := if vld d = true ∧ vld d' = true then (if sgnD d < sgnD d' then -1 else if sgnD d' < sgnD d then 1 else if sgnD d = 0 then 0 else sgnD d * acmp d d') else 0

set_option maxHeartbeats 4000000 in
theorem compare_any (neg neg' : Bool) (A B : Option Addr) (n c m d : Nat) (l l' : List Nat) (x x' : Int) (w : World) (h : SL w A n c l) (h' : SL w B m d l')
    (hv : vld ⟨neg, l, x⟩ = true) (hv' : vld ⟨neg', l', x'⟩ = true) (hne : n ≠ 0) (hne' : m ≠ 0) :
    Calls Tryz.prog 139 #[.agg #[.bool neg, .slice A n c, .int .i64 x], .agg #[.bool neg', .slice B m d, .int .i64 x']] w fun e w' => e = .returned (.int .i64 (acmp ⟨neg, l, x⟩ ⟨neg', l', x'⟩)) ∧ Below w.heap.size w w' := by
  obtain ⟨mn, hmn⟩ : ∃ mn, min x x' = mn := ⟨_, rfl⟩
  obtain ⟨b1, b2, b3, b4, b5, b6, b7⟩ := vld_bounds hv ((ne_nil_iff h).2 hne)
  obtain ⟨b1', b2', b3', b4', b5', b6', b7'⟩ := vld_bounds hv' ((ne_nil_iff h').2 hne')
  have hn256 : n ≤ 256 := by rw [← h.len]; exact b1
  have hm256 : m ≤ 256 := by rw [← h'.len]; exact b1'
  have B3 := Lib.hid b3
  have B3' := Lib.hid b3'
  have TT : Hid (topD ⟨neg, l, x⟩ = (blen (val l) : Int) + x) := by unfold Hid topD; rw [if_pos ⟨hv, (ne_nil_iff h).2 hne⟩]
  have TT' : Hid (topD ⟨neg', l', x'⟩ = (blen (val l') : Int) + x') := by unfold Hid topD; rw [if_pos ⟨hv', (ne_nil_iff h').2 hne'⟩]
  have hm1 : mn ≤ x := by omega
  have hm2 : mn ≤ x' := by omega
  have hm3 : mn = x ∨ mn = x' := by omega
  simp only at b4 b5 b6 b7 b4' b5' b6' b7'
  have hm4 : -16384 ≤ mn := by omega
  have HM3 := Lib.hid hm3
  have HMN := Lib.hid hmn
  have HR : Hid (acmp ⟨neg, l, x⟩ ⟨neg', l', x'⟩ = if (blen (val l) : Int) + x < (blen (val l') : Int) + x' then -1 else if (blen (val l') : Int) + x' < (blen (val l) : Int) + x then 1 else
      cmpN (val l * 2 ^ (x - mn).toNat) (val l' * 2 ^ (x' - mn).toNat)) := by unfold Hid acmp; rw [← hmn]
  generalize acmp ⟨neg, l, x⟩ ⟨neg', l', x'⟩ = r at *
  clear b1 b1' b2 b2' b3 b3' hmn hv hv' hm3
  go_enter Tryz.func139, Tryz.ntmps139
  go_wp2_with fail
  have k1 := (Blk.new w 25 #[.bool neg, .slice A n c, .int .i64 x]).alloc (.cells #[.bool neg', .slice B m d, .int .i64 x'] 25)
  have k2 := Blk.newAt (w.alloc (.cells #[.bool neg, .slice A n c, .int .i64 x] 25)) 25 #[.bool neg', .slice B m d, .int .i64 x'] (g := w.heap.size + 1) (by simp)
  have k5 := (ballo w (.cells #[.bool neg, .slice A n c, .int .i64 x] 25)).alloc (by simp) (.cells #[.bool neg', .slice B m d, .int .i64 x'] 25)
  have h1 := h.below k5
  have h1' := h'.below k5
  generalize (w.alloc (.cells #[.bool neg, .slice A n c, .int .i64 x] 25)).alloc (.cells #[.bool neg', .slice B m d, .int .i64 x'] 25) = W0 at *
  obtain ⟨s0, s1, s2⟩ := k1.cells3
  obtain ⟨t0, t1, t2⟩ := k2.cells3
  have hg0 : w.heap.size < W0.drew.heap.size := k1.lt
  have hg1 : w.heap.size + 1 < W0.drew.heap.size := k2.lt
  go_region_held3 (fun W => W.cell? ⟨w.heap.size, 0, none⟩ = some (.bool neg) ∧ W.cell? ⟨w.heap.size, 1, none⟩ = some (.slice A n c) ∧ W.cell? ⟨w.heap.size, 2, none⟩ = some (.int .i64 x) ∧ W.cell? ⟨w.heap.size + 1, 0, none⟩ = some (.bool neg') ∧ W.cell? ⟨w.heap.size + 1, 1, none⟩ = some (.slice B m d) ∧ W.cell? ⟨w.heap.size + 1, 2, none⟩ = some (.int .i64 x'))
    (first | exact ⟨s0, s1, s2, t0, t1, t2⟩ | exact keep6 hbA hg0 hg1 ⟨s0, s1, s2, t0, t1, t2⟩ | exact keep6 (bnext hbA hbB) hg0 hg1 ⟨s0, s1, s2, t0, t1, t2⟩)
    (first
      | (go_at_call 156; (with_reducible refine (topD_any neg A n c l x _ h1.drew (by omega)).mono ?_); rintro e wA ⟨rfl, hbA⟩)
      | (go_at_call 156; (with_reducible refine (topD_any neg' B m d l' x' _ (h1'.drew.below hbA) (by omega)).mono ?_); rintro e wB ⟨rfl, hbB⟩))
  rw [TT.out, TT'.out]
  have hbAB := bnext hbA hbB
  have k1B := k1.drew.below hbAB hg0
  have k2B := k2.drew.below hbAB hg1
  have hbw : Below w.heap.size w wB := bnext (below_drewN k5 1) hbAB
  have h2 := h1.drew.below hbAB
  have h2' := h1'.drew.below hbAB
  clear k1 k2 k5 h1 h1' s0 s1 s2 t0 t1 t2 hbA hbB hbAB TT TT' hg0 hg1
  obtain ⟨s0, s1, s2⟩ := k1B.cells3
  obtain ⟨t0, t1, t2⟩ := k2B.cells3
  have hg0 : w.heap.size < wB.drew.heap.size := k1B.lt
  have hg1 : w.heap.size + 1 < wB.drew.heap.size := k2B.lt
  generalize hN1 : blen (val l) = N1 at *
  generalize hN2 : blen (val l') = N2 at *
  have HBN1 := Lib.hid hN1
  have HBN2 := Lib.hid hN2
  clear hN1 hN2
  by_cases c1 : (N1 : Int) + x < (N2 : Int) + x'
  · have R1 : Hid (r = -1) := by unfold Hid; rw [HR.out, if_pos c1]
    go_wp2_with fail
    go_ret
    exact ⟨by rw [R1.out]; rfl, hbw⟩
  by_cases c2 : (N2 : Int) + x' < (N1 : Int) + x
  · have R1 : Hid (r = 1) := by unfold Hid; rw [HR.out, if_neg c1, if_pos c2]
    go_wp2_with fail
    go_ret
    exact ⟨by rw [R1.out]; rfl, hbw⟩
  have q1e : ∃ q1 : Nat, x - mn = (q1 : Int) := ⟨(x - mn).toNat, by omega⟩
  have q2e : ∃ q2 : Nat, x' - mn = (q2 : Int) := ⟨(x' - mn).toNat, by omega⟩
  obtain ⟨q1, hq1⟩ := q1e
  obtain ⟨q2, hq2⟩ := q2e
  have hm3 := HM3.out
  have hT1 : N1 + q1 ≤ 4097 := by omega
  have hT2 : N2 + q2 ≤ 4097 := by omega
  have hq1b : q1 ≤ 65536 := by omega
  have hq2b : q2 ≤ 65536 := by omega
  have P1 : 0 < val l := by have := B3.out; omega
  have P2 : 0 < val l' := by have := B3'.out; omega
  have L1 : Hid (blen (val l * 2 ^ q1) = N1 + q1) := by unfold Hid; rw [blen_mul_pow _ _ P1, HBN1.out]
  have L2 : Hid (blen (val l' * 2 ^ q2) = N2 + q2) := by unfold Hid; rw [blen_mul_pow _ _ P2, HBN2.out]
  have D1 : Hid ((digs (val l * 2 ^ q1)).length ≤ 256) := Nat.le_trans (digs_len_blen _ 129 (by rw [L1.out]; omega)) (by omega)
  have D2 : Hid ((digs (val l' * 2 ^ q2)).length ≤ 256) := Nat.le_trans (digs_len_blen _ 129 (by rw [L2.out]; omega)) (by omega)
  have E1 : Hid ((x - mn).toNat = q1) := by unfold Hid; omega
  have E2 : Hid ((x' - mn).toNat = q2) := by unfold Hid; omega
  have HRR : Hid (r = cmpN (val l * 2 ^ q1) (val l' * 2 ^ q2)) := by unfold Hid; rw [HR.out, if_neg c1, if_neg c2, E1.out, E2.out]
  have W1 : IntKind.i64.wrap (x - mn) = (q1 : Int) := by rw [hq1]; exact IntWalk.i64_in _ (by omega)
  have W2 : IntKind.i64.wrap (x' - mn) = (q2 : Int) := by rw [hq2]; exact IntWalk.i64_in _ (by omega)
  clear hm3 hq1 hq2 P1 P2 HR
  go_wp2_with fail
  rw [HMN.out]
  go_region_held3 (fun W => W.cell? ⟨w.heap.size, 1, none⟩ = some (.slice A n c) ∧ W.cell? ⟨w.heap.size, 2, none⟩ = some (.int .i64 x) ∧ W.cell? ⟨w.heap.size + 1, 1, none⟩ = some (.slice B m d) ∧ W.cell? ⟨w.heap.size + 1, 2, none⟩ = some (.int .i64 x'))
    (first | exact ⟨s1, s2, t1, t2⟩ | exact keep4 hbC hg0 hg1 ⟨s1, s2, t1, t2⟩ | exact keep4 (bnext hbC hbD) hg0 hg1 ⟨s1, s2, t1, t2⟩ | exact keep4 (below_drewN (bnext hbC hbD) q) hg0 hg1 ⟨s1, s2, t1, t2⟩)
    (first
      | (go_at_call 157; (with_reducible refine (shifted_int A n c q1 _ l _ h2.drew hn256 rfl hq1b D1.out).mono ?_); rintro e wC ⟨AC, nC, cC, rfl, hsC, hfC, hbC⟩)
      | (go_at_call 157; (with_reducible refine (shifted_int B m d q2 _ l' _ (h2'.drew.below hbC) hm256 rfl hq2b D2.out).mono ?_); rintro e wD ⟨AD, nD, cD, rfl, hsD, hfD, hbD⟩)
      | (go_at_call 159; (refine (ncmp_any AC AD nC cC nD cD (digs (val l * 2 ^ q1)) (digs (val l' * 2 ^ q2)) _ (hsC.below hbD) hsD).mono ?_); rw [val_digs, val_digs]; rintro e wE ⟨rfl, q, rfl⟩))
  go_wp2_with fail
  go_ret
  exact ⟨by rw [HRR.out]; rfl, below_drewN (bnext (below_drewN hbw 1) (bnext hbC hbD)) q⟩

theorem sgn_ne {neg : Bool} {w : World} {A : Option Addr} {n c : Nat} {l : List Nat} {x : Int} (h : SL w A n c l) (hs : sgnD ⟨neg, l, x⟩ ≠ 0) : n ≠ 0 := by
  intro h0
  apply hs
  unfold sgnD
  rw [if_neg (by rw [ne_nil_iff h]; exact fun h => h.2 h0)]
theorem sgn_cases (d : Dy) : sgnD d = -1 ∨ sgnD d = 0 ∨ sgnD d = 1 := by
  unfold sgnD
  split
  · split <;> simp
  · simp
theorem cmpN_cases (a b : Nat) : cmpN a b = -1 ∨ cmpN a b = 0 ∨ cmpN a b = 1 := by
  unfold cmpN
  split
  · exact .inl rfl
  · split
    · exact .inr (.inr rfl)
    · exact .inr (.inl rfl)
theorem acmp_cases (d d' : Dy) : acmp d d' = -1 ∨ acmp d d' = 0 ∨ acmp d d' = 1 := by
  unfold acmp
  split
  · simp
  · split
    · simp
    · exact cmpN_cases _ _

set_option maxHeartbeats 4000000 in
theorem cmpD_any (neg neg' : Bool) (A B : Option Addr) (n c m d : Nat) (l l' : List Nat) (x x' : Int) (w : World) (h : SL w A n c l) (h' : SL w B m d l') (hn : n ≤ 1000000) (hm : m ≤ 1000000) :
    Calls Tryz.prog 75 #[.agg #[.bool neg, .slice A n c, .int .i64 x], .agg #[.bool neg', .slice B m d, .int .i64 x']] w fun e w' => e = .returned (.int .i64 (cmpD ⟨neg, l, x⟩ ⟨neg', l', x'⟩)) ∧ Below w.heap.size w w' := by
  have HR : Hid (cmpD ⟨neg, l, x⟩ ⟨neg', l', x'⟩ = if vld ⟨neg, l, x⟩ = true ∧ vld ⟨neg', l', x'⟩ = true then (if sgnD ⟨neg, l, x⟩ < sgnD ⟨neg', l', x'⟩ then -1 else if sgnD ⟨neg', l', x'⟩ < sgnD ⟨neg, l, x⟩ then 1 else if sgnD ⟨neg, l, x⟩ = 0 then 0 else sgnD ⟨neg, l, x⟩ * acmp ⟨neg, l, x⟩ ⟨neg', l', x'⟩) else 0) := rfl
  generalize cmpD ⟨neg, l, x⟩ ⟨neg', l', x'⟩ = r at *
  go_enter Tryz.func75, Tryz.ntmps75
  go_wp2_with fail
  have k1 := (Blk.new w 25 #[.bool neg, .slice A n c, .int .i64 x]).alloc (.cells #[.bool neg', .slice B m d, .int .i64 x'] 25)
  have k2 := Blk.newAt (w.alloc (.cells #[.bool neg, .slice A n c, .int .i64 x] 25)) 25 #[.bool neg', .slice B m d, .int .i64 x'] (g := w.heap.size + 1) (by simp)
  have k5 := (ballo w (.cells #[.bool neg, .slice A n c, .int .i64 x] 25)).alloc (by simp) (.cells #[.bool neg', .slice B m d, .int .i64 x'] 25)
  have h1 := h.below k5
  have h1' := h'.below k5
  generalize (w.alloc (.cells #[.bool neg, .slice A n c, .int .i64 x] 25)).alloc (.cells #[.bool neg', .slice B m d, .int .i64 x'] 25) = W0 at *
  refine (valid_any neg A n c l x _ h1 (by omega)).mono ?_
  rintro e w1 ⟨rfl, hb1⟩
  cases hv : vld ⟨neg, l, x⟩
  · go_wp2_with fail
    go_ret
    exact ⟨by rw [HR.out, hv]; rfl, bnext k5 hb1⟩
  have HV := Lib.hid hv
  clear hv
  obtain ⟨t0, t1, t2⟩ := (k2.below hb1 k2.lt).cells3
  go_wp2_with fail
  refine (valid_any neg' B m d l' x' _ (h1'.below hb1) (by omega)).mono ?_
  rintro e w2 ⟨rfl, hb2⟩
  have hb02 := bnext hb1 hb2
  cases hv' : vld ⟨neg', l', x'⟩
  · go_wp2_with fail
    go_ret
    exact ⟨by rw [HR.out, hv']; simp, bnext k5 hb02⟩
  have HV' := Lib.hid hv'
  clear hv'
  have k1B := k1.below hb02 k1.lt
  have k2B := k2.below hb02 k2.lt
  have h2 := h1.below hb02
  have h2' := h1'.below hb02
  have hbw2 := bnext k5 hb02
  have HR2 : Hid (r = if sgnD ⟨neg, l, x⟩ < sgnD ⟨neg', l', x'⟩ then -1 else if sgnD ⟨neg', l', x'⟩ < sgnD ⟨neg, l, x⟩ then 1 else if sgnD ⟨neg, l, x⟩ = 0 then 0 else sgnD ⟨neg, l, x⟩ * acmp ⟨neg, l, x⟩ ⟨neg', l', x'⟩) := by
    unfold Hid; rw [HR.out, if_pos ⟨HV.out, HV'.out⟩]
  clear k1 k2 k5 h1 h1' hb1 hb2 hb02 t0 t1 t2 HR
  obtain ⟨s0, s1, s2⟩ := k1B.cells3
  obtain ⟨t0, t1, t2⟩ := k2B.cells3
  have hg0 : w.heap.size < w2.drew.heap.size := k1B.lt
  have hg1 : w.heap.size + 1 < w2.drew.heap.size := k2B.lt
  have sc := sgn_cases ⟨neg, l, x⟩
  have sc' := sgn_cases ⟨neg', l', x'⟩
  have HNE : Hid (sgnD ⟨neg, l, x⟩ ≠ 0 → n ≠ 0) := fun hs => sgn_ne h hs
  have HNE' : Hid (sgnD ⟨neg', l', x'⟩ ≠ 0 → m ≠ 0) := fun hs => sgn_ne h' hs
  have HA := Lib.hid (acmp_cases ⟨neg, l, x⟩ ⟨neg', l', x'⟩)
  generalize hS : sgnD ⟨neg, l, x⟩ = S at *
  generalize hS' : sgnD ⟨neg', l', x'⟩ = S' at *
  have HS := Lib.hid hS
  have HS' := Lib.hid hS'
  clear hS hS'
  go_wp2_with fail
  go_region_held3 (fun W => W.cell? ⟨w.heap.size, 0, none⟩ = some (.bool neg) ∧ W.cell? ⟨w.heap.size, 1, none⟩ = some (.slice A n c) ∧ W.cell? ⟨w.heap.size, 2, none⟩ = some (.int .i64 x) ∧ W.cell? ⟨w.heap.size + 1, 0, none⟩ = some (.bool neg') ∧ W.cell? ⟨w.heap.size + 1, 1, none⟩ = some (.slice B m d) ∧ W.cell? ⟨w.heap.size + 1, 2, none⟩ = some (.int .i64 x'))
    (first | exact ⟨s0, s1, s2, t0, t1, t2⟩ | exact keep6 hbA hg0 hg1 ⟨s0, s1, s2, t0, t1, t2⟩ | exact keep6 (bnext hbA hbB) hg0 hg1 ⟨s0, s1, s2, t0, t1, t2⟩)
    (first
      | (go_at_call 63; (with_reducible refine (signD_any neg A n c l x _ h2.drew (by omega)).mono ?_); rw [HS.out]; rintro e wA ⟨rfl, hbA⟩)
      | (go_at_call 63; (with_reducible refine (signD_any neg' B m d l' x' _ (h2'.drew.below hbA) (by omega)).mono ?_); rw [HS'.out]; rintro e wB ⟨rfl, hbB⟩))
  have hbAB := bnext hbA hbB
  have k1C := k1B.drew.below hbAB hg0
  have k2C := k2B.drew.below hbAB hg1
  have hbw : Below w.heap.size w wB := bnext (below_drewN hbw2 1) hbAB
  have h3 := h2.drew.below hbAB
  have h3' := h2'.drew.below hbAB
  clear k1B k2B h2 h2' s0 s1 s2 t0 t1 t2 hbA hbB hbAB hg0 hg1 hbw2 HS HS'
  obtain ⟨s0, s1, s2⟩ := k1C.cells3
  obtain ⟨t0, t1, t2⟩ := k2C.cells3
  by_cases c1 : S < S'
  · have R1 : Hid (r = -1) := by unfold Hid; rw [HR2.out, if_pos c1]
    go_wp2_with fail
    go_ret
    exact ⟨by rw [R1.out]; rfl, hbw⟩
  by_cases c2 : S' < S
  · have R1 : Hid (r = 1) := by unfold Hid; rw [HR2.out, if_neg c1, if_pos c2]
    go_wp2_with fail
    go_ret
    exact ⟨by rw [R1.out]; rfl, hbw⟩
  obtain rfl : S' = S := by omega
  by_cases c3 : S' = 0
  · subst c3
    have R1 : Hid (r = 0) := by unfold Hid; rw [HR2.out]; rfl
    go_wp2_with fail
    go_ret
    exact ⟨by rw [R1.out]; rfl, hbw⟩
  · have c4 : (S' == 0) = false := by simp; omega
    have HRR : Hid (r = S' * acmp ⟨neg, l, x⟩ ⟨neg', l', x'⟩) := by unfold Hid; rw [HR2.out, if_neg c1, if_neg c2, if_neg c3]
    clear HR2
    go_wp2_with fail
    refine (compare_any neg neg' A B n c m d l l' x x' _ h3 h3' HV.out HV'.out (HNE.out c3) (HNE'.out c3)).mono ?_
    rintro e w5 ⟨rfl, hb5⟩
    have ha := HA.out
    generalize acmp ⟨neg, l, x⟩ ⟨neg', l', x'⟩ = ac at *
    have hw : IntKind.i64.wrap (S' * ac) = S' * ac := by
      rcases sc with rfl | rfl | rfl <;> rcases ha with rfl | rfl | rfl <;> rfl
    go_wp2_with fail
    go_ret
    exact ⟨by rw [HRR.out]; first | rfl | (simp only [hw]; rfl), bnext hbw hb5⟩

end Go.Proofs.YtekajoifgdpmlaaGreatDoor
