/- dyadic.sum: what the call computes. (The walks are printed by gen_d3.py.) -/
import Derived.Test.YtekajoifgdpmlaaGreatDoorD2
import Derived.Test.YtekajoifgdpmlaaGreatDoorMath4
namespace Go.Proofs.YtekajoifgdpmlaaGreatDoor
open Go.RowKit Pl Go.Shelf

theorem box3 (w : World) (t : TypeId) (a b c : Array Value) :
    Blk (((w.alloc (.cells a t)).alloc (.cells b t)).alloc (.cells c t)) w.heap.size t a ∧ Blk (((w.alloc (.cells a t)).alloc (.cells b t)).alloc (.cells c t)) (w.heap.size + 1) t b ∧
    Blk (((w.alloc (.cells a t)).alloc (.cells b t)).alloc (.cells c t)) (w.heap.size + 1 + 1) t c ∧ (((w.alloc (.cells a t)).alloc (.cells b t)).alloc (.cells c t)).heap.size = w.heap.size + 1 + 1 + 1 ∧
    Below w.heap.size w (((w.alloc (.cells a t)).alloc (.cells b t)).alloc (.cells c t)) := by
  refine ⟨((Blk.new w t a).alloc _).alloc _, ?_, ?_, by simp, ((ballo _ _).alloc (by simp) _).alloc (by simp <;> omega) _⟩
  · have := (Blk.new (w.alloc (.cells a t)) t b).alloc (.cells c t)
    rwa [World.size_alloc] at this
  · have := Blk.new ((w.alloc (.cells a t)).alloc (.cells b t)) t c
    rwa [World.size_alloc, World.size_alloc] at this
theorem keep6 {B g g' : Nat} {W W' : World} {a b c a' b' c' : Value} (hb : Below B W W') (hg : g < B) (hg' : g' < B) (h : W.cell? ⟨g, 0, none⟩ = some a ∧ W.cell? ⟨g, 1, none⟩ = some b ∧ W.cell? ⟨g, 2, none⟩ = some c ∧ W.cell? ⟨g', 0, none⟩ = some a' ∧ W.cell? ⟨g', 1, none⟩ = some b' ∧ W.cell? ⟨g', 2, none⟩ = some c') :
    W'.cell? ⟨g, 0, none⟩ = some a ∧ W'.cell? ⟨g, 1, none⟩ = some b ∧ W'.cell? ⟨g, 2, none⟩ = some c ∧ W'.cell? ⟨g', 0, none⟩ = some a' ∧ W'.cell? ⟨g', 1, none⟩ = some b' ∧ W'.cell? ⟨g', 2, none⟩ = some c' := by
  obtain ⟨h0, h1, h2, h3, h4, h5⟩ := h
  exact ⟨(hb.cell (p := ⟨g, 0, none⟩) hg).trans h0, (hb.cell (p := ⟨g, 1, none⟩) hg).trans h1, (hb.cell (p := ⟨g, 2, none⟩) hg).trans h2, (hb.cell (p := ⟨g', 0, none⟩) hg').trans h3, (hb.cell (p := ⟨g', 1, none⟩) hg').trans h4, (hb.cell (p := ⟨g', 2, none⟩) hg').trans h5⟩

theorem blen_add_le {P Q k : Nat} (h1 : blen P ≤ k) (h2 : blen Q ≤ k) : blen (P + Q) ≤ k + 1 := by
  refine blen_le_of _ _ ?_
  have e1 := Nat.lt_of_lt_of_le (lt_blen P) (Nat.pow_le_pow_right (n := 2) (by omega) h1)
  have e2 := Nat.lt_of_lt_of_le (lt_blen Q) (Nat.pow_le_pow_right (n := 2) (by omega) h2)
  rw [Nat.pow_succ]; omega
theorem shifted_int (A : Option Addr) (n c k : Nat) (z : Int) (l : List Nat) (w : World) (h : SL w A n c l) (hn : n ≤ 256) (hz : z = (k : Int)) (hk : k ≤ 65536) (hs : (digs (val l * 2 ^ k)).length ≤ 256) :
    Calls Tryz.prog 157 #[.slice A n c, .int .i64 z] w (RetS (digs (val l * 2 ^ k)) w) := by
  subst hz; exact shifted_ok A n c k l w h hn hk hs
theorem keep4 {B g g' : Nat} {W W' : World} {b c b' c' : Value} (hb : Below B W W') (hg : g < B) (hg' : g' < B) (h : W.cell? ⟨g, 1, none⟩ = some b ∧ W.cell? ⟨g, 2, none⟩ = some c ∧ W.cell? ⟨g', 1, none⟩ = some b' ∧ W.cell? ⟨g', 2, none⟩ = some c') :
    W'.cell? ⟨g, 1, none⟩ = some b ∧ W'.cell? ⟨g, 2, none⟩ = some c ∧ W'.cell? ⟨g', 1, none⟩ = some b' ∧ W'.cell? ⟨g', 2, none⟩ = some c' := by
  obtain ⟨h0, h1, h2, h3⟩ := h
  exact ⟨(hb.cell (p := ⟨g, 1, none⟩) hg).trans h0, (hb.cell (p := ⟨g, 2, none⟩) hg).trans h1, (hb.cell (p := ⟨g', 1, none⟩) hg').trans h2, (hb.cell (p := ⟨g', 2, none⟩) hg').trans h3⟩

set_option maxRecDepth 100000 in
set_option maxHeartbeats 4000000 in
theorem sum_early_any (neg neg' : Bool) (A B : Option Addr) (n c m d : Nat) (l l' : List Nat) (x x' mn : Int) (w : World) (h : SL w A n c l) (h' : SL w B m d l') (ht : Tabs w)
    (hv : vld ⟨neg, l, x⟩ = true) (hv' : vld ⟨neg', l', x'⟩ = true) (hne : n ≠ 0) (hne' : m ≠ 0) (hmn : min x x' = mn) (he : 4097 < max ((blen (val l) : Int) + x) ((blen (val l') : Int) + x') - mn ∧ (1 < ((blen (val l) : Int) + x) - ((blen (val l') : Int) + x') ∨ 1 < ((blen (val l') : Int) + x') - ((blen (val l) : Int) + x))) :
    Calls Tryz.prog 98 #[.agg #[.bool neg, .slice A n c, .int .i64 x], .agg #[.bool neg', .slice B m d, .int .i64 x']] w (RetE zeroD 9 w) := by
  obtain ⟨b1, b2, b3, b4, b5, b6, b7⟩ := vld_bounds hv ((ne_nil_iff h).2 hne)
  obtain ⟨b1', b2', b3', b4', b5', b6', b7'⟩ := vld_bounds hv' ((ne_nil_iff h').2 hne')
  have hn256 : n ≤ 256 := by rw [← h.len]; exact b1
  have hm256 : m ≤ 256 := by rw [← h'.len]; exact b1'
  have B2 := Lib.hid b2
  have B2' := Lib.hid b2'
  have B3 := Lib.hid b3
  have B3' := Lib.hid b3'
  have TT : Hid (topD ⟨neg, l, x⟩ = (blen (val l) : Int) + x) := by unfold Hid topD; rw [if_pos ⟨hv, (ne_nil_iff h).2 hne⟩]
  have TT' : Hid (topD ⟨neg', l', x'⟩ = (blen (val l') : Int) + x') := by unfold Hid topD; rw [if_pos ⟨hv', (ne_nil_iff h').2 hne'⟩]
  have n0 : ((n : Int) == 0) = false := by simp; omega
  have m0 : ((m : Int) == 0) = false := by simp; omega
  have hm1 : mn ≤ x := by omega
  have hm2 : mn ≤ x' := by omega
  have hm3 : mn = x ∨ mn = x' := by omega
  simp only at b4 b5 b6 b7 b4' b5' b6' b7'
  have hm4 : -16384 ≤ mn := by omega
  have HM3 := Lib.hid hm3
  have HMN := Lib.hid hmn
  have HV := Lib.hid hv
  have HV' := Lib.hid hv'
  clear b1 b1' b2 b2' b3 b3' hmn hv hv' hm3
  go_enter Tryz.func98, Tryz.ntmps98
  go_wp2_with fail
  rw [HMN.out]
  obtain ⟨k1, k2, k3, k4, k5⟩ := box3 w 25 #[.bool neg, .slice A n c, .int .i64 x] #[.bool neg', .slice B m d, .int .i64 x'] #[.bool false, .slice none 0 0, .int .i64 0]
  have h1 := h.below k5
  have h1' := h'.below k5
  have HT := Lib.hid (ht.next k5)
  have HG0 := Lib.hid ht.lt
  clear ht
  generalize ((w.alloc (.cells #[.bool neg, .slice A n c, .int .i64 x] 25)).alloc (.cells #[.bool neg', .slice B m d, .int .i64 x'] 25)).alloc (.cells #[.bool false, .slice none 0 0, .int .i64 0] 25) = W0 at *
  obtain ⟨s0, s1, s2⟩ := k1.cells3
  obtain ⟨t0, t1, t2⟩ := k2.cells3
  have hz : w.heap.size + 3 ≤ W0.heap.size := by omega
  clear k4
  go_region_held3 (fun W => W.cell? ⟨w.heap.size, 0, none⟩ = some (.bool neg) ∧ W.cell? ⟨w.heap.size, 1, none⟩ = some (.slice A n c) ∧ W.cell? ⟨w.heap.size, 2, none⟩ = some (.int .i64 x) ∧ W.cell? ⟨w.heap.size + 1, 0, none⟩ = some (.bool neg') ∧ W.cell? ⟨w.heap.size + 1, 1, none⟩ = some (.slice B m d) ∧ W.cell? ⟨w.heap.size + 1, 2, none⟩ = some (.int .i64 x'))
    (first | exact ⟨s0, s1, s2, t0, t1, t2⟩ | exact keep6 hbA (by simp; omega) (by simp; omega) ⟨s0, s1, s2, t0, t1, t2⟩ | exact keep6 (bnext hbA hbB) (by simp; omega) (by simp; omega) ⟨s0, s1, s2, t0, t1, t2⟩)
    (first
      | (go_at_call 156; (with_reducible refine (topD_any neg A n c l x _ h1.drew (by omega)).mono ?_); rintro e wA ⟨rfl, hbA⟩)
      | (go_at_call 156; (with_reducible refine (topD_any neg' B m d l' x' _ (h1'.drew.below hbA) (by omega)).mono ?_); rintro e wB ⟨rfl, hbB⟩))
  rw [TT.out, TT'.out]
  have hbAB := bnext hbA hbB
  have k1B := k1.drew.below hbAB (by simp; omega)
  have k2B := k2.drew.below hbAB (by simp; omega)
  have k3B := k3.drew.below hbAB (by simp; omega)
  have hbw : Below w.heap.size w wB := bnext (below_drewN k5 1) hbAB
  have h2 := h1.drew.below hbAB
  have h2' := h1'.drew.below hbAB
  have HTB := Lib.hid ((show Tabs W0.drew from HT.out).next hbAB)
  have hzB : w.heap.size + 3 ≤ wB.heap.size := by have := hbAB.size; simp at this; omega
  clear k1 k2 k3 k5 h1 h1' s0 s1 s2 t0 t1 t2 HT hbA hbB hbAB hz TT TT' HV HV'
  obtain ⟨s0, s1, s2⟩ := k1B.cells3
  obtain ⟨t0, t1, t2⟩ := k2B.cells3
  obtain ⟨r0, r1, r2⟩ := k3B.cells3
  have f0 := k3B.frozen 0
  have f1 := k3B.frozen 1
  have f2 := k3B.frozen 2
  have HN1 : Hid (blen (val l) = blen (val l)) := rfl
  generalize hN1 : blen (val l) = N1 at *
  generalize hN2 : blen (val l') = N2 at *
  have HBN1 := Lib.hid hN1
  have HBN2 := Lib.hid hN2
  clear hN1 hN2 HN1
  have hmx1 : max ((N1 : Int) + x) ((N2 : Int) + x') ≤ 40000 := by omega
  have hmx2 : -40000 ≤ max ((N1 : Int) + x) ((N2 : Int) + x') := by omega
  obtain ⟨he1, he2⟩ := he
  have hd1 : decide (4097 < max ((N1 : Int) + x) ((N2 : Int) + x') - mn) = true := decide_eq_true he1
  rcases he2 with he2 | he2
  · go_wp2_with fail
    refine bodyPost_ret (resDE Tryz.results98 rfl (k3B.set3 _ _ _)) rfl ?_
    exact ⟨none, 0, 0, rfl, SL.nil _, Fresh.zero, below_set3 hbw (by omega) _ _ _⟩
  · by_cases he3 : 1 < ((N1 : Int) + x) - ((N2 : Int) + x')
    · omega
    · go_wp2_with fail
      refine bodyPost_ret (resDE Tryz.results98 rfl (k3B.set3 _ _ _)) rfl ?_
      exact ⟨none, 0, 0, rfl, SL.nil _, Fresh.zero, below_set3 hbw (by omega) _ _ _⟩

set_option maxRecDepth 100000 in
set_option maxHeartbeats 4000000 in
theorem sum_same_a (neg neg' : Bool) (A B : Option Addr) (n c m d : Nat) (l l' : List Nat) (x x' mn : Int) (w : World) (h : SL w A n c l) (h' : SL w B m d l') (ht : Tabs w)
    (hv : vld ⟨neg, l, x⟩ = true) (hv' : vld ⟨neg', l', x'⟩ = true) (hne : n ≠ 0) (hne' : m ≠ 0) (hmn : min x x' = mn) (he : ¬ 4097 < max ((blen (val l) : Int) + x) ((blen (val l') : Int) + x') - mn) (hsg : neg = neg') :
    Calls Tryz.prog 98 #[.agg #[.bool neg, .slice A n c, .int .i64 x], .agg #[.bool neg', .slice B m d, .int .i64 x']] w (RetE (sumV neg neg' (val l * 2 ^ (x - mn).toNat) (val l' * 2 ^ (x' - mn).toNat) mn).1 (sumV neg neg' (val l * 2 ^ (x - mn).toNat) (val l' * 2 ^ (x' - mn).toNat) mn).2 w) := by
  have HSG := Lib.hid hsg
  clear hsg
  obtain ⟨b1, b2, b3, b4, b5, b6, b7⟩ := vld_bounds hv ((ne_nil_iff h).2 hne)
  obtain ⟨b1', b2', b3', b4', b5', b6', b7'⟩ := vld_bounds hv' ((ne_nil_iff h').2 hne')
  have hn256 : n ≤ 256 := by rw [← h.len]; exact b1
  have hm256 : m ≤ 256 := by rw [← h'.len]; exact b1'
  have B2 := Lib.hid b2
  have B2' := Lib.hid b2'
  have B3 := Lib.hid b3
  have B3' := Lib.hid b3'
  have TT : Hid (topD ⟨neg, l, x⟩ = (blen (val l) : Int) + x) := by unfold Hid topD; rw [if_pos ⟨hv, (ne_nil_iff h).2 hne⟩]
  have TT' : Hid (topD ⟨neg', l', x'⟩ = (blen (val l') : Int) + x') := by unfold Hid topD; rw [if_pos ⟨hv', (ne_nil_iff h').2 hne'⟩]
  have n0 : ((n : Int) == 0) = false := by simp; omega
  have m0 : ((m : Int) == 0) = false := by simp; omega
  have hm1 : mn ≤ x := by omega
  have hm2 : mn ≤ x' := by omega
  have hm3 : mn = x ∨ mn = x' := by omega
  simp only at b4 b5 b6 b7 b4' b5' b6' b7'
  have hm4 : -16384 ≤ mn := by omega
  have HM3 := Lib.hid hm3
  have HMN := Lib.hid hmn
  have HV := Lib.hid hv
  have HV' := Lib.hid hv'
  clear b1 b1' b2 b2' b3 b3' hmn hv hv' hm3
  go_enter Tryz.func98, Tryz.ntmps98
  go_wp2_with fail
  rw [HMN.out]
  obtain ⟨k1, k2, k3, k4, k5⟩ := box3 w 25 #[.bool neg, .slice A n c, .int .i64 x] #[.bool neg', .slice B m d, .int .i64 x'] #[.bool false, .slice none 0 0, .int .i64 0]
  have h1 := h.below k5
  have h1' := h'.below k5
  have HT := Lib.hid (ht.next k5)
  have HG0 := Lib.hid ht.lt
  clear ht
  generalize ((w.alloc (.cells #[.bool neg, .slice A n c, .int .i64 x] 25)).alloc (.cells #[.bool neg', .slice B m d, .int .i64 x'] 25)).alloc (.cells #[.bool false, .slice none 0 0, .int .i64 0] 25) = W0 at *
  obtain ⟨s0, s1, s2⟩ := k1.cells3
  obtain ⟨t0, t1, t2⟩ := k2.cells3
  have hz : w.heap.size + 3 ≤ W0.heap.size := by omega
  clear k4
  go_region_held3 (fun W => W.cell? ⟨w.heap.size, 0, none⟩ = some (.bool neg) ∧ W.cell? ⟨w.heap.size, 1, none⟩ = some (.slice A n c) ∧ W.cell? ⟨w.heap.size, 2, none⟩ = some (.int .i64 x) ∧ W.cell? ⟨w.heap.size + 1, 0, none⟩ = some (.bool neg') ∧ W.cell? ⟨w.heap.size + 1, 1, none⟩ = some (.slice B m d) ∧ W.cell? ⟨w.heap.size + 1, 2, none⟩ = some (.int .i64 x'))
    (first | exact ⟨s0, s1, s2, t0, t1, t2⟩ | exact keep6 hbA (by simp; omega) (by simp; omega) ⟨s0, s1, s2, t0, t1, t2⟩ | exact keep6 (bnext hbA hbB) (by simp; omega) (by simp; omega) ⟨s0, s1, s2, t0, t1, t2⟩)
    (first
      | (go_at_call 156; (with_reducible refine (topD_any neg A n c l x _ h1.drew (by omega)).mono ?_); rintro e wA ⟨rfl, hbA⟩)
      | (go_at_call 156; (with_reducible refine (topD_any neg' B m d l' x' _ (h1'.drew.below hbA) (by omega)).mono ?_); rintro e wB ⟨rfl, hbB⟩))
  rw [TT.out, TT'.out]
  have hbAB := bnext hbA hbB
  have k1B := k1.drew.below hbAB (by simp; omega)
  have k2B := k2.drew.below hbAB (by simp; omega)
  have k3B := k3.drew.below hbAB (by simp; omega)
  have hbw : Below w.heap.size w wB := bnext (below_drewN k5 1) hbAB
  have h2 := h1.drew.below hbAB
  have h2' := h1'.drew.below hbAB
  have HTB := Lib.hid ((show Tabs W0.drew from HT.out).next hbAB)
  have hzB : w.heap.size + 3 ≤ wB.heap.size := by have := hbAB.size; simp at this; omega
  clear k1 k2 k3 k5 h1 h1' s0 s1 s2 t0 t1 t2 HT hbA hbB hbAB hz TT TT' HV HV'
  obtain ⟨s0, s1, s2⟩ := k1B.cells3
  obtain ⟨t0, t1, t2⟩ := k2B.cells3
  obtain ⟨r0, r1, r2⟩ := k3B.cells3
  have f0 := k3B.frozen 0
  have f1 := k3B.frozen 1
  have f2 := k3B.frozen 2
  have HN1 : Hid (blen (val l) = blen (val l)) := rfl
  generalize hN1 : blen (val l) = N1 at *
  generalize hN2 : blen (val l') = N2 at *
  have HBN1 := Lib.hid hN1
  have HBN2 := Lib.hid hN2
  clear hN1 hN2 HN1
  have hmx1 : max ((N1 : Int) + x) ((N2 : Int) + x') ≤ 40000 := by omega
  have hmx2 : -40000 ≤ max ((N1 : Int) + x) ((N2 : Int) + x') := by omega
  have hd1 : decide (4097 < max ((N1 : Int) + x) ((N2 : Int) + x') - mn) = false := decide_eq_false (by omega)
  have q1e : ∃ q1 : Nat, x - mn = (q1 : Int) := ⟨(x - mn).toNat, by omega⟩
  have q2e : ∃ q2 : Nat, x' - mn = (q2 : Int) := ⟨(x' - mn).toNat, by omega⟩
  obtain ⟨q1, hq1⟩ := q1e
  obtain ⟨q2, hq2⟩ := q2e
  have hm3 := HM3.out
  have hT1 : N1 + q1 ≤ 4097 := by omega
  have hT2 : N2 + q2 ≤ 4097 := by omega
  have hq1b : q1 ≤ 65536 := by omega
  have hq2b : q2 ≤ 65536 := by omega
  have P1 : 0 < val l := by have := B3.out; omega
  have P2 : 0 < val l' := by have := B3'.out; omega
  have L1 : Hid (blen (val l * 2 ^ q1) = N1 + q1) := by unfold Hid; rw [blen_mul_pow _ _ P1, HBN1.out]
  have L2 : Hid (blen (val l' * 2 ^ q2) = N2 + q2) := by unfold Hid; rw [blen_mul_pow _ _ P2, HBN2.out]
  have D1 : Hid ((digs (val l * 2 ^ q1)).length ≤ 256) := Nat.le_trans (digs_len_blen _ 129 (by rw [L1.out]; omega)) (by omega)
  have D2 : Hid ((digs (val l' * 2 ^ q2)).length ≤ 256) := Nat.le_trans (digs_len_blen _ 129 (by rw [L2.out]; omega)) (by omega)
  have W1 : IntKind.i64.wrap (x - mn) = (q1 : Int) := by rw [hq1]; exact IntWalk.i64_in _ (by omega)
  have W2 : IntKind.i64.wrap (x' - mn) = (q2 : Int) := by rw [hq2]; exact IntWalk.i64_in _ (by omega)
  have E1 : Hid ((x - mn).toNat = q1) := by unfold Hid; omega
  have E2 : Hid ((x' - mn).toNat = q2) := by unfold Hid; omega
  clear hm3 hq1 hq2 P1 P2
  go_wp2_with fail
  go_region_held3 (fun W => W.cell? ⟨w.heap.size, 1, none⟩ = some (.slice A n c) ∧ W.cell? ⟨w.heap.size, 2, none⟩ = some (.int .i64 x) ∧ W.cell? ⟨w.heap.size + 1, 1, none⟩ = some (.slice B m d) ∧ W.cell? ⟨w.heap.size + 1, 2, none⟩ = some (.int .i64 x'))
    (first | exact ⟨s1, s2, t1, t2⟩ | exact keep4 hbC (by simp; omega) (by simp; omega) ⟨s1, s2, t1, t2⟩ | exact keep4 (bnext hbC hbD) (by simp; omega) (by simp; omega) ⟨s1, s2, t1, t2⟩)
    (first
      | (go_at_call 157; (with_reducible refine (shifted_int A n c q1 _ l _ h2.drew hn256 rfl hq1b D1.out).mono ?_); rintro e wC ⟨AC, nC, cC, rfl, hsC, hfC, hbC⟩)
      | (go_at_call 157; (with_reducible refine (shifted_int B m d q2 _ l' _ (h2'.drew.below hbC) hm256 rfl hq2b D2.out).mono ?_); rintro e wD ⟨AD, nD, cD, rfl, hsD, hfD, hbD⟩))
  have hbCD := bnext hbC hbD
  have k1D := k1B.drew.below hbCD (by simp; omega)
  have k2D := k2B.drew.below hbCD (by simp; omega)
  have k3D := k3B.drew.below hbCD (by simp; omega)
  have hbwD : Below w.heap.size w wD := bnext (below_drewN hbw 1) hbCD
  have hsC2 := hsC.below hbD
  have HTD := Lib.hid ((show Tabs wB.drew from HTB.out).next hbCD)
  have hzD : w.heap.size + 3 ≤ wD.heap.size := by have := hbCD.size; simp at this; omega
  have hsz1 := hbC.size
  simp at hsz1
  have FC : Hid (Fresh (w.heap.size + 1) AC nC) := hfC.mono (by simp; omega)
  have FD : Hid (Fresh (w.heap.size + 1) AD nD) := hfD.mono (by omega)
  clear hsz1
  have hnC : nC ≤ 129 := by rw [← hsC.len]; exact digs_len_blen _ 129 (by rw [L1.out]; omega)
  have hnD : nD ≤ 129 := by rw [← hsD.len]; exact digs_len_blen _ 129 (by rw [L2.out]; omega)
  clear k1B k2B k3B h2 h2' HTB hbC hbD hbCD hsC hfC hfD hzB W1 W2 D1 D2 s0 s1 s2 t0 t1 t2 r0 r1 r2 f0 f1 f2 hbw
  obtain ⟨s0, s1, s2⟩ := k1D.cells3
  obtain ⟨t0, t1, t2⟩ := k2D.cells3
  obtain ⟨r0, r1, r2⟩ := k3D.cells3
  have f0 := k3D.frozen 0
  have f1 := k3D.frozen 1
  have f2 := k3D.frozen 2
  have hsb : (neg == neg') = true := by rw [HSG.out]; simp
  have HLE : Hid ((digs (val l * 2 ^ q1 + val l' * 2 ^ q2)).length ≤ 256) := Nat.le_trans (digs_len_blen _ 129 (Nat.le_trans (blen_add_le (k := 4097) (by rw [L1.out]; exact hT1) (by rw [L2.out]; exact hT2)) (by omega))) (by omega)
  go_wp2_with fail
  refine (Add_ok AC AD nC cC nD cD _ _ _ hsC2 hsD (by omega) (by omega) (by rw [val_digs, val_digs]; exact HLE.out)).mono ?_
  rintro e wE ⟨AE, nE, cE, rfl, hsE, hfE, hbE⟩
  rw [val_digs, val_digs] at hsE
  have hbwE := bnext hbwD hbE
  have k1E := k1D.below hbE (by omega)
  have k3E := k3D.below hbE (by omega)
  have HTE := Lib.hid (HTD.out.next hbE)
  have hzE : w.heap.size + 3 ≤ wE.heap.size := by have := hbE.size; omega
  have SV : Hid (sumV neg neg' (val l * 2 ^ (x - mn).toNat) (val l' * 2 ^ (x' - mn).toNat) mn = checkD neg (val l * 2 ^ q1 + val l' * 2 ^ q2) mn) := by unfold Hid; rw [E1.out, E2.out]; rw [sumV, if_pos HSG.out]
  generalize sumV neg neg' (val l * 2 ^ (x - mn).toNat) (val l' * 2 ^ (x' - mn).toNat) mn = r at *
  generalize val l * 2 ^ q1 + val l' * 2 ^ q2 = V at *
  clear k1D k2D k3D HTD hzD hsC2 hsD hbE s0 s1 s2 t0 t1 t2 r0 r1 r2 f0 f1 f2 hbwD
  obtain ⟨s0, s1, s2⟩ := k1E.cells3
  obtain ⟨r0, r1, r2⟩ := k3E.cells3
  have hnE : nE ≤ 256 := by rw [← hsE.len]; exact HLE.out
  go_wp2_with fail
  refine (canonical_any neg AE nE cE _ mn _ hsE hnE (by omega) (by omega) HTE.out).mono ?_
  rintro e wF ⟨AF, nF, cF, rfl, hsF, hfF, hbF⟩
  rw [val_digs] at hsF ⊢
  have hnF : nF ≤ 256 := by
    rw [← hsF.len]
    unfold canonD
    split
    · simp [zeroD]
    · exact len256 (limbs_digs V) HLE.out (by rw [val_digs]; exact Nat.div_le_self _ _)
  have HD : Hid (checkD neg V mn = if inR (val (canonD neg V mn).l) (canonD neg V mn).e = true then (canonD neg V mn, 0) else (zeroD, 9)) := rfl
  have hrd : r = if inR (val (canonD neg V mn).l) (canonD neg V mn).e = true then (canonD neg V mn, 0) else (zeroD, 9) := by rw [SV.out, HD.out]
  have HRD := Lib.hid hrd
  clear hrd HD SV
  generalize canonD neg V mn = dd at *
  by_cases hr : inR (val dd.l) dd.e = true
  · have hrr : r = (dd, 0) := by rw [HRD.out, if_pos hr]
    subst hrr
    go_wp2_with fail
    refine (checked_ok dd.neg AF nF cF dd.l dd.e _ hsF (by omega) hr).mono ?_
    rintro e wG ⟨rfl, hbG⟩
    have hbFG := bnext hbF hbG
    have k3G := k3E.below hbFG (by omega)
    obtain ⟨v0, v1, v2⟩ := k3G.cells3
    have g0 := k3G.frozen 0
    have g1 := k3G.frozen 1
    have g2 := k3G.frozen 2
    have hzG : w.heap.size + 3 ≤ wG.heap.size := by have := hbFG.size; omega
    clear hr HRD
    go_wp2_with fail
    refine bodyPost_ret (resDE Tryz.results98 rfl (k3G.set3 _ _ _)) rfl ?_
    have hsG := hsF.below hbG
    have hlt : w.heap.size + 1 + 1 < wE.heap.size := by omega
    exact ⟨AF, nF, cF, rfl, (((hsG.far hfF hlt 0 _).far hfF hlt 1 _).far hfF hlt 2 _), hfF.mono (by omega), below_set3 (bnext hbwE hbFG) (by omega) _ _ _⟩
  · have hrr : r = (zeroD, 9) := by rw [HRD.out, if_neg hr]
    subst hrr
    go_wp2_with fail
    refine (checked_big dd.neg AF nF cF dd.l dd.e _ hsF (by omega) (by simpa using hr)).mono ?_
    rintro e wG ⟨rfl, hbG⟩
    have hbFG := bnext hbF hbG
    have k3G := k3E.below hbFG (by omega)
    obtain ⟨v0, v1, v2⟩ := k3G.cells3
    have g0 := k3G.frozen 0
    have g1 := k3G.frozen 1
    have g2 := k3G.frozen 2
    have hzG : w.heap.size + 3 ≤ wG.heap.size := by have := hbFG.size; omega
    clear hr HRD
    go_wp2_with fail
    refine bodyPost_ret (resDE Tryz.results98 rfl (k3G.set3 _ _ _)) rfl ?_
    exact ⟨none, 0, 0, rfl, SL.nil _, Fresh.zero, below_set3 (bnext hbwE hbFG) (by omega) _ _ _⟩


end Go.Proofs.YtekajoifgdpmlaaGreatDoor
