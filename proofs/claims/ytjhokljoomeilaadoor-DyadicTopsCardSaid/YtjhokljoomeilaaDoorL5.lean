/- The law DyadicTops: its walk. -/
import Derived.Test.YtjhokljoomeilaaDoorE1
import Derived.Test.YtjhokljoomeilaaDoorM5
namespace Go.Proofs.YtjhokljoomeilaaDoor
open Go.RowKit Pl Go.Shelf

set_option maxHeartbeats 4000000 in
theorem ltops_any (neg : Bool) (A : Option Addr) (n c : Nat) (l : List Nat) (x : Int) (w : World) (h : SL w A n c l) (ht : Tabs w) :
    Calls Tryd.prog 5 #[.agg #[.bool neg, .slice A n c, .int .i64 x]] w fun e w' => e = .returned (.bool true) ∧ Below w.heap.size w w' := by
  have hb0 := ballo w (.cells #[.bool neg, .slice A n c, .int .i64 x] 27)
  have HT := Lib.hid (ht.next hb0)
  have k0 := Blk.new w 27 #[.bool neg, .slice A n c, .int .i64 x]
  clear ht
  go_enter Tryd.func5, Tryd.ntmps5
  go_wp2_with fail
  generalize w.alloc (.cells #[.bool neg, .slice A n c, .int .i64 x] 27) = W0 at *
  refine (awake_any _ HT.out).mono ?_
  rintro e w1 ⟨rfl, hb1⟩
  have k1 := k0.below hb1 k0.lt
  obtain ⟨s0, s1, s2⟩ := k1.cells3
  have kL := Blk.new w1 27 #[.bool neg, .slice A n c, .int .i64 x]
  have hb1a := ballo w1 (.cells #[.bool neg, .slice A n c, .int .i64 x] 27)
  go_wp2_with fail
  refine (dlong_one _ neg A n c x _ _ kL).mono ?_
  rintro e w2 ⟨rfl, hb2⟩
  have hbw := bnext hb0 (bnext hb1 (bnext hb1a hb2))
  have HT2 := Lib.hid (HT.out.next (bnext hb1 (bnext hb1a hb2)))
  by_cases hn : 300 < n
  · rw [show decide (300 < n) = true from decide_eq_true hn]
    go_wp2_with fail
    refine (awake_any _ HT2.out).mono ?_
    rintro e w3 ⟨rfl, hb3⟩
    go_wp2_with fail
    go_ret
    exact ⟨rfl, bnext hbw hb3⟩
  rw [show decide (300 < n) = false from decide_eq_false hn]
  have h2 := h.below hbw
  have k2 := k1.below (bnext hb1a hb2) k1.lt
  clear s0 s1 s2 kL HT k0 k1 hb0 hb1 hb1a hb2
  obtain ⟨s0, s1, s2⟩ := k2.cells3
  go_wp2_with fail
  refine (rvalid_any neg A n c l x _ h2 (by omega)).mono ?_
  rintro e w3 ⟨rfl, hb3⟩
  have hbw3 := bnext hbw hb3
  have HT3 := Lib.hid (HT2.out.next hb3)
  have h3 := h2.below hb3
  have k3 := k2.below hb3 k2.lt
  clear s0 s1 s2 HT2 h2 k2 hb3 hbw
  obtain ⟨s0, s1, s2⟩ := k3.cells3
  cases hv : vld ⟨neg, l, x⟩
  · go_wp2_with fail
    refine (awake_any _ HT3.out).mono ?_
    rintro e w4 ⟨rfl, hb4⟩
    go_wp2_with fail
    go_ret
    exact ⟨rfl, bnext hbw3 hb4⟩
  by_cases h0 : n = 0
  · subst h0
    clear hv
    go_wp2_with fail
    refine (awake_any _ HT3.out).mono ?_
    rintro e w4 ⟨rfl, hb4⟩
    go_wp2_with fail
    go_ret
    exact ⟨rfl, bnext hbw3 hb4⟩
  have h0' : ((n : Int) == 0) = false := by simp; omega
  obtain ⟨e1, e2, e3, b1, b2⟩ := tops_law hv ((ne_nil_iff h).2 h0)
  have HAD := Lib.hid (abs_ne hv ((ne_nil_iff h).2 h0))
  rw [HAD.out] at e2 e3
  have E1 := Lib.hid e1
  have E2 := Lib.hid e2
  have E3 := Lib.hid e3
  clear hv e1 e2 e3
  go_wp2_with fail
  refine (topD_any neg A n c l x _ h3 (by omega)).mono ?_
  rintro e w4 ⟨rfl, hb4⟩
  generalize topD ⟨neg, l, x⟩ = t at *
  have hbw4 := bnext hbw3 hb4
  have HT4 := Lib.hid (HT3.out.next hb4)
  have h4 := h3.below hb4
  have k4 := k3.below hb4 k3.lt
  clear s0 s1 s2 HT3 h3 k3 hb4 hbw3
  have hb4a := ballo w4 (.cells #[.int .u32 1] 25)
  have hs4 := SL.oneAt w4 25 1 1 w4.heap.size rfl (by omega) rfl
  have HT4a := Lib.hid (HT4.out.next hb4a)
  have h4a := h4.below hb4a
  have k4a := k4.below hb4a k4.lt
  go_wp2_with fail
  generalize w4.alloc (.cells #[.int .u32 1] 25) = W4 at *
  refine (make_any false _ 1 1 [1] (t - 1) _ hs4 HT4a.out).mono ?_
  rw [E1.out]
  rintro e w5 ⟨A5, n5, c5, rfl, hs5, hf5, hb5⟩
  simp only [] at hs5
  have hn5 : n5 ≤ 1 := by rw [← hs5.len]; simp
  have hb5a := ballo w5 (.cells #[.bool false, .slice A5 n5 c5, .int .i64 (t - 1)] 27)
  have kl := Blk.new w5 27 #[.bool false, .slice A5 n5 c5, .int .i64 (t - 1)]
  have hb45 := bnext hb5 hb5a
  have hbw5 := bnext (bnext hbw4 hb4a) hb45
  have HT5 := Lib.hid (HT4a.out.next hb45)
  have h5 := h4a.below hb45
  have k5 := k4a.below hb45 k4a.lt
  have hs5a := hs5.below hb5a
  clear HT4 HT4a h4 h4a k4 k4a hs4 hb4a hb5 hb45 hbw4 hf5 E1
  go_wp2_with fail
  generalize w5.alloc (.cells #[.bool false, .slice A5 n5 c5, .int .i64 (t - 1)] 27) = W5 at *
  obtain ⟨s0, s1, s2⟩ := k5.cells3
  obtain ⟨t0, t1, t2⟩ := kl.cells3
  have hg0 : w.heap.size < W5.drew.heap.size := k5.lt
  have hg1 : w5.heap.size < W5.drew.heap.size := kl.lt
  obtain ⟨v, hvv⟩ : ∃ v, cmpD ⟨false, l, x⟩ ⟨false, [1], t - 1⟩ = v := ⟨_, rfl⟩
  have HVV := Lib.hid hvv
  have hv0 : decide (v < 0) = false := decide_eq_false (by have := E2.out; rw [hvv] at this; omega)
  clear hvv E2
  generalize w5.heap.size = g5 at *
  have hnl : l.length = n := h.len
  go_region_held3 (fun W => W.cell? ⟨w.heap.size, 0, none⟩ = some (.bool neg) ∧ W.cell? ⟨w.heap.size, 1, none⟩ = some (.slice A n c) ∧ W.cell? ⟨w.heap.size, 2, none⟩ = some (.int .i64 x) ∧ W.cell? ⟨g5, 0, none⟩ = some (.bool false) ∧ W.cell? ⟨g5, 1, none⟩ = some (.slice A5 n5 c5) ∧ W.cell? ⟨g5, 2, none⟩ = some (.int .i64 (t - 1)))
    (first | exact ⟨s0, s1, s2, t0, t1, t2⟩ | exact keep6 hbA hg0 hg1 ⟨s0, s1, s2, t0, t1, t2⟩ | exact keep6 (bnext hbA hbB) hg0 hg1 ⟨s0, s1, s2, t0, t1, t2⟩)
    (first
      | (go_at_call 19; (with_reducible refine (absD_any neg A n c l x _ h5.drew (by omega)).mono ?_); rw [HAD.out]; rintro e wA ⟨AA, nA, cA, rfl, hsA, hfA, hbA⟩; have hsA : SL wA AA nA cA l := hsA; have hnA : nA ≤ 1000000 := by rw [← hsA.len, hnl]; omega)
      | (go_at_call 29; (with_reducible refine (cmpD_any false false AA A5 nA cA n5 c5 l [1] x (t - 1) _ hsA (hs5a.drew.below hbA) (by omega) (by omega)).mono ?_); rw [HVV.out]; rintro e wB ⟨rfl, hbB⟩))
  have hbAB := bnext hbA hbB
  have hbw6 := bnext (below_drewN hbw5 1) hbAB
  have HT6 := Lib.hid ((show Tabs W5.drew from HT5.out).next hbAB)
  have h6 := h5.drew.below hbAB
  have k6 := k5.drew.below hbAB hg0
  clear hb5a hbAB hbA hbB hsA hfA hnA hs5 hs5a kl k5 h5 HT5 hbw5 s0 s1 s2 t0 t1 t2 hg0 hg1 HVV hv0
  have hb6a := ballo wB (.cells #[.int .u32 1] 25)
  have hs6 := SL.oneAt wB 25 1 1 wB.heap.size rfl (by omega) rfl
  have HT6a := Lib.hid (HT6.out.next hb6a)
  have h6a := h6.below hb6a
  have k6a := k6.below hb6a k6.lt
  go_wp2_with fail
  generalize wB.alloc (.cells #[.int .u32 1] 25) = W6 at *
  refine (make_any false _ 1 1 [1] t _ hs6 HT6a.out).mono ?_
  rcases E3.out with e3 | ⟨e3, e4⟩
  · rw [e3]
    rintro e w7 ⟨A7, n7, c7, rfl, hs7, hf7, hb7⟩
    have hb7a := ballo w7 (.cells #[.bool zeroD.neg, .slice A7 n7 c7, .int .i64 zeroD.e] 27)
    have hbw8 := bnext hbw6 (bnext hb6a (bnext hb7 hb7a))
    have k7 := k6a.below (bnext hb7 hb7a) k6a.lt
    obtain ⟨s0, s1, s2⟩ := k7.cells3
    go_wp2_with fail
    go_quiet (fail)
    go_wp2_with fail
    go_ret
    exact ⟨rfl, below_drewN hbw8 _⟩
  · rw [e3]
    have HE4 := Lib.hid e4
    clear e3 e4
    rintro e w7 ⟨A7, n7, c7, rfl, hs7, hf7, hb7⟩
    simp only [] at hs7
    have hn7 : n7 ≤ 1 := by rw [← hs7.len]; simp
    have hb7a := ballo w7 (.cells #[.bool false, .slice A7 n7 c7, .int .i64 t] 27)
    have kl := Blk.new w7 27 #[.bool false, .slice A7 n7 c7, .int .i64 t]
    have hbw8 := bnext hbw6 (bnext hb6a (bnext hb7 hb7a))
    have h8 := h6a.below (bnext hb7 hb7a)
    have k7 := k6a.below (bnext hb7 hb7a) k6a.lt
    have hs7a := hs7.below hb7a
    go_wp2_with fail
    generalize w7.alloc (.cells #[.bool false, .slice A7 n7 c7, .int .i64 t] 27) = W7 at *
    obtain ⟨s0, s1, s2⟩ := k7.cells3
    obtain ⟨t0, t1, t2⟩ := kl.cells3
    have hg0 : w.heap.size < W7.drew.heap.size := k7.lt
    have hg1 : w7.heap.size < W7.drew.heap.size := kl.lt
    generalize w7.heap.size = g7 at *
    go_region_held3 (fun W => W.cell? ⟨w.heap.size, 0, none⟩ = some (.bool neg) ∧ W.cell? ⟨w.heap.size, 1, none⟩ = some (.slice A n c) ∧ W.cell? ⟨w.heap.size, 2, none⟩ = some (.int .i64 x) ∧ W.cell? ⟨g7, 0, none⟩ = some (.bool false) ∧ W.cell? ⟨g7, 1, none⟩ = some (.slice A7 n7 c7) ∧ W.cell? ⟨g7, 2, none⟩ = some (.int .i64 t))
      (first | exact ⟨s0, s1, s2, t0, t1, t2⟩ | exact keep6 hbA hg0 hg1 ⟨s0, s1, s2, t0, t1, t2⟩ | exact keep6 (bnext hbA hbB) hg0 hg1 ⟨s0, s1, s2, t0, t1, t2⟩)
      (first
        | (go_at_call 19; (with_reducible refine (absD_any neg A n c l x _ h8.drew (by omega)).mono ?_); rw [HAD.out]; rintro e wA ⟨AA, nA, cA, rfl, hsA, hfA, hbA⟩; have hsA : SL wA AA nA cA l := hsA; have hnA : nA ≤ 1000000 := by rw [← hsA.len, hnl]; omega)
        | (go_at_call 29; (with_reducible refine (cmpD_any false false AA A7 nA cA n7 c7 l [1] x t _ hsA (hs7a.drew.below hbA) (by omega) (by omega)).mono ?_); rw [HE4.out]; rintro e wE ⟨rfl, hbB⟩))
    go_wp2_with fail
    go_ret
    exact ⟨rfl, bnext (below_drewN hbw8 1) (bnext hbA hbB)⟩

end Go.Proofs.YtjhokljoomeilaaDoor
