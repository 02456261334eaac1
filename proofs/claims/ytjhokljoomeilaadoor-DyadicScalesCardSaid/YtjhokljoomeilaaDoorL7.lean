/- The law DyadicScales: its walk. -/
import Derived.Test.YtjhokljoomeilaaDoorE1
import Derived.Test.YtjhokljoomeilaaDoorM7
namespace Go.Proofs.YtjhokljoomeilaaDoor
open Go.RowKit Pl Go.Shelf

theorem keep9 {B g g' g'' : Nat} {W W' : World} {a b c a' b' c' a'' b'' c'' : Value} (hb : Below B W W') (hg : g < B) (hg' : g' < B) (hg'' : g'' < B)
    (h : W.cell? ⟨g, 0, none⟩ = some a ∧ W.cell? ⟨g, 1, none⟩ = some b ∧ W.cell? ⟨g, 2, none⟩ = some c ∧ W.cell? ⟨g', 0, none⟩ = some a' ∧ W.cell? ⟨g', 1, none⟩ = some b' ∧ W.cell? ⟨g', 2, none⟩ = some c' ∧ W.cell? ⟨g'', 0, none⟩ = some a'' ∧ W.cell? ⟨g'', 1, none⟩ = some b'' ∧ W.cell? ⟨g'', 2, none⟩ = some c'') :
    W'.cell? ⟨g, 0, none⟩ = some a ∧ W'.cell? ⟨g, 1, none⟩ = some b ∧ W'.cell? ⟨g, 2, none⟩ = some c ∧ W'.cell? ⟨g', 0, none⟩ = some a' ∧ W'.cell? ⟨g', 1, none⟩ = some b' ∧ W'.cell? ⟨g', 2, none⟩ = some c' ∧ W'.cell? ⟨g'', 0, none⟩ = some a'' ∧ W'.cell? ⟨g'', 1, none⟩ = some b'' ∧ W'.cell? ⟨g'', 2, none⟩ = some c'' := by
  obtain ⟨h0, h1, h2, h3, h4, h5, h6, h7, h8⟩ := h
  exact ⟨(hb.cell (p := ⟨g, 0, none⟩) hg).trans h0, (hb.cell (p := ⟨g, 1, none⟩) hg).trans h1, (hb.cell (p := ⟨g, 2, none⟩) hg).trans h2, (hb.cell (p := ⟨g', 0, none⟩) hg').trans h3, (hb.cell (p := ⟨g', 1, none⟩) hg').trans h4, (hb.cell (p := ⟨g', 2, none⟩) hg').trans h5, (hb.cell (p := ⟨g'', 0, none⟩) hg'').trans h6, (hb.cell (p := ⟨g'', 1, none⟩) hg'').trans h7, (hb.cell (p := ⟨g'', 2, none⟩) hg'').trans h8⟩
theorem top_bound (d : Dy) : -40000 ≤ topD d ∧ topD d ≤ 40000 := by
  unfold topD
  split
  · rename_i h
    have := vld_bounds h.1 h.2
    omega
  · omega

set_option maxHeartbeats 8000000 in
theorem lscales_any (neg : Bool) (A : Option Addr) (n c : Nat) (l : List Nat) (x k : Int) (w : World) (h : SL w A n c l) (hk1 : -32768 ≤ k) (hk2 : k ≤ 32767) (ht : Tabs w) :
    Calls Tryd.prog 7 #[.agg #[.bool neg, .slice A n c, .int .i64 x], .int .i16 k] w fun e w' => e = .returned (.bool true) ∧ Below w.heap.size w w' := by
  have hb0 := ballo w (.cells #[.bool neg, .slice A n c, .int .i64 x] 27)
  have HT := Lib.hid (ht.next hb0)
  have k0 := Blk.new w 27 #[.bool neg, .slice A n c, .int .i64 x]
  clear ht
  go_enter Tryd.func7, Tryd.ntmps7
  go_wp2_with fail
  generalize w.alloc (.cells #[.bool neg, .slice A n c, .int .i64 x] 27) = W0 at *
  refine (awake_any _ HT.out).mono ?_
  rintro e w1 ⟨rfl, hb1⟩
  have k1 := k0.below hb1 k0.lt
  obtain ⟨s0, s1, s2⟩ := k1.cells3
  have kL := Blk.new w1 27 #[.bool neg, .slice A n c, .int .i64 x]
  have hb1a := ballo w1 (.cells #[.bool neg, .slice A n c, .int .i64 x] 27)
  go_wp2_with fail
  refine (dlong_one _ neg A n c x _ _ kL).mono ?_
  rintro e w2 ⟨rfl, hb2⟩
  have hbw := bnext hb0 (bnext hb1 (bnext hb1a hb2))
  have HT2 := Lib.hid (HT.out.next (bnext hb1 (bnext hb1a hb2)))
  by_cases hn : 300 < n
  · rw [show decide (300 < n) = true from decide_eq_true hn]
    go_wp2_with fail
    refine (awake_any _ HT2.out).mono ?_
    rintro e w3 ⟨rfl, hb3⟩
    go_wp2_with fail
    go_ret
    exact ⟨rfl, bnext hbw hb3⟩
  rw [show decide (300 < n) = false from decide_eq_false hn]
  have h2 := h.below hbw
  have k2 := k1.below (bnext hb1a hb2) k1.lt
  clear s0 s1 s2 kL HT k0 k1 hb0 hb1 hb1a hb2
  obtain ⟨s0, s1, s2⟩ := k2.cells3
  have hwk : IntKind.i64.wrap k = k := IntWalk.i64_in _ (by omega)
  have hwn : IntKind.i64.wrap (-k) = -k := IntWalk.i64_in _ (by omega)
  obtain ⟨⟨⟨dn, dl, de⟩, dk⟩, hsc⟩ : ∃ r, r = scaleD ⟨neg, l, x⟩ k := ⟨_, rfl⟩
  have HSC := Lib.hid hsc
  have hdk : dk = 0 ∨ dk = 1 ∨ dk = 9 := by have := @scale_err ⟨neg, l, x⟩ k; rw [← hsc] at this; exact this
  clear hsc
  go_wp2_with fail
  refine (scaleD_any neg A n c l x k _ h2 HT2.out (by omega)).mono ?_
  rw [← HSC.out]
  rintro e w3 ⟨A3, n3, c3, rfl, hs3, hf3, hb3⟩
  simp only [] at hs3
  have hb3a := ballo w3 (.cells #[.bool dn, .slice A3 n3 c3, .int .i64 de] 27)
  have kx := Blk.new w3 27 #[.bool dn, .slice A3 n3 c3, .int .i64 de]
  have hb23 := bnext hb3 hb3a
  have hbw3 := bnext hbw hb23
  have HT3 := Lib.hid (HT2.out.next hb23)
  have h3 := h2.below hb23
  have k3 := k2.below hb23 k2.lt
  have hs3a := hs3.below hb3a
  clear s0 s1 s2 HT2 h2 k2 hb3 hb23 hbw hf3 hs3
  by_cases hd0 : dk = 0
  · subst hd0
    obtain ⟨l1, l2, l3, l4, l5⟩ := scales_law h.lt hk1 hk2 HSC.out.symm
    have HL2 := Lib.hid l2
    have HL3 := Lib.hid l3
    have HBT := Lib.hid l4
    have HMU := Lib.hid l5
    have hn3b : n3 ≤ 1000000 := by
      rw [← hs3a.len]
      by_cases hd2 : vld ⟨dn, dl, de⟩ = true
      · by_cases hnl : dl = []
        · simp [hnl]
        · have := (vld_bounds hd2 hnl).1
          simp only at this
          omega
      · unfold scaleD at l2
        rw [if_neg (fun hh => hd2 hh.1)] at l2
        simp at l2
    clear l1 l2 l3 l4 l5 hdk
    obtain ⟨t0, t1, t2⟩ := kx.cells3
    go_wp2_with fail
    generalize w3.alloc (.cells #[.bool dn, .slice A3 n3 c3, .int .i64 de] 27) = W3 at *
    refine (scaleD_any dn A3 n3 c3 dl de (-k) _ hs3a HT3.out hn3b).mono ?_
    rw [HL2.out]
    rintro e w4 ⟨A4, n4, c4, rfl, hs4, hf4, hb4⟩
    simp only [] at hs4
    have hb4a := ballo w4 (.cells #[.bool neg, .slice A4 n4 c4, .int .i64 x] 27)
    have k5y := Blk.new w4 27 #[.bool neg, .slice A4 n4 c4, .int .i64 x]
    have hb34 := bnext hb4 hb4a
    have hbw5 := bnext hbw3 hb34
    have HT5 := Lib.hid (HT3.out.next hb34)
    have h5 := h3.below hb34
    have h5x := hs3a.below hb34
    have h5y := hs4.below hb4a
    have k5 := k3.below hb34 k3.lt
    have k5x := kx.below hb34 kx.lt
    clear t0 t1 t2 HT3 h3 hs3a k3 kx hb4 hb34 hbw3 hf4 hs4 HL2
    go_wp2_with fail
    generalize w4.alloc (.cells #[.bool neg, .slice A4 n4 c4, .int .i64 x] 27) = W5 at *
    generalize w3.heap.size = gx at *
    generalize w4.heap.size = gy at *
    obtain ⟨s0, s1, s2⟩ := k5.cells3
    obtain ⟨t0, t1, t2⟩ := k5x.cells3
    obtain ⟨r0, r1, r2⟩ := k5y.cells3
    have hg0 : w.heap.size < W5.drew.heap.size := k5.lt
    have hg1 : gx < W5.drew.heap.size := k5x.lt
    have hg2 : gy < W5.drew.heap.size := k5y.lt
    by_cases h0 : n = 0
    · subst h0
      have z1 : decide ((0 : Int) < ((0 : Nat) : Int)) = false := rfl
      have z2 : decide ((0 : Int) < 0) = false := rfl
      have z3 : decide (0 < 0) = false := rfl
      have HK : Hid (∀ V, Below W5.heap.size W5 V → (fun W => W.cell? ⟨w.heap.size, 0, none⟩ = some (.bool neg) ∧ W.cell? ⟨w.heap.size, 1, none⟩ = some (.slice A 0 c) ∧ W.cell? ⟨w.heap.size, 2, none⟩ = some (.int .i64 x) ∧ W.cell? ⟨gx, 0, none⟩ = some (.bool dn) ∧ W.cell? ⟨gx, 1, none⟩ = some (.slice A3 n3 c3) ∧ W.cell? ⟨gx, 2, none⟩ = some (.int .i64 de) ∧ W.cell? ⟨gy, 0, none⟩ = some (.bool neg) ∧ W.cell? ⟨gy, 1, none⟩ = some (.slice A4 n4 c4) ∧ W.cell? ⟨gy, 2, none⟩ = some (.int .i64 x) ∧ Below W5.heap.size W5 W) V) := fun V hV => (fun h9 : (fun W => W.cell? ⟨w.heap.size, 0, none⟩ = some (.bool neg) ∧ W.cell? ⟨w.heap.size, 1, none⟩ = some (.slice A 0 c) ∧ W.cell? ⟨w.heap.size, 2, none⟩ = some (.int .i64 x) ∧ W.cell? ⟨gx, 0, none⟩ = some (.bool dn) ∧ W.cell? ⟨gx, 1, none⟩ = some (.slice A3 n3 c3) ∧ W.cell? ⟨gx, 2, none⟩ = some (.int .i64 de) ∧ W.cell? ⟨gy, 0, none⟩ = some (.bool neg) ∧ W.cell? ⟨gy, 1, none⟩ = some (.slice A4 n4 c4) ∧ W.cell? ⟨gy, 2, none⟩ = some (.int .i64 x)) V => ⟨h9.1, h9.2.1, h9.2.2.1, h9.2.2.2.1, h9.2.2.2.2.1, h9.2.2.2.2.2.1, h9.2.2.2.2.2.2.1, h9.2.2.2.2.2.2.2.1, h9.2.2.2.2.2.2.2.2, hV⟩) (keep9 hV k5.lt k5x.lt k5y.lt ⟨s0, s1, s2, t0, t1, t2, r0, r1, r2⟩)
      have hbd : Below W5.heap.size W5 W5.drew := below_drewN (Below.refl _ _) 1
      refine wp_region_held_drew (S := (fun W => W.cell? ⟨w.heap.size, 0, none⟩ = some (.bool neg) ∧ W.cell? ⟨w.heap.size, 1, none⟩ = some (.slice A 0 c) ∧ W.cell? ⟨w.heap.size, 2, none⟩ = some (.int .i64 x) ∧ W.cell? ⟨gx, 0, none⟩ = some (.bool dn) ∧ W.cell? ⟨gx, 1, none⟩ = some (.slice A3 n3 c3) ∧ W.cell? ⟨gx, 2, none⟩ = some (.int .i64 de) ∧ W.cell? ⟨gy, 0, none⟩ = some (.bool neg) ∧ W.cell? ⟨gy, 1, none⟩ = some (.slice A4 n4 c4) ∧ W.cell? ⟨gy, 2, none⟩ = some (.int .i64 x) ∧ Below W5.heap.size W5 W)) (by kernel_rfl) (HK.out _ hbd) (fun hH => ?_)
      refine wpAnyH_take (i := 0) (oi := ⟨_, _, _, _, _, _⟩) (v := ?_) rfl (by kernel_rfl) (by kernel_rfl) (by kernel_rfl) (fun _ _ _ h => h) (Or.inl ⟨by rfl, ?_⟩) hH ?_
      rotate_left
      · (intro w hSw; (try dsimp only at hSw); go_simp; try (with_reducible rfl))
      simp only [Act.put, List.setIfInBounds_toArray, List.set_cons_zero, List.set_cons_succ]
      refine wpAnyH_take (i := 1) (oi := ⟨_, _, _, _, _, _⟩) (v := ?_) rfl (by kernel_rfl) (by kernel_rfl) (by kernel_rfl) (fun _ _ _ h => h) (Or.inl ⟨by rfl, ?_⟩) hH ?_
      rotate_left
      · (intro w hSw; (try dsimp only at hSw); go_simp; try (with_reducible rfl))
      simp only [Act.put, List.setIfInBounds_toArray, List.set_cons_zero, List.set_cons_succ]
      refine wpAnyH_take (i := 2) (oi := ⟨_, _, _, _, _, _⟩) (v := ?_) rfl (by kernel_rfl) (by kernel_rfl) (by kernel_rfl) (fun _ _ _ h => h) (Or.inl ⟨by rfl, ?_⟩) hH ?_
      rotate_left
      · (intro w hSw; (try dsimp only at hSw); go_simp; try (with_reducible rfl))
      simp only [Act.put, List.setIfInBounds_toArray, List.set_cons_zero, List.set_cons_succ]
      refine wpAnyH_take (i := 3) (oi := ⟨_, _, _, _, _, _⟩) (v := ?_) rfl (by kernel_rfl) (by kernel_rfl) (by kernel_rfl) (fun _ _ _ h => h) (Or.inl ⟨by rfl, ?_⟩) hH ?_
      rotate_left
      · (intro w hSw; (try dsimp only at hSw); go_simp; try (with_reducible rfl))
      simp only [Act.put, List.setIfInBounds_toArray, List.set_cons_zero, List.set_cons_succ]
      refine wpAnyH_take (i := 4) (oi := ⟨_, _, _, _, _, _⟩) (v := ?_) rfl (by kernel_rfl) (by kernel_rfl) (by kernel_rfl) (fun _ _ _ h => h) (Or.inl ⟨by rfl, ?_⟩) hH ?_
      rotate_left
      · (intro w hSw; (try dsimp only at hSw); go_simp; try (with_reducible rfl))
      simp only [Act.put, List.setIfInBounds_toArray, List.set_cons_zero, List.set_cons_succ]
      refine wpAnyH_ready (rs := [5]) (by kernel_rfl) (by simp) ?_
      refine AllReadyH.cons (o := ⟨_, _, _, _, _, _⟩) rfl (fun K hK => ?_) AllReadyH.nil
      go_simp
      refine (requal_any neg neg A4 A n4 c4 0 c l l x x _ (h5y.below hbd) (h5.below hbd)).mono ?_
      rw [eqD_self]
      rintro e v1 ⟨rfl, hc1⟩
      have hb1 := bnext hbd hc1
      go_wp2_with fail
      refine hK.out _ _ (HK.out _ hb1) (fun hH => ?_)
      clear hK K
      refine wpAnyH_take (i := 6) (oi := ⟨_, _, _, _, _, _⟩) (v := ?_) rfl (by kernel_rfl) (by kernel_rfl) (by kernel_rfl) (fun _ _ _ h => h) (Or.inl ⟨by rfl, ?_⟩) hH ?_
      rotate_left
      · (intro w hSw; (try dsimp only at hSw); go_simp; try (with_reducible rfl))
      simp only [Act.put, List.setIfInBounds_toArray, List.set_cons_zero, List.set_cons_succ]
      refine wpAnyH_take (i := 7) (oi := ⟨_, _, _, _, _, _⟩) (v := ?_) rfl (by kernel_rfl) (by kernel_rfl) (by kernel_rfl) (fun _ _ _ h => h) (Or.inl ⟨by rfl, ?_⟩) hH ?_
      rotate_left
      · (intro w hSw; (try dsimp only at hSw); go_simp; try (with_reducible rfl))
      simp only [Act.put, List.setIfInBounds_toArray, List.set_cons_zero, List.set_cons_succ]
      refine wpAnyH_take (i := 8) (oi := ⟨_, _, _, _, _, _⟩) (v := ?_) rfl (by kernel_rfl) (by kernel_rfl) (by kernel_rfl) (fun _ _ _ h => h) (Or.inl ⟨by rfl, ?_⟩) hH ?_
      rotate_left
      · (intro w hSw; (try dsimp only at hSw); go_simp; try (with_reducible rfl))
      simp only [Act.put, List.setIfInBounds_toArray, List.set_cons_zero, List.set_cons_succ]
      refine wpAnyH_take (i := 9) (oi := ⟨_, _, _, _, _, _⟩) (v := ?_) rfl (by kernel_rfl) (by kernel_rfl) (by kernel_rfl) (fun _ _ _ h => h) (Or.inl ⟨by rfl, ?_⟩) hH ?_
      rotate_left
      · (intro w hSw; (try dsimp only at hSw); go_simp; try (with_reducible rfl))
      simp only [Act.put, List.setIfInBounds_toArray, List.set_cons_zero, List.set_cons_succ]
      refine wpAnyH_take (i := 10) (oi := ⟨_, _, _, _, _, _⟩) (v := ?_) rfl (by kernel_rfl) (by kernel_rfl) (by kernel_rfl) (fun _ _ _ h => h) (Or.inl ⟨by rfl, ?_⟩) hH ?_
      rotate_left
      · (intro w hSw; (try dsimp only at hSw); go_simp; try (with_reducible rfl))
      simp only [Act.put, List.setIfInBounds_toArray, List.set_cons_zero, List.set_cons_succ]
      refine wpAnyH_take (i := 11) (oi := ⟨_, _, _, _, _, _⟩) (v := ?_) rfl (by kernel_rfl) (by kernel_rfl) (by kernel_rfl) (fun _ _ _ h => h) (Or.inl ⟨by rfl, ?_⟩) hH ?_
      rotate_left
      · (intro w hSw; (try dsimp only at hSw); go_simp; try (with_reducible rfl))
      simp only [Act.put, List.setIfInBounds_toArray, List.set_cons_zero, List.set_cons_succ]
      refine wpAnyH_take (i := 12) (oi := ⟨_, _, _, _, _, _⟩) (v := ?_) rfl (by kernel_rfl) (by kernel_rfl) (by kernel_rfl) (fun _ _ _ h => h) (Or.inl ⟨by rfl, ?_⟩) hH ?_
      rotate_left
      · (intro w hSw; (try dsimp only at hSw); go_simp; try (with_reducible rfl))
      simp only [Act.put, List.setIfInBounds_toArray, List.set_cons_zero, List.set_cons_succ]
      refine wpAnyH_take (i := 13) (oi := ⟨_, _, _, _, _, _⟩) (v := ?_) rfl (by kernel_rfl) (by kernel_rfl) (by kernel_rfl) (fun _ _ _ h => h) (Or.inl ⟨by rfl, ?_⟩) hH ?_
      rotate_left
      · (intro w hSw; (try dsimp only at hSw); go_simp; try (with_reducible rfl))
      simp only [Act.put, List.setIfInBounds_toArray, List.set_cons_zero, List.set_cons_succ]
      refine wpAnyH_take (i := 14) (oi := ⟨_, _, _, _, _, _⟩) (v := undef) rfl (by kernel_rfl) (by kernel_rfl) (by kernel_rfl) (fun _ _ _ h => h) (Or.inr ⟨by rfl, rfl⟩) hH ?_
      simp only [Act.put, List.setIfInBounds_toArray, List.set_cons_zero, List.set_cons_succ]
      refine wpAnyH_take (i := 15) (oi := ⟨_, _, _, _, _, _⟩) (v := undef) rfl (by kernel_rfl) (by kernel_rfl) (by kernel_rfl) (fun _ _ _ h => h) (Or.inr ⟨by rfl, rfl⟩) hH ?_
      simp only [Act.put, List.setIfInBounds_toArray, List.set_cons_zero, List.set_cons_succ]
      refine wpAnyH_take (i := 16) (oi := ⟨_, _, _, _, _, _⟩) (v := undef) rfl (by kernel_rfl) (by kernel_rfl) (by kernel_rfl) (fun _ _ _ h => h) (Or.inr ⟨by rfl, rfl⟩) hH ?_
      simp only [Act.put, List.setIfInBounds_toArray, List.set_cons_zero, List.set_cons_succ]
      refine wpAnyH_take (i := 17) (oi := ⟨_, _, _, _, _, _⟩) (v := undef) rfl (by kernel_rfl) (by kernel_rfl) (by kernel_rfl) (fun _ _ _ h => h) (Or.inr ⟨by rfl, rfl⟩) hH ?_
      simp only [Act.put, List.setIfInBounds_toArray, List.set_cons_zero, List.set_cons_succ]
      refine wpAnyH_take (i := 18) (oi := ⟨_, _, _, _, _, _⟩) (v := undef) rfl (by kernel_rfl) (by kernel_rfl) (by kernel_rfl) (fun _ _ _ h => h) (Or.inr ⟨by rfl, rfl⟩) hH ?_
      simp only [Act.put, List.setIfInBounds_toArray, List.set_cons_zero, List.set_cons_succ]
      refine wpAnyH_take (i := 19) (oi := ⟨_, _, _, _, _, _⟩) (v := undef) rfl (by kernel_rfl) (by kernel_rfl) (by kernel_rfl) (fun _ _ _ h => h) (Or.inr ⟨by rfl, rfl⟩) hH ?_
      simp only [Act.put, List.setIfInBounds_toArray, List.set_cons_zero, List.set_cons_succ]
      refine wpAnyH_take (i := 20) (oi := ⟨_, _, _, _, _, _⟩) (v := undef) rfl (by kernel_rfl) (by kernel_rfl) (by kernel_rfl) (fun _ _ _ h => h) (Or.inr ⟨by rfl, rfl⟩) hH ?_
      simp only [Act.put, List.setIfInBounds_toArray, List.set_cons_zero, List.set_cons_succ]
      refine wpAnyH_take (i := 21) (oi := ⟨_, _, _, _, _, _⟩) (v := undef) rfl (by kernel_rfl) (by kernel_rfl) (by kernel_rfl) (fun _ _ _ h => h) (Or.inr ⟨by rfl, rfl⟩) hH ?_
      simp only [Act.put, List.setIfInBounds_toArray, List.set_cons_zero, List.set_cons_succ]
      refine wpAnyH_take (i := 22) (oi := ⟨_, _, _, _, _, _⟩) (v := ?_) rfl (by kernel_rfl) (by kernel_rfl) (by kernel_rfl) (fun _ _ _ h => h) (Or.inl ⟨by rfl, ?_⟩) hH ?_
      rotate_left
      · (intro w hSw; (try dsimp only at hSw); go_simp; try (with_reducible rfl))
      simp only [Act.put, List.setIfInBounds_toArray, List.set_cons_zero, List.set_cons_succ]
      refine wpAnyH_take (i := 23) (oi := ⟨_, _, _, _, _, _⟩) (v := ?_) rfl (by kernel_rfl) (by kernel_rfl) (by kernel_rfl) (fun _ _ _ h => h) (Or.inl ⟨by rfl, ?_⟩) hH ?_
      rotate_left
      · (intro w hSw; (try dsimp only at hSw); go_simp; try (with_reducible rfl))
      simp only [Act.put, List.setIfInBounds_toArray, List.set_cons_zero, List.set_cons_succ]
      refine wpAnyH_take (i := 24) (oi := ⟨_, _, _, _, _, _⟩) (v := ?_) rfl (by kernel_rfl) (by kernel_rfl) (by kernel_rfl) (fun _ _ _ h => h) (Or.inl ⟨by rfl, ?_⟩) hH ?_
      rotate_left
      · (intro w hSw; (try dsimp only at hSw); go_simp; try (with_reducible rfl))
      simp only [Act.put, List.setIfInBounds_toArray, List.set_cons_zero, List.set_cons_succ]
      refine wpAnyH_take (i := 25) (oi := ⟨_, _, _, _, _, _⟩) (v := ?_) rfl (by kernel_rfl) (by kernel_rfl) (by kernel_rfl) (fun _ _ _ h => h) (Or.inl ⟨by rfl, ?_⟩) hH ?_
      rotate_left
      · (intro w hSw; (try dsimp only at hSw); go_simp; try (with_reducible rfl))
      simp only [Act.put, List.setIfInBounds_toArray, List.set_cons_zero, List.set_cons_succ]
      refine wpAnyH_take (i := 27) (oi := ⟨_, _, _, _, _, _⟩) (v := ?_) rfl (by kernel_rfl) (by kernel_rfl) (by kernel_rfl) (fun _ _ _ h => h) (Or.inl ⟨by rfl, ?_⟩) hH ?_
      rotate_left
      · (intro w hSw; (try dsimp only at hSw); go_simp; try (with_reducible rfl))
      simp only [Act.put, List.setIfInBounds_toArray, List.set_cons_zero, List.set_cons_succ]
      refine wpAnyH_ready (rs := [26]) (by kernel_rfl) (by simp) ?_
      refine AllReadyH.cons (o := ⟨_, _, _, _, _, _⟩) rfl (fun K hK => ?_) AllReadyH.nil
      go_simp
      refine (bitsD_any dn A3 n3 c3 dl de _ (h5x.below hb1) (by omega)).mono ?_
      rw [HBT.out]
      rintro e v2 ⟨rfl, hc2⟩
      have hb2 := bnext hb1 hc2
      go_wp2_with fail
      refine hK.out _ _ (HK.out _ hb2) (fun hH => ?_)
      clear hK K
      refine wpAnyH_ready (rs := [28]) (by kernel_rfl) (by simp) ?_
      refine AllReadyH.cons (o := ⟨_, _, _, _, _, _⟩) rfl (fun K hK => ?_) AllReadyH.nil
      go_simp
      refine (bitsD_any neg A 0 c l x _ (h5.below hb2) (by omega)).mono ?_
      rintro e v3 ⟨rfl, hc3⟩
      have hb3 := bnext hb2 hc3
      go_wp2_with fail
      refine hK.out _ _ (HK.out _ hb3) (fun hH => ?_)
      clear hK K
      refine wpAnyH_take (i := 29) (oi := ⟨_, _, _, _, _, _⟩) (v := ?_) rfl (by kernel_rfl) (by kernel_rfl) (by kernel_rfl) (fun _ _ _ h => h) (Or.inl ⟨by rfl, ?_⟩) hH ?_
      rotate_left
      · (intro w hSw; (try dsimp only at hSw); go_simp; try (with_reducible rfl))
      simp only [Act.put, List.setIfInBounds_toArray, List.set_cons_zero, List.set_cons_succ]
      refine wpAnyH_take (i := 30) (oi := ⟨_, _, _, _, _, _⟩) (v := ?_) rfl (by kernel_rfl) (by kernel_rfl) (by kernel_rfl) (fun _ _ _ h => h) (Or.inl ⟨by rfl, ?_⟩) hH ?_
      rotate_left
      · (intro w hSw; (try dsimp only at hSw); go_simp; try (with_reducible rfl))
      simp only [Act.put, List.setIfInBounds_toArray, List.set_cons_zero, List.set_cons_succ]
      refine wpAnyH_done (by kernel_rfl) ?_ _
      have hbw6 := bnext (hbw5) hb3
      have HT6 := Lib.hid (HT5.out.next hb3)
      have h6 := h5.below hb3
      have h6x := h5x.below hb3
      have k6 := k5.below hb3 k5.lt
      have k6x := k5x.below hb3 k5x.lt
      clear s0 s1 s2 t0 t1 t2 r0 r1 r2 k5 k5x k5y h5 h5x h5y HT5 hbw5 hg0 hg1 hg2 HL3 HBT
      obtain ⟨⟨⟨pn, pl, pe⟩, pk⟩, hmk⟩ : ∃ r, r = makeD false [1] k := ⟨_, rfl⟩
      have HMK := Lib.hid hmk
      have HMU2 := Lib.hid (HMU.out _ _ hmk.symm)
      have hpl : pl.length ≤ 1000000 := by
        have e := make_one k (by omega) (by omega)
        rw [← hmk] at e
        split at e
        · have := (Prod.mk.inj e).1
          injection this with _ e2 _
          rw [e2]; simp
        · have := (Prod.mk.inj e).1
          injection this with _ e2 _
          rw [e2]; simp
      clear hmk HMU
      have hb6a := ballo v3 (.cells #[.int .u32 1] 25)
      have hs6 := SL.oneAt v3 25 1 1 v3.heap.size rfl (by omega) rfl
      have HT7 := Lib.hid (HT6.out.next hb6a)
      have h7 := h6.below hb6a
      have h7x := h6x.below hb6a
      have k7 := k6.below hb6a k6.lt
      have k7x := k6x.below hb6a k6x.lt
      have hbw7 := bnext hbw6 hb6a
      clear HT6 h6 h6x k6 k6x hbw6
      go_wp2_with fail
      generalize v3.alloc (.cells #[.int .u32 1] 25) = W7 at *
      refine (make_any false _ 1 1 [1] k _ hs6 HT7.out).mono ?_
      rw [← HMK.out]
      rintro e w8 ⟨A8, n8, c8, rfl, hs8, hf8, hb8⟩
      simp only [] at hs8
      have hn8 : n8 ≤ 1000000 := by rw [← hs8.len]; exact hpl
      have hb8a := ballo w8 (.cells #[.bool pn, .slice A8 n8 c8, .int .i64 pe] 27)
      have kp := Blk.new w8 27 #[.bool pn, .slice A8 n8 c8, .int .i64 pe]
      have hb78 := bnext hb8 hb8a
      have HT8 := Lib.hid (HT7.out.next hb78)
      have h8 := h7.below hb78
      have h8x := h7x.below hb78
      have h8p := hs8.below hb8a
      have k8 := k7.below hb78 k7.lt
      have k8x := k7x.below hb78 k7x.lt
      have hbw8 := bnext hbw7 hb78
      clear HT7 h7 h7x k7 k7x hbw7 hs6 hs8 hb8 hb78 hf8 HMK hpl
      obtain ⟨s0, s1, s2⟩ := k8.cells3
      obtain ⟨t0, t1, t2⟩ := kp.cells3
      go_wp2_with fail
      generalize w8.alloc (.cells #[.bool pn, .slice A8 n8 c8, .int .i64 pe] 27) = W8 at *
      obtain ⟨⟨⟨zn, zl, ze⟩, zk⟩, hmu⟩ : ∃ r, r = mulD ⟨neg, l, x⟩ ⟨pn, pl, pe⟩ := ⟨_, rfl⟩
      have HM := Lib.hid hmu
      clear hmu
      refine (mulD_any neg pn A A8 0 c n8 c8 l pl x pe _ h8 h8p HT8.out (by omega) hn8).mono ?_
      rw [← HM.out]
      rintro e w9 ⟨A9, n9, c9, rfl, hs9, hf9, hb9⟩
      simp only [] at hs9
      have hb9a := ballo w9 (.cells #[.bool zn, .slice A9 n9 c9, .int .i64 ze] 27)
      have kz := Blk.new w9 27 #[.bool zn, .slice A9 n9 c9, .int .i64 ze]
      have hb89 := bnext hb9 hb9a
      have h9x := h8x.below hb89
      have h9z := hs9.below hb9a
      have k9x := k8x.below hb89 k8x.lt
      have hbw9 := bnext hbw8 hb89
      obtain ⟨q0, q1, q2⟩ := k9x.cells3
      obtain ⟨z0, z1, z2⟩ := kz.cells3
      clear s0 s1 s2 t0 t1 t2 hb89 k8 k8x kp h8 h8x h8p hf9 hs9
      by_cases hp0 : pk = 0
      · subst hp0
        rcases HMU2.out with hbad | hgood
        · exact absurd rfl hbad
        · have e := HM.out.trans hgood
          injection e with e1 e2
          injection e1 with e3 e4 e5
          subst e2 e3 e4 e5
          clear hgood
          go_wp2_with fail
          refine (requal_any _ _ A9 A3 n9 c9 n3 c3 _ _ _ _ _ h9z h9x).mono ?_
          rw [eqD_self]
          rintro e wf ⟨rfl, hbf⟩
          go_wp2_with fail
          go_ret
          exact ⟨rfl, bnext hbw9 hbf⟩
      · have hp1 : (pk == 0) = false := by simp; omega
        go_wp2_with fail
        go_ret
        exact ⟨rfl, hbw9⟩
    · have h0' : decide (0 < (n : Int)) = true := by simp; omega
      have h0'' : decide (0 < n) = true := by simp; omega
      have HTP := Lib.hid (HL3.out ((ne_nil_iff h).2 h0))
      obtain ⟨tb1, tb2⟩ := top_bound ⟨neg, l, x⟩
      generalize hT : topD ⟨neg, l, x⟩ = T at *
      have HTT := Lib.hid hT
      clear hT
      have hwt : IntKind.i64.wrap (T + k) = T + k := IntWalk.i64_in _ (by omega)
      have HK : Hid (∀ V, Below W5.heap.size W5 V → (fun W => W.cell? ⟨w.heap.size, 0, none⟩ = some (.bool neg) ∧ W.cell? ⟨w.heap.size, 1, none⟩ = some (.slice A n c) ∧ W.cell? ⟨w.heap.size, 2, none⟩ = some (.int .i64 x) ∧ W.cell? ⟨gx, 0, none⟩ = some (.bool dn) ∧ W.cell? ⟨gx, 1, none⟩ = some (.slice A3 n3 c3) ∧ W.cell? ⟨gx, 2, none⟩ = some (.int .i64 de) ∧ W.cell? ⟨gy, 0, none⟩ = some (.bool neg) ∧ W.cell? ⟨gy, 1, none⟩ = some (.slice A4 n4 c4) ∧ W.cell? ⟨gy, 2, none⟩ = some (.int .i64 x) ∧ Below W5.heap.size W5 W) V) := fun V hV => (fun h9 : (fun W => W.cell? ⟨w.heap.size, 0, none⟩ = some (.bool neg) ∧ W.cell? ⟨w.heap.size, 1, none⟩ = some (.slice A n c) ∧ W.cell? ⟨w.heap.size, 2, none⟩ = some (.int .i64 x) ∧ W.cell? ⟨gx, 0, none⟩ = some (.bool dn) ∧ W.cell? ⟨gx, 1, none⟩ = some (.slice A3 n3 c3) ∧ W.cell? ⟨gx, 2, none⟩ = some (.int .i64 de) ∧ W.cell? ⟨gy, 0, none⟩ = some (.bool neg) ∧ W.cell? ⟨gy, 1, none⟩ = some (.slice A4 n4 c4) ∧ W.cell? ⟨gy, 2, none⟩ = some (.int .i64 x)) V => ⟨h9.1, h9.2.1, h9.2.2.1, h9.2.2.2.1, h9.2.2.2.2.1, h9.2.2.2.2.2.1, h9.2.2.2.2.2.2.1, h9.2.2.2.2.2.2.2.1, h9.2.2.2.2.2.2.2.2, hV⟩) (keep9 hV k5.lt k5x.lt k5y.lt ⟨s0, s1, s2, t0, t1, t2, r0, r1, r2⟩)
      have hbd : Below W5.heap.size W5 W5.drew := below_drewN (Below.refl _ _) 1
      refine wp_region_held_drew (S := (fun W => W.cell? ⟨w.heap.size, 0, none⟩ = some (.bool neg) ∧ W.cell? ⟨w.heap.size, 1, none⟩ = some (.slice A n c) ∧ W.cell? ⟨w.heap.size, 2, none⟩ = some (.int .i64 x) ∧ W.cell? ⟨gx, 0, none⟩ = some (.bool dn) ∧ W.cell? ⟨gx, 1, none⟩ = some (.slice A3 n3 c3) ∧ W.cell? ⟨gx, 2, none⟩ = some (.int .i64 de) ∧ W.cell? ⟨gy, 0, none⟩ = some (.bool neg) ∧ W.cell? ⟨gy, 1, none⟩ = some (.slice A4 n4 c4) ∧ W.cell? ⟨gy, 2, none⟩ = some (.int .i64 x) ∧ Below W5.heap.size W5 W)) (by kernel_rfl) (HK.out _ hbd) (fun hH => ?_)
      refine wpAnyH_take (i := 0) (oi := ⟨_, _, _, _, _, _⟩) (v := ?_) rfl (by kernel_rfl) (by kernel_rfl) (by kernel_rfl) (fun _ _ _ h => h) (Or.inl ⟨by rfl, ?_⟩) hH ?_
      rotate_left
      · (intro w hSw; (try dsimp only at hSw); go_simp; try (with_reducible rfl))
      simp only [Act.put, List.setIfInBounds_toArray, List.set_cons_zero, List.set_cons_succ]
      refine wpAnyH_take (i := 1) (oi := ⟨_, _, _, _, _, _⟩) (v := ?_) rfl (by kernel_rfl) (by kernel_rfl) (by kernel_rfl) (fun _ _ _ h => h) (Or.inl ⟨by rfl, ?_⟩) hH ?_
      rotate_left
      · (intro w hSw; (try dsimp only at hSw); go_simp; try (with_reducible rfl))
      simp only [Act.put, List.setIfInBounds_toArray, List.set_cons_zero, List.set_cons_succ]
      refine wpAnyH_take (i := 2) (oi := ⟨_, _, _, _, _, _⟩) (v := ?_) rfl (by kernel_rfl) (by kernel_rfl) (by kernel_rfl) (fun _ _ _ h => h) (Or.inl ⟨by rfl, ?_⟩) hH ?_
      rotate_left
      · (intro w hSw; (try dsimp only at hSw); go_simp; try (with_reducible rfl))
      simp only [Act.put, List.setIfInBounds_toArray, List.set_cons_zero, List.set_cons_succ]
      refine wpAnyH_take (i := 3) (oi := ⟨_, _, _, _, _, _⟩) (v := ?_) rfl (by kernel_rfl) (by kernel_rfl) (by kernel_rfl) (fun _ _ _ h => h) (Or.inl ⟨by rfl, ?_⟩) hH ?_
      rotate_left
      · (intro w hSw; (try dsimp only at hSw); go_simp; try (with_reducible rfl))
      simp only [Act.put, List.setIfInBounds_toArray, List.set_cons_zero, List.set_cons_succ]
      refine wpAnyH_take (i := 4) (oi := ⟨_, _, _, _, _, _⟩) (v := ?_) rfl (by kernel_rfl) (by kernel_rfl) (by kernel_rfl) (fun _ _ _ h => h) (Or.inl ⟨by rfl, ?_⟩) hH ?_
      rotate_left
      · (intro w hSw; (try dsimp only at hSw); go_simp; try (with_reducible rfl))
      simp only [Act.put, List.setIfInBounds_toArray, List.set_cons_zero, List.set_cons_succ]
      refine wpAnyH_ready (rs := [5]) (by kernel_rfl) (by simp) ?_
      refine AllReadyH.cons (o := ⟨_, _, _, _, _, _⟩) rfl (fun K hK => ?_) AllReadyH.nil
      go_simp
      refine (requal_any neg neg A4 A n4 c4 n c l l x x _ (h5y.below hbd) (h5.below hbd)).mono ?_
      rw [eqD_self]
      rintro e v1 ⟨rfl, hc1⟩
      have hb1 := bnext hbd hc1
      go_wp2_with fail
      refine hK.out _ _ (HK.out _ hb1) (fun hH => ?_)
      clear hK K
      refine wpAnyH_take (i := 6) (oi := ⟨_, _, _, _, _, _⟩) (v := ?_) rfl (by kernel_rfl) (by kernel_rfl) (by kernel_rfl) (fun _ _ _ h => h) (Or.inl ⟨by rfl, ?_⟩) hH ?_
      rotate_left
      · (intro w hSw; (try dsimp only at hSw); go_simp; try (with_reducible rfl))
      simp only [Act.put, List.setIfInBounds_toArray, List.set_cons_zero, List.set_cons_succ]
      refine wpAnyH_take (i := 7) (oi := ⟨_, _, _, _, _, _⟩) (v := ?_) rfl (by kernel_rfl) (by kernel_rfl) (by kernel_rfl) (fun _ _ _ h => h) (Or.inl ⟨by rfl, ?_⟩) hH ?_
      rotate_left
      · (intro w hSw; (try dsimp only at hSw); go_simp; try (with_reducible rfl))
      simp only [Act.put, List.setIfInBounds_toArray, List.set_cons_zero, List.set_cons_succ]
      refine wpAnyH_take (i := 8) (oi := ⟨_, _, _, _, _, _⟩) (v := ?_) rfl (by kernel_rfl) (by kernel_rfl) (by kernel_rfl) (fun _ _ _ h => h) (Or.inl ⟨by rfl, ?_⟩) hH ?_
      rotate_left
      · (intro w hSw; (try dsimp only at hSw); go_simp; try (with_reducible rfl))
      simp only [Act.put, List.setIfInBounds_toArray, List.set_cons_zero, List.set_cons_succ]
      refine wpAnyH_take (i := 9) (oi := ⟨_, _, _, _, _, _⟩) (v := ?_) rfl (by kernel_rfl) (by kernel_rfl) (by kernel_rfl) (fun _ _ _ h => h) (Or.inl ⟨by rfl, ?_⟩) hH ?_
      rotate_left
      · (intro w hSw; (try dsimp only at hSw); go_simp; try (with_reducible rfl))
      simp only [Act.put, List.setIfInBounds_toArray, List.set_cons_zero, List.set_cons_succ]
      refine wpAnyH_take (i := 10) (oi := ⟨_, _, _, _, _, _⟩) (v := ?_) rfl (by kernel_rfl) (by kernel_rfl) (by kernel_rfl) (fun _ _ _ h => h) (Or.inl ⟨by rfl, ?_⟩) hH ?_
      rotate_left
      · (intro w hSw; (try dsimp only at hSw); go_simp; try (with_reducible rfl))
      simp only [Act.put, List.setIfInBounds_toArray, List.set_cons_zero, List.set_cons_succ]
      refine wpAnyH_take (i := 11) (oi := ⟨_, _, _, _, _, _⟩) (v := ?_) rfl (by kernel_rfl) (by kernel_rfl) (by kernel_rfl) (fun _ _ _ h => h) (Or.inl ⟨by rfl, ?_⟩) hH ?_
      rotate_left
      · (intro w hSw; (try dsimp only at hSw); go_simp; try (with_reducible rfl))
      simp only [Act.put, List.setIfInBounds_toArray, List.set_cons_zero, List.set_cons_succ]
      refine wpAnyH_take (i := 12) (oi := ⟨_, _, _, _, _, _⟩) (v := ?_) rfl (by kernel_rfl) (by kernel_rfl) (by kernel_rfl) (fun _ _ _ h => h) (Or.inl ⟨by rfl, ?_⟩) hH ?_
      rotate_left
      · (intro w hSw; (try dsimp only at hSw); go_simp; try (with_reducible rfl))
      simp only [Act.put, List.setIfInBounds_toArray, List.set_cons_zero, List.set_cons_succ]
      refine wpAnyH_take (i := 13) (oi := ⟨_, _, _, _, _, _⟩) (v := ?_) rfl (by kernel_rfl) (by kernel_rfl) (by kernel_rfl) (fun _ _ _ h => h) (Or.inl ⟨by rfl, ?_⟩) hH ?_
      rotate_left
      · (intro w hSw; (try dsimp only at hSw); go_simp; try (with_reducible rfl))
      simp only [Act.put, List.setIfInBounds_toArray, List.set_cons_zero, List.set_cons_succ]
      refine wpAnyH_take (i := 14) (oi := ⟨_, _, _, _, _, _⟩) (v := ?_) rfl (by kernel_rfl) (by kernel_rfl) (by kernel_rfl) (fun _ _ _ h => h) (Or.inl ⟨by rfl, ?_⟩) hH ?_
      rotate_left
      · (intro w hSw; (try dsimp only at hSw); go_simp; try (with_reducible rfl))
      simp only [Act.put, List.setIfInBounds_toArray, List.set_cons_zero, List.set_cons_succ]
      refine wpAnyH_take (i := 16) (oi := ⟨_, _, _, _, _, _⟩) (v := ?_) rfl (by kernel_rfl) (by kernel_rfl) (by kernel_rfl) (fun _ _ _ h => h) (Or.inl ⟨by rfl, ?_⟩) hH ?_
      rotate_left
      · (intro w hSw; (try dsimp only at hSw); go_simp; try (with_reducible rfl))
      simp only [Act.put, List.setIfInBounds_toArray, List.set_cons_zero, List.set_cons_succ]
      refine wpAnyH_take (i := 18) (oi := ⟨_, _, _, _, _, _⟩) (v := ?_) rfl (by kernel_rfl) (by kernel_rfl) (by kernel_rfl) (fun _ _ _ h => h) (Or.inl ⟨by rfl, ?_⟩) hH ?_
      rotate_left
      · (intro w hSw; (try dsimp only at hSw); go_simp; try (with_reducible rfl))
      simp only [Act.put, List.setIfInBounds_toArray, List.set_cons_zero, List.set_cons_succ]
      refine wpAnyH_take (i := 19) (oi := ⟨_, _, _, _, _, _⟩) (v := ?_) rfl (by kernel_rfl) (by kernel_rfl) (by kernel_rfl) (fun _ _ _ h => h) (Or.inl ⟨by rfl, ?_⟩) hH ?_
      rotate_left
      · (intro w hSw; (try dsimp only at hSw); go_simp; try (with_reducible rfl))
      simp only [Act.put, List.setIfInBounds_toArray, List.set_cons_zero, List.set_cons_succ]
      refine wpAnyH_ready (rs := [15]) (by kernel_rfl) (by simp) ?_
      refine AllReadyH.cons (o := ⟨_, _, _, _, _, _⟩) rfl (fun K hK => ?_) AllReadyH.nil
      go_simp
      refine (topD_any dn A3 n3 c3 dl de _ (h5x.below hb1) (by omega)).mono ?_
      rw [HTP.out]
      rintro e v2 ⟨rfl, hc2⟩
      have hb2 := bnext hb1 hc2
      go_wp2_with fail
      refine hK.out _ _ (HK.out _ hb2) (fun hH => ?_)
      clear hK K
      refine wpAnyH_ready (rs := [17]) (by kernel_rfl) (by simp) ?_
      refine AllReadyH.cons (o := ⟨_, _, _, _, _, _⟩) rfl (fun K hK => ?_) AllReadyH.nil
      go_simp
      refine (topD_any neg A n c l x _ (h5.below hb2) (by omega)).mono ?_
      rw [HTT.out]
      rintro e v3 ⟨rfl, hc3⟩
      have hb3 := bnext hb2 hc3
      go_wp2_with fail
      refine hK.out _ _ (HK.out _ hb3) (fun hH => ?_)
      clear hK K
      refine wpAnyH_take (i := 20) (oi := ⟨_, _, _, _, _, _⟩) (v := ?_) rfl (by kernel_rfl) (by kernel_rfl) (by kernel_rfl) (fun _ _ _ h => h) (Or.inl ⟨by rfl, ?_⟩) hH ?_
      rotate_left
      · (intro w hSw; (try dsimp only at hSw); go_simp; try (with_reducible rfl))
      simp only [Act.put, List.setIfInBounds_toArray, List.set_cons_zero, List.set_cons_succ]
      refine wpAnyH_take (i := 21) (oi := ⟨_, _, _, _, _, _⟩) (v := ?_) rfl (by kernel_rfl) (by kernel_rfl) (by kernel_rfl) (fun _ _ _ h => h) (Or.inl ⟨by rfl, ?_⟩) hH ?_
      rotate_left
      · (intro w hSw; (try dsimp only at hSw); go_simp; try (with_reducible rfl))
      simp only [Act.put, List.setIfInBounds_toArray, List.set_cons_zero, List.set_cons_succ]
      refine wpAnyH_take (i := 22) (oi := ⟨_, _, _, _, _, _⟩) (v := ?_) rfl (by kernel_rfl) (by kernel_rfl) (by kernel_rfl) (fun _ _ _ h => h) (Or.inl ⟨by rfl, ?_⟩) hH ?_
      rotate_left
      · (intro w hSw; (try dsimp only at hSw); go_simp; try (with_reducible rfl))
      simp only [Act.put, List.setIfInBounds_toArray, List.set_cons_zero, List.set_cons_succ]
      refine wpAnyH_take (i := 23) (oi := ⟨_, _, _, _, _, _⟩) (v := ?_) rfl (by kernel_rfl) (by kernel_rfl) (by kernel_rfl) (fun _ _ _ h => h) (Or.inl ⟨by rfl, ?_⟩) hH ?_
      rotate_left
      · (intro w hSw; (try dsimp only at hSw); go_simp; try (with_reducible rfl))
      simp only [Act.put, List.setIfInBounds_toArray, List.set_cons_zero, List.set_cons_succ]
      refine wpAnyH_take (i := 24) (oi := ⟨_, _, _, _, _, _⟩) (v := ?_) rfl (by kernel_rfl) (by kernel_rfl) (by kernel_rfl) (fun _ _ _ h => h) (Or.inl ⟨by rfl, ?_⟩) hH ?_
      rotate_left
      · (intro w hSw; (try dsimp only at hSw); go_simp; try (with_reducible rfl))
      simp only [Act.put, List.setIfInBounds_toArray, List.set_cons_zero, List.set_cons_succ]
      refine wpAnyH_take (i := 25) (oi := ⟨_, _, _, _, _, _⟩) (v := ?_) rfl (by kernel_rfl) (by kernel_rfl) (by kernel_rfl) (fun _ _ _ h => h) (Or.inl ⟨by rfl, ?_⟩) hH ?_
      rotate_left
      · (intro w hSw; (try dsimp only at hSw); go_simp; try (with_reducible rfl))
      simp only [Act.put, List.setIfInBounds_toArray, List.set_cons_zero, List.set_cons_succ]
      refine wpAnyH_take (i := 27) (oi := ⟨_, _, _, _, _, _⟩) (v := ?_) rfl (by kernel_rfl) (by kernel_rfl) (by kernel_rfl) (fun _ _ _ h => h) (Or.inl ⟨by rfl, ?_⟩) hH ?_
      rotate_left
      · (intro w hSw; (try dsimp only at hSw); go_simp; try (with_reducible rfl))
      simp only [Act.put, List.setIfInBounds_toArray, List.set_cons_zero, List.set_cons_succ]
      refine wpAnyH_ready (rs := [26]) (by kernel_rfl) (by simp) ?_
      refine AllReadyH.cons (o := ⟨_, _, _, _, _, _⟩) rfl (fun K hK => ?_) AllReadyH.nil
      go_simp
      refine (bitsD_any dn A3 n3 c3 dl de _ (h5x.below hb3) (by omega)).mono ?_
      rw [HBT.out]
      rintro e v4 ⟨rfl, hc4⟩
      have hb4 := bnext hb3 hc4
      go_wp2_with fail
      refine hK.out _ _ (HK.out _ hb4) (fun hH => ?_)
      clear hK K
      refine wpAnyH_ready (rs := [28]) (by kernel_rfl) (by simp) ?_
      refine AllReadyH.cons (o := ⟨_, _, _, _, _, _⟩) rfl (fun K hK => ?_) AllReadyH.nil
      go_simp
      refine (bitsD_any neg A n c l x _ (h5.below hb4) (by omega)).mono ?_
      rintro e v5 ⟨rfl, hc5⟩
      have hb5 := bnext hb4 hc5
      go_wp2_with fail
      refine hK.out _ _ (HK.out _ hb5) (fun hH => ?_)
      clear hK K
      refine wpAnyH_take (i := 29) (oi := ⟨_, _, _, _, _, _⟩) (v := ?_) rfl (by kernel_rfl) (by kernel_rfl) (by kernel_rfl) (fun _ _ _ h => h) (Or.inl ⟨by rfl, ?_⟩) hH ?_
      rotate_left
      · (intro w hSw; (try dsimp only at hSw); go_simp; try (with_reducible rfl))
      simp only [Act.put, List.setIfInBounds_toArray, List.set_cons_zero, List.set_cons_succ]
      refine wpAnyH_take (i := 30) (oi := ⟨_, _, _, _, _, _⟩) (v := ?_) rfl (by kernel_rfl) (by kernel_rfl) (by kernel_rfl) (fun _ _ _ h => h) (Or.inl ⟨by rfl, ?_⟩) hH ?_
      rotate_left
      · (intro w hSw; (try dsimp only at hSw); go_simp; try (with_reducible rfl))
      simp only [Act.put, List.setIfInBounds_toArray, List.set_cons_zero, List.set_cons_succ]
      refine wpAnyH_done (by kernel_rfl) ?_ _
      have hbw6 := bnext (hbw5) hb5
      have HT6 := Lib.hid (HT5.out.next hb5)
      have h6 := h5.below hb5
      have h6x := h5x.below hb5
      have k6 := k5.below hb5 k5.lt
      have k6x := k5x.below hb5 k5x.lt
      clear s0 s1 s2 t0 t1 t2 r0 r1 r2 k5 k5x k5y h5 h5x h5y HT5 hbw5 hg0 hg1 hg2 HL3 HBT
      obtain ⟨⟨⟨pn, pl, pe⟩, pk⟩, hmk⟩ : ∃ r, r = makeD false [1] k := ⟨_, rfl⟩
      have HMK := Lib.hid hmk
      have HMU2 := Lib.hid (HMU.out _ _ hmk.symm)
      have hpl : pl.length ≤ 1000000 := by
        have e := make_one k (by omega) (by omega)
        rw [← hmk] at e
        split at e
        · have := (Prod.mk.inj e).1
          injection this with _ e2 _
          rw [e2]; simp
        · have := (Prod.mk.inj e).1
          injection this with _ e2 _
          rw [e2]; simp
      clear hmk HMU
      have hb6a := ballo v5 (.cells #[.int .u32 1] 25)
      have hs6 := SL.oneAt v5 25 1 1 v5.heap.size rfl (by omega) rfl
      have HT7 := Lib.hid (HT6.out.next hb6a)
      have h7 := h6.below hb6a
      have h7x := h6x.below hb6a
      have k7 := k6.below hb6a k6.lt
      have k7x := k6x.below hb6a k6x.lt
      have hbw7 := bnext hbw6 hb6a
      clear HT6 h6 h6x k6 k6x hbw6
      go_wp2_with fail
      generalize v5.alloc (.cells #[.int .u32 1] 25) = W7 at *
      refine (make_any false _ 1 1 [1] k _ hs6 HT7.out).mono ?_
      rw [← HMK.out]
      rintro e w8 ⟨A8, n8, c8, rfl, hs8, hf8, hb8⟩
      simp only [] at hs8
      have hn8 : n8 ≤ 1000000 := by rw [← hs8.len]; exact hpl
      have hb8a := ballo w8 (.cells #[.bool pn, .slice A8 n8 c8, .int .i64 pe] 27)
      have kp := Blk.new w8 27 #[.bool pn, .slice A8 n8 c8, .int .i64 pe]
      have hb78 := bnext hb8 hb8a
      have HT8 := Lib.hid (HT7.out.next hb78)
      have h8 := h7.below hb78
      have h8x := h7x.below hb78
      have h8p := hs8.below hb8a
      have k8 := k7.below hb78 k7.lt
      have k8x := k7x.below hb78 k7x.lt
      have hbw8 := bnext hbw7 hb78
      clear HT7 h7 h7x k7 k7x hbw7 hs6 hs8 hb8 hb78 hf8 HMK hpl
      obtain ⟨s0, s1, s2⟩ := k8.cells3
      obtain ⟨t0, t1, t2⟩ := kp.cells3
      go_wp2_with fail
      generalize w8.alloc (.cells #[.bool pn, .slice A8 n8 c8, .int .i64 pe] 27) = W8 at *
      obtain ⟨⟨⟨zn, zl, ze⟩, zk⟩, hmu⟩ : ∃ r, r = mulD ⟨neg, l, x⟩ ⟨pn, pl, pe⟩ := ⟨_, rfl⟩
      have HM := Lib.hid hmu
      clear hmu
      refine (mulD_any neg pn A A8 n c n8 c8 l pl x pe _ h8 h8p HT8.out (by omega) hn8).mono ?_
      rw [← HM.out]
      rintro e w9 ⟨A9, n9, c9, rfl, hs9, hf9, hb9⟩
      simp only [] at hs9
      have hb9a := ballo w9 (.cells #[.bool zn, .slice A9 n9 c9, .int .i64 ze] 27)
      have kz := Blk.new w9 27 #[.bool zn, .slice A9 n9 c9, .int .i64 ze]
      have hb89 := bnext hb9 hb9a
      have h9x := h8x.below hb89
      have h9z := hs9.below hb9a
      have k9x := k8x.below hb89 k8x.lt
      have hbw9 := bnext hbw8 hb89
      obtain ⟨q0, q1, q2⟩ := k9x.cells3
      obtain ⟨z0, z1, z2⟩ := kz.cells3
      clear s0 s1 s2 t0 t1 t2 hb89 k8 k8x kp h8 h8x h8p hf9 hs9
      by_cases hp0 : pk = 0
      · subst hp0
        rcases HMU2.out with hbad | hgood
        · exact absurd rfl hbad
        · have e := HM.out.trans hgood
          injection e with e1 e2
          injection e1 with e3 e4 e5
          subst e2 e3 e4 e5
          clear hgood
          go_wp2_with fail
          refine (requal_any _ _ A9 A3 n9 c9 n3 c3 _ _ _ _ _ h9z h9x).mono ?_
          rw [eqD_self]
          rintro e wf ⟨rfl, hbf⟩
          go_wp2_with fail
          go_ret
          exact ⟨rfl, bnext hbw9 hbf⟩
      · have hp1 : (pk == 0) = false := by simp; omega
        go_wp2_with fail
        go_ret
        exact ⟨rfl, hbw9⟩
  · have hd1 : (dk == 0) = false := by simp; omega
    go_wp2_with fail
    go_ret
    exact ⟨rfl, hbw3⟩

end Go.Proofs.YtjhokljoomeilaaDoor
