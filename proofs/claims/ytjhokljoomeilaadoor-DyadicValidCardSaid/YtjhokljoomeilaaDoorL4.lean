/- The law DyadicValid: its walk. (Printed by gen_l4.py.) -/
import Derived.Test.YtjhokljoomeilaaDoorVar
import Derived.Deep.DeepCutAuto
namespace Go.Proofs.YtjhokljoomeilaaDoor
open Go.RowKit Pl Go.Shelf

theorem abs_neg (l : List Nat) (x : Int) (hv : vld ⟨true, l, x⟩ = true) : absD ⟨true, l, x⟩ = rnegD ⟨true, l, x⟩ := by
  by_cases hl : l = []
  · subst hl
    rw [vld_nil] at hv
    simp at hv
  · unfold absD rnegD
    rw [if_pos ⟨hv, hl⟩]
    simp
theorem abs_pos (l : List Nat) (x : Int) (hv : vld ⟨false, l, x⟩ = true) : absD ⟨false, l, x⟩ = ⟨false, l, x⟩ := by
  by_cases hl : l = []
  · subst hl
    rw [vld_nil] at hv
    simp at hv
    subst hv
    rfl
  · unfold absD
    rw [if_pos ⟨hv, hl⟩]

set_option maxRecDepth 100000 in
set_option maxHeartbeats 16000000 in
theorem lvalid_any (dn : Bool) (dA : Option Addr) (ds dc : Nat) (dl : List Nat) (de : Int) (w : World) (hd : SL w dA ds dc dl) (ht : Tabs w) :
    Calls Tryd.prog 4 #[.agg #[.bool dn, .slice dA ds dc, .int .i64 de]] w fun e w' => e = .returned (.bool true) ∧ Below w.heap.size w w' := by
  have HT := Lib.hid ht
  clear ht
  go_enter Tryd.func4, Tryd.ntmps4
  go_wp2_with fail
  have hbw := ballo w (.cells #[.bool dn, .slice dA ds dc, .int .i64 de] 27)
  have vd := Var.new w dn de hd
  replace HT := Lib.hid (HT.out.next hbw)
  generalize w.alloc (.cells #[.bool dn, .slice dA ds dc, .int .i64 de] 27) = W0 at *
  go_wp2_with fail
  refine (awake_any _ HT.out).mono ?_
  rintro e w1 ⟨rfl, hb1⟩
  replace vd := vd.next hb1
  replace hbw := bnext hbw hb1
  replace HT := Lib.hid (HT.out.next hb1)
  clear hb1
  obtain ⟨dq0, dq1, dq2⟩ := vd.cells
  have kL := Blk.new w1 27 #[.bool dn, .slice dA ds dc, .int .i64 de]
  have hbl := ballo w1 (.cells #[.bool dn, .slice dA ds dc, .int .i64 de] 27)
  go_wp2_with fail
  replace vd := vd.next hbl
  replace hbw := bnext hbw hbl
  replace HT := Lib.hid (HT.out.next hbl)
  generalize w1.alloc (.cells #[.bool dn, .slice dA ds dc, .int .i64 de] 27) = WL at *
  refine (dlong_one _ dn dA ds dc de _ _ kL).mono ?_
  rintro e wl ⟨rfl, hbl2⟩
  clear dq0 dq1 dq2
  replace vd := vd.next hbl2
  replace hbw := bnext hbw hbl2
  replace HT := Lib.hid (HT.out.next hbl2)
  clear hbl hbl2 kL
  by_cases hmd : 300 < ds
  · rw [decide_eq_true hmd]
    go_wp2_with fail
    refine (awake_any _ HT.out).mono ?_
    rintro e w2 ⟨rfl, hb2⟩
    replace vd := vd.next hb2
    replace hbw := bnext hbw hb2
    replace HT := Lib.hid (HT.out.next hb2)
    clear hb2
    go_wp2_with fail
    go_ret
    exact ⟨rfl, hbw⟩
  rw [decide_eq_false hmd]
  replace hmd : ds ≤ 300 := by omega
  obtain ⟨⟨mn, ml, me⟩, hnd⟩ : ∃ d, d = negD ⟨dn, dl, de⟩ := ⟨_, rfl⟩
  obtain ⟨⟨an, al, ae⟩, had⟩ : ∃ d, d = absD ⟨dn, dl, de⟩ := ⟨_, rfl⟩
  have HND := Lib.hid hnd
  have HAD := Lib.hid had
  clear hnd had
  go_upto_region 3 with fail
  go_cut [3, 4] (fun s3 s4 wx => Pair wl ⟨mn, ml, me⟩ ⟨an, al, ae⟩ s3 s4 wx)
  case first =>
    have HK : Hid (∀ V, Below wl.heap.size wl V → (fun V => (V.cell? ⟨w.heap.size, 0, none⟩ = some (.bool dn) ∧ V.cell? ⟨w.heap.size, 1, none⟩ = some (.slice dA ds dc) ∧ V.cell? ⟨w.heap.size, 2, none⟩ = some (.int .i64 de)) ∧ Below wl.heap.size wl V) V) := fun V hV => ⟨vd.keep V hV, hV⟩
    have hB : Below wl.heap.size wl wl.drew := below_drewN (Below.refl _ _) 1
    refine wp_region_held_drew (S := (fun V => (V.cell? ⟨w.heap.size, 0, none⟩ = some (.bool dn) ∧ V.cell? ⟨w.heap.size, 1, none⟩ = some (.slice dA ds dc) ∧ V.cell? ⟨w.heap.size, 2, none⟩ = some (.int .i64 de)) ∧ Below wl.heap.size wl V)) (by kernel_rfl) (HK.out _ hB) (fun hH => ?_)
    refine wpAnyH_take (i := 0) (oi := ⟨_, _, _, _, _, _⟩) (v := ?_) rfl (by kernel_rfl) (by kernel_rfl) (by kernel_rfl) (fun _ _ _ h => h) (Or.inl ⟨by rfl, ?_⟩) hH ?_
    rotate_left
    · (intro w hSw; (try dsimp only at hSw); go_simp; try (with_reducible rfl))
    simp only [Act.put, List.setIfInBounds_toArray, List.set_cons_zero, List.set_cons_succ]
    refine wpAnyH_take (i := 2) (oi := ⟨_, _, _, _, _, _⟩) (v := ?_) rfl (by kernel_rfl) (by kernel_rfl) (by kernel_rfl) (fun _ _ _ h => h) (Or.inl ⟨by rfl, ?_⟩) hH ?_
    rotate_left
    · (intro w hSw; (try dsimp only at hSw); go_simp; try (with_reducible rfl))
    simp only [Act.put, List.setIfInBounds_toArray, List.set_cons_zero, List.set_cons_succ]
    generalize wl.drew = V0 at *
    refine wpAnyH_ready (rs := [1, 4, 5]) (by kernel_rfl) (by simp) ?_
    refine AllReadyH.cons (o := ⟨_, _, _, _, _, _⟩) rfl (fun K hK => ?_) ?_
    · go_simp
      refine (negD_any dn dA ds dc dl de _ (vd.sl.below hB) (by omega)).mono ?_
      rw [← HND.out]
      rintro e V1 ⟨A0, n0, c0, rfl, hs0, hf0, hc0⟩
      (try dsimp only at hs0)
      go_wp2_with fail
      replace hB := bnext hB hc0
      clear hf0 hc0
      refine hK.out _ _ (HK.out _ hB) (fun hH => ?_)
      clear hK K
      refine wpAnyH_ready (rs := [3, 4, 5]) (by kernel_rfl) (by simp) ?_
      refine AllReadyH.cons (o := ⟨_, _, _, _, _, _⟩) rfl (fun K hK => ?_) ?_
      · go_simp
        refine (absD_any dn dA ds dc dl de _ (vd.sl.below hB) (by omega)).mono ?_
        rw [← HAD.out]
        rintro e V2 ⟨A1, n1, c1, rfl, hs1, hf1, hc1⟩
        (try dsimp only at hs1)
        replace hs0 := hs0.below hc1
        go_wp2_with fail
        replace hB := bnext hB hc1
        clear hf1 hc1
        refine hK.out _ _ (HK.out _ hB) (fun hH => ?_)
        clear hK K
        refine wpAnyH_ready (rs := [4, 5]) (by kernel_rfl) (by simp) ?_
        refine AllReadyH.cons (o := ⟨_, _, _, _, _, _⟩) rfl (fun K hK => ?_) ?_
        · go_simp
          have k0 := Blk.new V2 27 #[.bool false, .slice none 0 0, .int .i64 0]
          have hbz := ballo V2 (.cells #[.bool false, .slice none 0 0, .int .i64 0] 27)
          have g0W : wl.heap.size ≤ V2.heap.size := hB.size
          have o00 := Off.old hs0 (Nat.le_refl _)
          replace hs0 := hs0.below hbz
          have o10 := Off.old hs1 (Nat.le_refl _)
          replace hs1 := hs1.below hbz
          replace hB := bnext hB hbz
          clear hbz
          generalize V2.alloc (.cells #[.bool false, .slice none 0 0, .int .i64 0] 27) = V3 at *
          generalize V2.heap.size = g0 at *
          refine hK.out _ _ (HK.out _ hB) (fun hH => ?_)
          clear hK K
          refine wpAnyH_ready (rs := [5]) (by kernel_rfl) (by simp) ?_
          refine AllReadyH.cons (o := ⟨_, _, _, _, _, _⟩) rfl (fun K hK => ?_) AllReadyH.nil
          go_simp
          have k1 := Blk.new V3 27 #[.bool false, .slice none 0 0, .int .i64 0]
          have hbz := ballo V3 (.cells #[.bool false, .slice none 0 0, .int .i64 0] 27)
          have g1W : wl.heap.size ≤ V3.heap.size := hB.size
          have o01 := Off.old hs0 (Nat.le_refl _)
          replace hs0 := hs0.below hbz
          have o11 := Off.old hs1 (Nat.le_refl _)
          replace hs1 := hs1.below hbz
          have ne : g0 ≠ V3.heap.size := Nat.ne_of_lt k0.lt
          replace k0 := k0.below hbz k0.lt
          replace hB := bnext hB hbz
          clear hbz
          generalize V3.alloc (.cells #[.bool false, .slice none 0 0, .int .i64 0] 27) = V4 at *
          generalize V3.heap.size = g1 at *
          refine hK.out _ _ (HK.out _ hB) (fun hH => ?_)
          clear hK K
          refine wpAnyH_ready (rs := [6]) (by kernel_rfl) (by simp) ?_
          refine AllReadyH.cons (o := ⟨_, _, _, _, _, _⟩) rfl (fun K hK => ?_) AllReadyH.nil
          obtain ⟨q0, q1, q2⟩ := k0.cells3
          have f0 := k0.frozen 0
          have f1 := k0.frozen 1
          have f2 := k0.frozen 2
          go_simp
          clear q0 q1 q2 f0 f1 f2
          replace k0 := k0.set3 (.bool mn) (.slice A0 n0 c0) (.int .i64 me)
          replace k1 := k1.off3 (g := g0) (by omega) (.bool mn) (.slice A0 n0 c0) (.int .i64 me)
          replace hs0 := hs0.off3 o00 (.bool mn) (.slice A0 n0 c0) (.int .i64 me)
          replace hs1 := hs1.off3 o10 (.bool mn) (.slice A0 n0 c0) (.int .i64 me)
          replace hB := below_set3 hB g0W (.bool mn) (.slice A0 n0 c0) (.int .i64 me)
          generalize ((V4.setCell ⟨g0, 0, none⟩ (.bool mn)).setCell ⟨g0, 1, none⟩ (.slice A0 n0 c0)).setCell ⟨g0, 2, none⟩ (.int .i64 me) = V5 at *
          refine hK.out _ _ (HK.out _ hB) (fun hH => ?_)
          clear hK K
          refine wpAnyH_ready (rs := [7]) (by kernel_rfl) (by simp) ?_
          refine AllReadyH.cons (o := ⟨_, _, _, _, _, _⟩) rfl (fun K hK => ?_) AllReadyH.nil
          obtain ⟨q0, q1, q2⟩ := k1.cells3
          have f0 := k1.frozen 0
          have f1 := k1.frozen 1
          have f2 := k1.frozen 2
          go_simp
          clear q0 q1 q2 f0 f1 f2
          replace k1 := k1.set3 (.bool an) (.slice A1 n1 c1) (.int .i64 ae)
          replace k0 := k0.off3 (g := g1) (by omega) (.bool an) (.slice A1 n1 c1) (.int .i64 ae)
          replace hs0 := hs0.off3 o01 (.bool an) (.slice A1 n1 c1) (.int .i64 ae)
          replace hs1 := hs1.off3 o11 (.bool an) (.slice A1 n1 c1) (.int .i64 ae)
          replace hB := below_set3 hB g1W (.bool an) (.slice A1 n1 c1) (.int .i64 ae)
          generalize ((V5.setCell ⟨g1, 0, none⟩ (.bool an)).setCell ⟨g1, 1, none⟩ (.slice A1 n1 c1)).setCell ⟨g1, 2, none⟩ (.int .i64 ae) = V6 at *
          refine hK.out _ _ (HK.out _ hB) (fun hH => ?_)
          clear hK K
          refine wpAnyH_done (by kernel_rfl) ?_ _
          go_wp2_with fail
          go_meet
          exact ⟨g0, g1, A0, A1, n0, c0, n1, c1, rfl, rfl, k0, hs0, k1, hs1, hB⟩
        refine AllReadyH.cons (o := ⟨_, _, _, _, _, _⟩) rfl (fun K hK => ?_) AllReadyH.nil
        go_simp
        have k1 := Blk.new V2 27 #[.bool false, .slice none 0 0, .int .i64 0]
        have hbz := ballo V2 (.cells #[.bool false, .slice none 0 0, .int .i64 0] 27)
        have g1W : wl.heap.size ≤ V2.heap.size := hB.size
        have o01 := Off.old hs0 (Nat.le_refl _)
        replace hs0 := hs0.below hbz
        have o11 := Off.old hs1 (Nat.le_refl _)
        replace hs1 := hs1.below hbz
        replace hB := bnext hB hbz
        clear hbz
        generalize V2.alloc (.cells #[.bool false, .slice none 0 0, .int .i64 0] 27) = V7 at *
        generalize V2.heap.size = g1 at *
        refine hK.out _ _ (HK.out _ hB) (fun hH => ?_)
        clear hK K
        refine wpAnyH_ready (rs := [4]) (by kernel_rfl) (by simp) ?_
        refine AllReadyH.cons (o := ⟨_, _, _, _, _, _⟩) rfl (fun K hK => ?_) AllReadyH.nil
        go_simp
        have k0 := Blk.new V7 27 #[.bool false, .slice none 0 0, .int .i64 0]
        have hbz := ballo V7 (.cells #[.bool false, .slice none 0 0, .int .i64 0] 27)
        have g0W : wl.heap.size ≤ V7.heap.size := hB.size
        have o00 := Off.old hs0 (Nat.le_refl _)
        replace hs0 := hs0.below hbz
        have o10 := Off.old hs1 (Nat.le_refl _)
        replace hs1 := hs1.below hbz
        have ne : g1 ≠ V7.heap.size := Nat.ne_of_lt k1.lt
        replace k1 := k1.below hbz k1.lt
        replace hB := bnext hB hbz
        clear hbz
        generalize V7.alloc (.cells #[.bool false, .slice none 0 0, .int .i64 0] 27) = V8 at *
        generalize V7.heap.size = g0 at *
        refine hK.out _ _ (HK.out _ hB) (fun hH => ?_)
        clear hK K
        refine wpAnyH_ready (rs := [6]) (by kernel_rfl) (by simp) ?_
        refine AllReadyH.cons (o := ⟨_, _, _, _, _, _⟩) rfl (fun K hK => ?_) AllReadyH.nil
        obtain ⟨q0, q1, q2⟩ := k0.cells3
        have f0 := k0.frozen 0
        have f1 := k0.frozen 1
        have f2 := k0.frozen 2
        go_simp
        clear q0 q1 q2 f0 f1 f2
        replace k0 := k0.set3 (.bool mn) (.slice A0 n0 c0) (.int .i64 me)
        replace k1 := k1.off3 (g := g0) (by omega) (.bool mn) (.slice A0 n0 c0) (.int .i64 me)
        replace hs0 := hs0.off3 o00 (.bool mn) (.slice A0 n0 c0) (.int .i64 me)
        replace hs1 := hs1.off3 o10 (.bool mn) (.slice A0 n0 c0) (.int .i64 me)
        replace hB := below_set3 hB g0W (.bool mn) (.slice A0 n0 c0) (.int .i64 me)
        generalize ((V8.setCell ⟨g0, 0, none⟩ (.bool mn)).setCell ⟨g0, 1, none⟩ (.slice A0 n0 c0)).setCell ⟨g0, 2, none⟩ (.int .i64 me) = V9 at *
        refine hK.out _ _ (HK.out _ hB) (fun hH => ?_)
        clear hK K
        refine wpAnyH_ready (rs := [7]) (by kernel_rfl) (by simp) ?_
        refine AllReadyH.cons (o := ⟨_, _, _, _, _, _⟩) rfl (fun K hK => ?_) AllReadyH.nil
        obtain ⟨q0, q1, q2⟩ := k1.cells3
        have f0 := k1.frozen 0
        have f1 := k1.frozen 1
        have f2 := k1.frozen 2
        go_simp
        clear q0 q1 q2 f0 f1 f2
        replace k1 := k1.set3 (.bool an) (.slice A1 n1 c1) (.int .i64 ae)
        replace k0 := k0.off3 (g := g1) (by omega) (.bool an) (.slice A1 n1 c1) (.int .i64 ae)
        replace hs0 := hs0.off3 o01 (.bool an) (.slice A1 n1 c1) (.int .i64 ae)
        replace hs1 := hs1.off3 o11 (.bool an) (.slice A1 n1 c1) (.int .i64 ae)
        replace hB := below_set3 hB g1W (.bool an) (.slice A1 n1 c1) (.int .i64 ae)
        generalize ((V9.setCell ⟨g1, 0, none⟩ (.bool an)).setCell ⟨g1, 1, none⟩ (.slice A1 n1 c1)).setCell ⟨g1, 2, none⟩ (.int .i64 ae) = V10 at *
        refine hK.out _ _ (HK.out _ hB) (fun hH => ?_)
        clear hK K
        refine wpAnyH_done (by kernel_rfl) ?_ _
        go_wp2_with fail
        go_meet
        exact ⟨g0, g1, A0, A1, n0, c0, n1, c1, rfl, rfl, k0, hs0, k1, hs1, hB⟩
      refine AllReadyH.cons (o := ⟨_, _, _, _, _, _⟩) rfl (fun K hK => ?_) ?_
      · go_simp
        have k0 := Blk.new V1 27 #[.bool false, .slice none 0 0, .int .i64 0]
        have hbz := ballo V1 (.cells #[.bool false, .slice none 0 0, .int .i64 0] 27)
        have g0W : wl.heap.size ≤ V1.heap.size := hB.size
        have o00 := Off.old hs0 (Nat.le_refl _)
        replace hs0 := hs0.below hbz
        replace hB := bnext hB hbz
        clear hbz
        generalize V1.alloc (.cells #[.bool false, .slice none 0 0, .int .i64 0] 27) = V11 at *
        generalize V1.heap.size = g0 at *
        refine hK.out _ _ (HK.out _ hB) (fun hH => ?_)
        clear hK K
        refine wpAnyH_ready (rs := [3, 5]) (by kernel_rfl) (by simp) ?_
        refine AllReadyH.cons (o := ⟨_, _, _, _, _, _⟩) rfl (fun K hK => ?_) ?_
        · go_simp
          refine (absD_any dn dA ds dc dl de _ (vd.sl.below hB) (by omega)).mono ?_
          rw [← HAD.out]
          rintro e V12 ⟨A1, n1, c1, rfl, hs1, hf1, hc1⟩
          (try dsimp only at hs1)
          have o10 := Off.fresh hf1 k0.lt
          replace k0 := k0.below hc1 k0.lt
          replace hs0 := hs0.below hc1
          go_wp2_with fail
          replace hB := bnext hB hc1
          clear hf1 hc1
          refine hK.out _ _ (HK.out _ hB) (fun hH => ?_)
          clear hK K
          refine wpAnyH_ready (rs := [5]) (by kernel_rfl) (by simp) ?_
          refine AllReadyH.cons (o := ⟨_, _, _, _, _, _⟩) rfl (fun K hK => ?_) AllReadyH.nil
          go_simp
          have k1 := Blk.new V12 27 #[.bool false, .slice none 0 0, .int .i64 0]
          have hbz := ballo V12 (.cells #[.bool false, .slice none 0 0, .int .i64 0] 27)
          have g1W : wl.heap.size ≤ V12.heap.size := hB.size
          have o01 := Off.old hs0 (Nat.le_refl _)
          replace hs0 := hs0.below hbz
          have o11 := Off.old hs1 (Nat.le_refl _)
          replace hs1 := hs1.below hbz
          have ne : g0 ≠ V12.heap.size := Nat.ne_of_lt k0.lt
          replace k0 := k0.below hbz k0.lt
          replace hB := bnext hB hbz
          clear hbz
          generalize V12.alloc (.cells #[.bool false, .slice none 0 0, .int .i64 0] 27) = V13 at *
          generalize V12.heap.size = g1 at *
          refine hK.out _ _ (HK.out _ hB) (fun hH => ?_)
          clear hK K
          refine wpAnyH_ready (rs := [6]) (by kernel_rfl) (by simp) ?_
          refine AllReadyH.cons (o := ⟨_, _, _, _, _, _⟩) rfl (fun K hK => ?_) AllReadyH.nil
          obtain ⟨q0, q1, q2⟩ := k0.cells3
          have f0 := k0.frozen 0
          have f1 := k0.frozen 1
          have f2 := k0.frozen 2
          go_simp
          clear q0 q1 q2 f0 f1 f2
          replace k0 := k0.set3 (.bool mn) (.slice A0 n0 c0) (.int .i64 me)
          replace k1 := k1.off3 (g := g0) (by omega) (.bool mn) (.slice A0 n0 c0) (.int .i64 me)
          replace hs0 := hs0.off3 o00 (.bool mn) (.slice A0 n0 c0) (.int .i64 me)
          replace hs1 := hs1.off3 o10 (.bool mn) (.slice A0 n0 c0) (.int .i64 me)
          replace hB := below_set3 hB g0W (.bool mn) (.slice A0 n0 c0) (.int .i64 me)
          generalize ((V13.setCell ⟨g0, 0, none⟩ (.bool mn)).setCell ⟨g0, 1, none⟩ (.slice A0 n0 c0)).setCell ⟨g0, 2, none⟩ (.int .i64 me) = V14 at *
          refine hK.out _ _ (HK.out _ hB) (fun hH => ?_)
          clear hK K
          refine wpAnyH_ready (rs := [7]) (by kernel_rfl) (by simp) ?_
          refine AllReadyH.cons (o := ⟨_, _, _, _, _, _⟩) rfl (fun K hK => ?_) AllReadyH.nil
          obtain ⟨q0, q1, q2⟩ := k1.cells3
          have f0 := k1.frozen 0
          have f1 := k1.frozen 1
          have f2 := k1.frozen 2
          go_simp
          clear q0 q1 q2 f0 f1 f2
          replace k1 := k1.set3 (.bool an) (.slice A1 n1 c1) (.int .i64 ae)
          replace k0 := k0.off3 (g := g1) (by omega) (.bool an) (.slice A1 n1 c1) (.int .i64 ae)
          replace hs0 := hs0.off3 o01 (.bool an) (.slice A1 n1 c1) (.int .i64 ae)
          replace hs1 := hs1.off3 o11 (.bool an) (.slice A1 n1 c1) (.int .i64 ae)
          replace hB := below_set3 hB g1W (.bool an) (.slice A1 n1 c1) (.int .i64 ae)
          generalize ((V14.setCell ⟨g1, 0, none⟩ (.bool an)).setCell ⟨g1, 1, none⟩ (.slice A1 n1 c1)).setCell ⟨g1, 2, none⟩ (.int .i64 ae) = V15 at *
          refine hK.out _ _ (HK.out _ hB) (fun hH => ?_)
          clear hK K
          refine wpAnyH_done (by kernel_rfl) ?_ _
          go_wp2_with fail
          go_meet
          exact ⟨g0, g1, A0, A1, n0, c0, n1, c1, rfl, rfl, k0, hs0, k1, hs1, hB⟩
        refine AllReadyH.cons (o := ⟨_, _, _, _, _, _⟩) rfl (fun K hK => ?_) AllReadyH.nil
        go_simp
        have k1 := Blk.new V11 27 #[.bool false, .slice none 0 0, .int .i64 0]
        have hbz := ballo V11 (.cells #[.bool false, .slice none 0 0, .int .i64 0] 27)
        have g1W : wl.heap.size ≤ V11.heap.size := hB.size
        have o01 := Off.old hs0 (Nat.le_refl _)
        replace hs0 := hs0.below hbz
        have ne : g0 ≠ V11.heap.size := Nat.ne_of_lt k0.lt
        replace k0 := k0.below hbz k0.lt
        replace hB := bnext hB hbz
        clear hbz
        generalize V11.alloc (.cells #[.bool false, .slice none 0 0, .int .i64 0] 27) = V16 at *
        generalize V11.heap.size = g1 at *
        refine hK.out _ _ (HK.out _ hB) (fun hH => ?_)
        clear hK K
        refine wpAnyH_ready (rs := [3]) (by kernel_rfl) (by simp) ?_
        refine AllReadyH.cons (o := ⟨_, _, _, _, _, _⟩) rfl (fun K hK => ?_) AllReadyH.nil
        go_simp
        refine (absD_any dn dA ds dc dl de _ (vd.sl.below hB) (by omega)).mono ?_
        rw [← HAD.out]
        rintro e V17 ⟨A1, n1, c1, rfl, hs1, hf1, hc1⟩
        (try dsimp only at hs1)
        have o10 := Off.fresh hf1 k0.lt
        replace k0 := k0.below hc1 k0.lt
        have o11 := Off.fresh hf1 k1.lt
        replace k1 := k1.below hc1 k1.lt
        replace hs0 := hs0.below hc1
        go_wp2_with fail
        replace hB := bnext hB hc1
        clear hf1 hc1
        refine hK.out _ _ (HK.out _ hB) (fun hH => ?_)
        clear hK K
        refine wpAnyH_ready (rs := [6]) (by kernel_rfl) (by simp) ?_
        refine AllReadyH.cons (o := ⟨_, _, _, _, _, _⟩) rfl (fun K hK => ?_) AllReadyH.nil
        obtain ⟨q0, q1, q2⟩ := k0.cells3
        have f0 := k0.frozen 0
        have f1 := k0.frozen 1
        have f2 := k0.frozen 2
        go_simp
        clear q0 q1 q2 f0 f1 f2
        replace k0 := k0.set3 (.bool mn) (.slice A0 n0 c0) (.int .i64 me)
        replace k1 := k1.off3 (g := g0) (by omega) (.bool mn) (.slice A0 n0 c0) (.int .i64 me)
        replace hs0 := hs0.off3 o00 (.bool mn) (.slice A0 n0 c0) (.int .i64 me)
        replace hs1 := hs1.off3 o10 (.bool mn) (.slice A0 n0 c0) (.int .i64 me)
        replace hB := below_set3 hB g0W (.bool mn) (.slice A0 n0 c0) (.int .i64 me)
        generalize ((V17.setCell ⟨g0, 0, none⟩ (.bool mn)).setCell ⟨g0, 1, none⟩ (.slice A0 n0 c0)).setCell ⟨g0, 2, none⟩ (.int .i64 me) = V18 at *
        refine hK.out _ _ (HK.out _ hB) (fun hH => ?_)
        clear hK K
        refine wpAnyH_ready (rs := [7]) (by kernel_rfl) (by simp) ?_
        refine AllReadyH.cons (o := ⟨_, _, _, _, _, _⟩) rfl (fun K hK => ?_) AllReadyH.nil
        obtain ⟨q0, q1, q2⟩ := k1.cells3
        have f0 := k1.frozen 0
        have f1 := k1.frozen 1
        have f2 := k1.frozen 2
        go_simp
        clear q0 q1 q2 f0 f1 f2
        replace k1 := k1.set3 (.bool an) (.slice A1 n1 c1) (.int .i64 ae)
        replace k0 := k0.off3 (g := g1) (by omega) (.bool an) (.slice A1 n1 c1) (.int .i64 ae)
        replace hs0 := hs0.off3 o01 (.bool an) (.slice A1 n1 c1) (.int .i64 ae)
        replace hs1 := hs1.off3 o11 (.bool an) (.slice A1 n1 c1) (.int .i64 ae)
        replace hB := below_set3 hB g1W (.bool an) (.slice A1 n1 c1) (.int .i64 ae)
        generalize ((V18.setCell ⟨g1, 0, none⟩ (.bool an)).setCell ⟨g1, 1, none⟩ (.slice A1 n1 c1)).setCell ⟨g1, 2, none⟩ (.int .i64 ae) = V19 at *
        refine hK.out _ _ (HK.out _ hB) (fun hH => ?_)
        clear hK K
        refine wpAnyH_done (by kernel_rfl) ?_ _
        go_wp2_with fail
        go_meet
        exact ⟨g0, g1, A0, A1, n0, c0, n1, c1, rfl, rfl, k0, hs0, k1, hs1, hB⟩
      refine AllReadyH.cons (o := ⟨_, _, _, _, _, _⟩) rfl (fun K hK => ?_) AllReadyH.nil
      go_simp
      have k1 := Blk.new V1 27 #[.bool false, .slice none 0 0, .int .i64 0]
      have hbz := ballo V1 (.cells #[.bool false, .slice none 0 0, .int .i64 0] 27)
      have g1W : wl.heap.size ≤ V1.heap.size := hB.size
      have o01 := Off.old hs0 (Nat.le_refl _)
      replace hs0 := hs0.below hbz
      replace hB := bnext hB hbz
      clear hbz
      generalize V1.alloc (.cells #[.bool false, .slice none 0 0, .int .i64 0] 27) = V20 at *
      generalize V1.heap.size = g1 at *
      refine hK.out _ _ (HK.out _ hB) (fun hH => ?_)
      clear hK K
      refine wpAnyH_ready (rs := [3, 4]) (by kernel_rfl) (by simp) ?_
      refine AllReadyH.cons (o := ⟨_, _, _, _, _, _⟩) rfl (fun K hK => ?_) ?_
      · go_simp
        refine (absD_any dn dA ds dc dl de _ (vd.sl.below hB) (by omega)).mono ?_
        rw [← HAD.out]
        rintro e V21 ⟨A1, n1, c1, rfl, hs1, hf1, hc1⟩
        (try dsimp only at hs1)
        have o11 := Off.fresh hf1 k1.lt
        replace k1 := k1.below hc1 k1.lt
        replace hs0 := hs0.below hc1
        go_wp2_with fail
        replace hB := bnext hB hc1
        clear hf1 hc1
        refine hK.out _ _ (HK.out _ hB) (fun hH => ?_)
        clear hK K
        refine wpAnyH_ready (rs := [4]) (by kernel_rfl) (by simp) ?_
        refine AllReadyH.cons (o := ⟨_, _, _, _, _, _⟩) rfl (fun K hK => ?_) AllReadyH.nil
        go_simp
        have k0 := Blk.new V21 27 #[.bool false, .slice none 0 0, .int .i64 0]
        have hbz := ballo V21 (.cells #[.bool false, .slice none 0 0, .int .i64 0] 27)
        have g0W : wl.heap.size ≤ V21.heap.size := hB.size
        have o00 := Off.old hs0 (Nat.le_refl _)
        replace hs0 := hs0.below hbz
        have o10 := Off.old hs1 (Nat.le_refl _)
        replace hs1 := hs1.below hbz
        have ne : g1 ≠ V21.heap.size := Nat.ne_of_lt k1.lt
        replace k1 := k1.below hbz k1.lt
        replace hB := bnext hB hbz
        clear hbz
        generalize V21.alloc (.cells #[.bool false, .slice none 0 0, .int .i64 0] 27) = V22 at *
        generalize V21.heap.size = g0 at *
        refine hK.out _ _ (HK.out _ hB) (fun hH => ?_)
        clear hK K
        refine wpAnyH_ready (rs := [6]) (by kernel_rfl) (by simp) ?_
        refine AllReadyH.cons (o := ⟨_, _, _, _, _, _⟩) rfl (fun K hK => ?_) AllReadyH.nil
        obtain ⟨q0, q1, q2⟩ := k0.cells3
        have f0 := k0.frozen 0
        have f1 := k0.frozen 1
        have f2 := k0.frozen 2
        go_simp
        clear q0 q1 q2 f0 f1 f2
        replace k0 := k0.set3 (.bool mn) (.slice A0 n0 c0) (.int .i64 me)
        replace k1 := k1.off3 (g := g0) (by omega) (.bool mn) (.slice A0 n0 c0) (.int .i64 me)
        replace hs0 := hs0.off3 o00 (.bool mn) (.slice A0 n0 c0) (.int .i64 me)
        replace hs1 := hs1.off3 o10 (.bool mn) (.slice A0 n0 c0) (.int .i64 me)
        replace hB := below_set3 hB g0W (.bool mn) (.slice A0 n0 c0) (.int .i64 me)
        generalize ((V22.setCell ⟨g0, 0, none⟩ (.bool mn)).setCell ⟨g0, 1, none⟩ (.slice A0 n0 c0)).setCell ⟨g0, 2, none⟩ (.int .i64 me) = V23 at *
        refine hK.out _ _ (HK.out _ hB) (fun hH => ?_)
        clear hK K
        refine wpAnyH_ready (rs := [7]) (by kernel_rfl) (by simp) ?_
        refine AllReadyH.cons (o := ⟨_, _, _, _, _, _⟩) rfl (fun K hK => ?_) AllReadyH.nil
        obtain ⟨q0, q1, q2⟩ := k1.cells3
        have f0 := k1.frozen 0
        have f1 := k1.frozen 1
        have f2 := k1.frozen 2
        go_simp
        clear q0 q1 q2 f0 f1 f2
        replace k1 := k1.set3 (.bool an) (.slice A1 n1 c1) (.int .i64 ae)
        replace k0 := k0.off3 (g := g1) (by omega) (.bool an) (.slice A1 n1 c1) (.int .i64 ae)
        replace hs0 := hs0.off3 o01 (.bool an) (.slice A1 n1 c1) (.int .i64 ae)
        replace hs1 := hs1.off3 o11 (.bool an) (.slice A1 n1 c1) (.int .i64 ae)
        replace hB := below_set3 hB g1W (.bool an) (.slice A1 n1 c1) (.int .i64 ae)
        generalize ((V23.setCell ⟨g1, 0, none⟩ (.bool an)).setCell ⟨g1, 1, none⟩ (.slice A1 n1 c1)).setCell ⟨g1, 2, none⟩ (.int .i64 ae) = V24 at *
        refine hK.out _ _ (HK.out _ hB) (fun hH => ?_)
        clear hK K
        refine wpAnyH_done (by kernel_rfl) ?_ _
        go_wp2_with fail
        go_meet
        exact ⟨g0, g1, A0, A1, n0, c0, n1, c1, rfl, rfl, k0, hs0, k1, hs1, hB⟩
      refine AllReadyH.cons (o := ⟨_, _, _, _, _, _⟩) rfl (fun K hK => ?_) AllReadyH.nil
      go_simp
      have k0 := Blk.new V20 27 #[.bool false, .slice none 0 0, .int .i64 0]
      have hbz := ballo V20 (.cells #[.bool false, .slice none 0 0, .int .i64 0] 27)
      have g0W : wl.heap.size ≤ V20.heap.size := hB.size
      have o00 := Off.old hs0 (Nat.le_refl _)
      replace hs0 := hs0.below hbz
      have ne : g1 ≠ V20.heap.size := Nat.ne_of_lt k1.lt
      replace k1 := k1.below hbz k1.lt
      replace hB := bnext hB hbz
      clear hbz
      generalize V20.alloc (.cells #[.bool false, .slice none 0 0, .int .i64 0] 27) = V25 at *
      generalize V20.heap.size = g0 at *
      refine hK.out _ _ (HK.out _ hB) (fun hH => ?_)
      clear hK K
      refine wpAnyH_ready (rs := [3]) (by kernel_rfl) (by simp) ?_
      refine AllReadyH.cons (o := ⟨_, _, _, _, _, _⟩) rfl (fun K hK => ?_) AllReadyH.nil
      go_simp
      refine (absD_any dn dA ds dc dl de _ (vd.sl.below hB) (by omega)).mono ?_
      rw [← HAD.out]
      rintro e V26 ⟨A1, n1, c1, rfl, hs1, hf1, hc1⟩
      (try dsimp only at hs1)
      have o10 := Off.fresh hf1 k0.lt
      replace k0 := k0.below hc1 k0.lt
      have o11 := Off.fresh hf1 k1.lt
      replace k1 := k1.below hc1 k1.lt
      replace hs0 := hs0.below hc1
      go_wp2_with fail
      replace hB := bnext hB hc1
      clear hf1 hc1
      refine hK.out _ _ (HK.out _ hB) (fun hH => ?_)
      clear hK K
      refine wpAnyH_ready (rs := [6]) (by kernel_rfl) (by simp) ?_
      refine AllReadyH.cons (o := ⟨_, _, _, _, _, _⟩) rfl (fun K hK => ?_) AllReadyH.nil
      obtain ⟨q0, q1, q2⟩ := k0.cells3
      have f0 := k0.frozen 0
      have f1 := k0.frozen 1
      have f2 := k0.frozen 2
      go_simp
      clear q0 q1 q2 f0 f1 f2
      replace k0 := k0.set3 (.bool mn) (.slice A0 n0 c0) (.int .i64 me)
      replace k1 := k1.off3 (g := g0) (by omega) (.bool mn) (.slice A0 n0 c0) (.int .i64 me)
      replace hs0 := hs0.off3 o00 (.bool mn) (.slice A0 n0 c0) (.int .i64 me)
      replace hs1 := hs1.off3 o10 (.bool mn) (.slice A0 n0 c0) (.int .i64 me)
      replace hB := below_set3 hB g0W (.bool mn) (.slice A0 n0 c0) (.int .i64 me)
      generalize ((V26.setCell ⟨g0, 0, none⟩ (.bool mn)).setCell ⟨g0, 1, none⟩ (.slice A0 n0 c0)).setCell ⟨g0, 2, none⟩ (.int .i64 me) = V27 at *
      refine hK.out _ _ (HK.out _ hB) (fun hH => ?_)
      clear hK K
      refine wpAnyH_ready (rs := [7]) (by kernel_rfl) (by simp) ?_
      refine AllReadyH.cons (o := ⟨_, _, _, _, _, _⟩) rfl (fun K hK => ?_) AllReadyH.nil
      obtain ⟨q0, q1, q2⟩ := k1.cells3
      have f0 := k1.frozen 0
      have f1 := k1.frozen 1
      have f2 := k1.frozen 2
      go_simp
      clear q0 q1 q2 f0 f1 f2
      replace k1 := k1.set3 (.bool an) (.slice A1 n1 c1) (.int .i64 ae)
      replace k0 := k0.off3 (g := g1) (by omega) (.bool an) (.slice A1 n1 c1) (.int .i64 ae)
      replace hs0 := hs0.off3 o01 (.bool an) (.slice A1 n1 c1) (.int .i64 ae)
      replace hs1 := hs1.off3 o11 (.bool an) (.slice A1 n1 c1) (.int .i64 ae)
      replace hB := below_set3 hB g1W (.bool an) (.slice A1 n1 c1) (.int .i64 ae)
      generalize ((V27.setCell ⟨g1, 0, none⟩ (.bool an)).setCell ⟨g1, 1, none⟩ (.slice A1 n1 c1)).setCell ⟨g1, 2, none⟩ (.int .i64 ae) = V28 at *
      refine hK.out _ _ (HK.out _ hB) (fun hH => ?_)
      clear hK K
      refine wpAnyH_done (by kernel_rfl) ?_ _
      go_wp2_with fail
      go_meet
      exact ⟨g0, g1, A0, A1, n0, c0, n1, c1, rfl, rfl, k0, hs0, k1, hs1, hB⟩
    refine AllReadyH.cons (o := ⟨_, _, _, _, _, _⟩) rfl (fun K hK => ?_) ?_
    · go_simp
      have k0 := Blk.new V0 27 #[.bool false, .slice none 0 0, .int .i64 0]
      have hbz := ballo V0 (.cells #[.bool false, .slice none 0 0, .int .i64 0] 27)
      have g0W : wl.heap.size ≤ V0.heap.size := hB.size
      replace hB := bnext hB hbz
      clear hbz
      generalize V0.alloc (.cells #[.bool false, .slice none 0 0, .int .i64 0] 27) = V29 at *
      generalize V0.heap.size = g0 at *
      refine hK.out _ _ (HK.out _ hB) (fun hH => ?_)
      clear hK K
      refine wpAnyH_ready (rs := [1, 5]) (by kernel_rfl) (by simp) ?_
      refine AllReadyH.cons (o := ⟨_, _, _, _, _, _⟩) rfl (fun K hK => ?_) ?_
      · go_simp
        refine (negD_any dn dA ds dc dl de _ (vd.sl.below hB) (by omega)).mono ?_
        rw [← HND.out]
        rintro e V30 ⟨A0, n0, c0, rfl, hs0, hf0, hc0⟩
        (try dsimp only at hs0)
        have o00 := Off.fresh hf0 k0.lt
        replace k0 := k0.below hc0 k0.lt
        go_wp2_with fail
        replace hB := bnext hB hc0
        clear hf0 hc0
        refine hK.out _ _ (HK.out _ hB) (fun hH => ?_)
        clear hK K
        refine wpAnyH_ready (rs := [3, 5]) (by kernel_rfl) (by simp) ?_
        refine AllReadyH.cons (o := ⟨_, _, _, _, _, _⟩) rfl (fun K hK => ?_) ?_
        · go_simp
          refine (absD_any dn dA ds dc dl de _ (vd.sl.below hB) (by omega)).mono ?_
          rw [← HAD.out]
          rintro e V31 ⟨A1, n1, c1, rfl, hs1, hf1, hc1⟩
          (try dsimp only at hs1)
          have o10 := Off.fresh hf1 k0.lt
          replace k0 := k0.below hc1 k0.lt
          replace hs0 := hs0.below hc1
          go_wp2_with fail
          replace hB := bnext hB hc1
          clear hf1 hc1
          refine hK.out _ _ (HK.out _ hB) (fun hH => ?_)
          clear hK K
          refine wpAnyH_ready (rs := [5]) (by kernel_rfl) (by simp) ?_
          refine AllReadyH.cons (o := ⟨_, _, _, _, _, _⟩) rfl (fun K hK => ?_) AllReadyH.nil
          go_simp
          have k1 := Blk.new V31 27 #[.bool false, .slice none 0 0, .int .i64 0]
          have hbz := ballo V31 (.cells #[.bool false, .slice none 0 0, .int .i64 0] 27)
          have g1W : wl.heap.size ≤ V31.heap.size := hB.size
          have o01 := Off.old hs0 (Nat.le_refl _)
          replace hs0 := hs0.below hbz
          have o11 := Off.old hs1 (Nat.le_refl _)
          replace hs1 := hs1.below hbz
          have ne : g0 ≠ V31.heap.size := Nat.ne_of_lt k0.lt
          replace k0 := k0.below hbz k0.lt
          replace hB := bnext hB hbz
          clear hbz
          generalize V31.alloc (.cells #[.bool false, .slice none 0 0, .int .i64 0] 27) = V32 at *
          generalize V31.heap.size = g1 at *
          refine hK.out _ _ (HK.out _ hB) (fun hH => ?_)
          clear hK K
          refine wpAnyH_ready (rs := [6]) (by kernel_rfl) (by simp) ?_
          refine AllReadyH.cons (o := ⟨_, _, _, _, _, _⟩) rfl (fun K hK => ?_) AllReadyH.nil
          obtain ⟨q0, q1, q2⟩ := k0.cells3
          have f0 := k0.frozen 0
          have f1 := k0.frozen 1
          have f2 := k0.frozen 2
          go_simp
          clear q0 q1 q2 f0 f1 f2
          replace k0 := k0.set3 (.bool mn) (.slice A0 n0 c0) (.int .i64 me)
          replace k1 := k1.off3 (g := g0) (by omega) (.bool mn) (.slice A0 n0 c0) (.int .i64 me)
          replace hs0 := hs0.off3 o00 (.bool mn) (.slice A0 n0 c0) (.int .i64 me)
          replace hs1 := hs1.off3 o10 (.bool mn) (.slice A0 n0 c0) (.int .i64 me)
          replace hB := below_set3 hB g0W (.bool mn) (.slice A0 n0 c0) (.int .i64 me)
          generalize ((V32.setCell ⟨g0, 0, none⟩ (.bool mn)).setCell ⟨g0, 1, none⟩ (.slice A0 n0 c0)).setCell ⟨g0, 2, none⟩ (.int .i64 me) = V33 at *
          refine hK.out _ _ (HK.out _ hB) (fun hH => ?_)
          clear hK K
          refine wpAnyH_ready (rs := [7]) (by kernel_rfl) (by simp) ?_
          refine AllReadyH.cons (o := ⟨_, _, _, _, _, _⟩) rfl (fun K hK => ?_) AllReadyH.nil
          obtain ⟨q0, q1, q2⟩ := k1.cells3
          have f0 := k1.frozen 0
          have f1 := k1.frozen 1
          have f2 := k1.frozen 2
          go_simp
          clear q0 q1 q2 f0 f1 f2
          replace k1 := k1.set3 (.bool an) (.slice A1 n1 c1) (.int .i64 ae)
          replace k0 := k0.off3 (g := g1) (by omega) (.bool an) (.slice A1 n1 c1) (.int .i64 ae)
          replace hs0 := hs0.off3 o01 (.bool an) (.slice A1 n1 c1) (.int .i64 ae)
          replace hs1 := hs1.off3 o11 (.bool an) (.slice A1 n1 c1) (.int .i64 ae)
          replace hB := below_set3 hB g1W (.bool an) (.slice A1 n1 c1) (.int .i64 ae)
          generalize ((V33.setCell ⟨g1, 0, none⟩ (.bool an)).setCell ⟨g1, 1, none⟩ (.slice A1 n1 c1)).setCell ⟨g1, 2, none⟩ (.int .i64 ae) = V34 at *
          refine hK.out _ _ (HK.out _ hB) (fun hH => ?_)
          clear hK K
          refine wpAnyH_done (by kernel_rfl) ?_ _
          go_wp2_with fail
          go_meet
          exact ⟨g0, g1, A0, A1, n0, c0, n1, c1, rfl, rfl, k0, hs0, k1, hs1, hB⟩
        refine AllReadyH.cons (o := ⟨_, _, _, _, _, _⟩) rfl (fun K hK => ?_) AllReadyH.nil
        go_simp
        have k1 := Blk.new V30 27 #[.bool false, .slice none 0 0, .int .i64 0]
        have hbz := ballo V30 (.cells #[.bool false, .slice none 0 0, .int .i64 0] 27)
        have g1W : wl.heap.size ≤ V30.heap.size := hB.size
        have o01 := Off.old hs0 (Nat.le_refl _)
        replace hs0 := hs0.below hbz
        have ne : g0 ≠ V30.heap.size := Nat.ne_of_lt k0.lt
        replace k0 := k0.below hbz k0.lt
        replace hB := bnext hB hbz
        clear hbz
        generalize V30.alloc (.cells #[.bool false, .slice none 0 0, .int .i64 0] 27) = V35 at *
        generalize V30.heap.size = g1 at *
        refine hK.out _ _ (HK.out _ hB) (fun hH => ?_)
        clear hK K
        refine wpAnyH_ready (rs := [3]) (by kernel_rfl) (by simp) ?_
        refine AllReadyH.cons (o := ⟨_, _, _, _, _, _⟩) rfl (fun K hK => ?_) AllReadyH.nil
        go_simp
        refine (absD_any dn dA ds dc dl de _ (vd.sl.below hB) (by omega)).mono ?_
        rw [← HAD.out]
        rintro e V36 ⟨A1, n1, c1, rfl, hs1, hf1, hc1⟩
        (try dsimp only at hs1)
        have o10 := Off.fresh hf1 k0.lt
        replace k0 := k0.below hc1 k0.lt
        have o11 := Off.fresh hf1 k1.lt
        replace k1 := k1.below hc1 k1.lt
        replace hs0 := hs0.below hc1
        go_wp2_with fail
        replace hB := bnext hB hc1
        clear hf1 hc1
        refine hK.out _ _ (HK.out _ hB) (fun hH => ?_)
        clear hK K
        refine wpAnyH_ready (rs := [6]) (by kernel_rfl) (by simp) ?_
        refine AllReadyH.cons (o := ⟨_, _, _, _, _, _⟩) rfl (fun K hK => ?_) AllReadyH.nil
        obtain ⟨q0, q1, q2⟩ := k0.cells3
        have f0 := k0.frozen 0
        have f1 := k0.frozen 1
        have f2 := k0.frozen 2
        go_simp
        clear q0 q1 q2 f0 f1 f2
        replace k0 := k0.set3 (.bool mn) (.slice A0 n0 c0) (.int .i64 me)
        replace k1 := k1.off3 (g := g0) (by omega) (.bool mn) (.slice A0 n0 c0) (.int .i64 me)
        replace hs0 := hs0.off3 o00 (.bool mn) (.slice A0 n0 c0) (.int .i64 me)
        replace hs1 := hs1.off3 o10 (.bool mn) (.slice A0 n0 c0) (.int .i64 me)
        replace hB := below_set3 hB g0W (.bool mn) (.slice A0 n0 c0) (.int .i64 me)
        generalize ((V36.setCell ⟨g0, 0, none⟩ (.bool mn)).setCell ⟨g0, 1, none⟩ (.slice A0 n0 c0)).setCell ⟨g0, 2, none⟩ (.int .i64 me) = V37 at *
        refine hK.out _ _ (HK.out _ hB) (fun hH => ?_)
        clear hK K
        refine wpAnyH_ready (rs := [7]) (by kernel_rfl) (by simp) ?_
        refine AllReadyH.cons (o := ⟨_, _, _, _, _, _⟩) rfl (fun K hK => ?_) AllReadyH.nil
        obtain ⟨q0, q1, q2⟩ := k1.cells3
        have f0 := k1.frozen 0
        have f1 := k1.frozen 1
        have f2 := k1.frozen 2
        go_simp
        clear q0 q1 q2 f0 f1 f2
        replace k1 := k1.set3 (.bool an) (.slice A1 n1 c1) (.int .i64 ae)
        replace k0 := k0.off3 (g := g1) (by omega) (.bool an) (.slice A1 n1 c1) (.int .i64 ae)
        replace hs0 := hs0.off3 o01 (.bool an) (.slice A1 n1 c1) (.int .i64 ae)
        replace hs1 := hs1.off3 o11 (.bool an) (.slice A1 n1 c1) (.int .i64 ae)
        replace hB := below_set3 hB g1W (.bool an) (.slice A1 n1 c1) (.int .i64 ae)
        generalize ((V37.setCell ⟨g1, 0, none⟩ (.bool an)).setCell ⟨g1, 1, none⟩ (.slice A1 n1 c1)).setCell ⟨g1, 2, none⟩ (.int .i64 ae) = V38 at *
        refine hK.out _ _ (HK.out _ hB) (fun hH => ?_)
        clear hK K
        refine wpAnyH_done (by kernel_rfl) ?_ _
        go_wp2_with fail
        go_meet
        exact ⟨g0, g1, A0, A1, n0, c0, n1, c1, rfl, rfl, k0, hs0, k1, hs1, hB⟩
      refine AllReadyH.cons (o := ⟨_, _, _, _, _, _⟩) rfl (fun K hK => ?_) AllReadyH.nil
      go_simp
      have k1 := Blk.new V29 27 #[.bool false, .slice none 0 0, .int .i64 0]
      have hbz := ballo V29 (.cells #[.bool false, .slice none 0 0, .int .i64 0] 27)
      have g1W : wl.heap.size ≤ V29.heap.size := hB.size
      have ne : g0 ≠ V29.heap.size := Nat.ne_of_lt k0.lt
      replace k0 := k0.below hbz k0.lt
      replace hB := bnext hB hbz
      clear hbz
      generalize V29.alloc (.cells #[.bool false, .slice none 0 0, .int .i64 0] 27) = V39 at *
      generalize V29.heap.size = g1 at *
      refine hK.out _ _ (HK.out _ hB) (fun hH => ?_)
      clear hK K
      refine wpAnyH_ready (rs := [1]) (by kernel_rfl) (by simp) ?_
      refine AllReadyH.cons (o := ⟨_, _, _, _, _, _⟩) rfl (fun K hK => ?_) AllReadyH.nil
      go_simp
      refine (negD_any dn dA ds dc dl de _ (vd.sl.below hB) (by omega)).mono ?_
      rw [← HND.out]
      rintro e V40 ⟨A0, n0, c0, rfl, hs0, hf0, hc0⟩
      (try dsimp only at hs0)
      have o00 := Off.fresh hf0 k0.lt
      replace k0 := k0.below hc0 k0.lt
      have o01 := Off.fresh hf0 k1.lt
      replace k1 := k1.below hc0 k1.lt
      go_wp2_with fail
      replace hB := bnext hB hc0
      clear hf0 hc0
      refine hK.out _ _ (HK.out _ hB) (fun hH => ?_)
      clear hK K
      refine wpAnyH_ready (rs := [3]) (by kernel_rfl) (by simp) ?_
      refine AllReadyH.cons (o := ⟨_, _, _, _, _, _⟩) rfl (fun K hK => ?_) AllReadyH.nil
      go_simp
      refine (absD_any dn dA ds dc dl de _ (vd.sl.below hB) (by omega)).mono ?_
      rw [← HAD.out]
      rintro e V41 ⟨A1, n1, c1, rfl, hs1, hf1, hc1⟩
      (try dsimp only at hs1)
      have o10 := Off.fresh hf1 k0.lt
      replace k0 := k0.below hc1 k0.lt
      have o11 := Off.fresh hf1 k1.lt
      replace k1 := k1.below hc1 k1.lt
      replace hs0 := hs0.below hc1
      go_wp2_with fail
      replace hB := bnext hB hc1
      clear hf1 hc1
      refine hK.out _ _ (HK.out _ hB) (fun hH => ?_)
      clear hK K
      refine wpAnyH_ready (rs := [6]) (by kernel_rfl) (by simp) ?_
      refine AllReadyH.cons (o := ⟨_, _, _, _, _, _⟩) rfl (fun K hK => ?_) AllReadyH.nil
      obtain ⟨q0, q1, q2⟩ := k0.cells3
      have f0 := k0.frozen 0
      have f1 := k0.frozen 1
      have f2 := k0.frozen 2
      go_simp
      clear q0 q1 q2 f0 f1 f2
      replace k0 := k0.set3 (.bool mn) (.slice A0 n0 c0) (.int .i64 me)
      replace k1 := k1.off3 (g := g0) (by omega) (.bool mn) (.slice A0 n0 c0) (.int .i64 me)
      replace hs0 := hs0.off3 o00 (.bool mn) (.slice A0 n0 c0) (.int .i64 me)
      replace hs1 := hs1.off3 o10 (.bool mn) (.slice A0 n0 c0) (.int .i64 me)
      replace hB := below_set3 hB g0W (.bool mn) (.slice A0 n0 c0) (.int .i64 me)
      generalize ((V41.setCell ⟨g0, 0, none⟩ (.bool mn)).setCell ⟨g0, 1, none⟩ (.slice A0 n0 c0)).setCell ⟨g0, 2, none⟩ (.int .i64 me) = V42 at *
      refine hK.out _ _ (HK.out _ hB) (fun hH => ?_)
      clear hK K
      refine wpAnyH_ready (rs := [7]) (by kernel_rfl) (by simp) ?_
      refine AllReadyH.cons (o := ⟨_, _, _, _, _, _⟩) rfl (fun K hK => ?_) AllReadyH.nil
      obtain ⟨q0, q1, q2⟩ := k1.cells3
      have f0 := k1.frozen 0
      have f1 := k1.frozen 1
      have f2 := k1.frozen 2
      go_simp
      clear q0 q1 q2 f0 f1 f2
      replace k1 := k1.set3 (.bool an) (.slice A1 n1 c1) (.int .i64 ae)
      replace k0 := k0.off3 (g := g1) (by omega) (.bool an) (.slice A1 n1 c1) (.int .i64 ae)
      replace hs0 := hs0.off3 o01 (.bool an) (.slice A1 n1 c1) (.int .i64 ae)
      replace hs1 := hs1.off3 o11 (.bool an) (.slice A1 n1 c1) (.int .i64 ae)
      replace hB := below_set3 hB g1W (.bool an) (.slice A1 n1 c1) (.int .i64 ae)
      generalize ((V42.setCell ⟨g1, 0, none⟩ (.bool an)).setCell ⟨g1, 1, none⟩ (.slice A1 n1 c1)).setCell ⟨g1, 2, none⟩ (.int .i64 ae) = V43 at *
      refine hK.out _ _ (HK.out _ hB) (fun hH => ?_)
      clear hK K
      refine wpAnyH_done (by kernel_rfl) ?_ _
      go_wp2_with fail
      go_meet
      exact ⟨g0, g1, A0, A1, n0, c0, n1, c1, rfl, rfl, k0, hs0, k1, hs1, hB⟩
    refine AllReadyH.cons (o := ⟨_, _, _, _, _, _⟩) rfl (fun K hK => ?_) AllReadyH.nil
    go_simp
    have k1 := Blk.new V0 27 #[.bool false, .slice none 0 0, .int .i64 0]
    have hbz := ballo V0 (.cells #[.bool false, .slice none 0 0, .int .i64 0] 27)
    have g1W : wl.heap.size ≤ V0.heap.size := hB.size
    replace hB := bnext hB hbz
    clear hbz
    generalize V0.alloc (.cells #[.bool false, .slice none 0 0, .int .i64 0] 27) = V44 at *
    generalize V0.heap.size = g1 at *
    refine hK.out _ _ (HK.out _ hB) (fun hH => ?_)
    clear hK K
    refine wpAnyH_ready (rs := [1, 4]) (by kernel_rfl) (by simp) ?_
    refine AllReadyH.cons (o := ⟨_, _, _, _, _, _⟩) rfl (fun K hK => ?_) ?_
    · go_simp
      refine (negD_any dn dA ds dc dl de _ (vd.sl.below hB) (by omega)).mono ?_
      rw [← HND.out]
      rintro e V45 ⟨A0, n0, c0, rfl, hs0, hf0, hc0⟩
      (try dsimp only at hs0)
      have o01 := Off.fresh hf0 k1.lt
      replace k1 := k1.below hc0 k1.lt
      go_wp2_with fail
      replace hB := bnext hB hc0
      clear hf0 hc0
      refine hK.out _ _ (HK.out _ hB) (fun hH => ?_)
      clear hK K
      refine wpAnyH_ready (rs := [3, 4]) (by kernel_rfl) (by simp) ?_
      refine AllReadyH.cons (o := ⟨_, _, _, _, _, _⟩) rfl (fun K hK => ?_) ?_
      · go_simp
        refine (absD_any dn dA ds dc dl de _ (vd.sl.below hB) (by omega)).mono ?_
        rw [← HAD.out]
        rintro e V46 ⟨A1, n1, c1, rfl, hs1, hf1, hc1⟩
        (try dsimp only at hs1)
        have o11 := Off.fresh hf1 k1.lt
        replace k1 := k1.below hc1 k1.lt
        replace hs0 := hs0.below hc1
        go_wp2_with fail
        replace hB := bnext hB hc1
        clear hf1 hc1
        refine hK.out _ _ (HK.out _ hB) (fun hH => ?_)
        clear hK K
        refine wpAnyH_ready (rs := [4]) (by kernel_rfl) (by simp) ?_
        refine AllReadyH.cons (o := ⟨_, _, _, _, _, _⟩) rfl (fun K hK => ?_) AllReadyH.nil
        go_simp
        have k0 := Blk.new V46 27 #[.bool false, .slice none 0 0, .int .i64 0]
        have hbz := ballo V46 (.cells #[.bool false, .slice none 0 0, .int .i64 0] 27)
        have g0W : wl.heap.size ≤ V46.heap.size := hB.size
        have o00 := Off.old hs0 (Nat.le_refl _)
        replace hs0 := hs0.below hbz
        have o10 := Off.old hs1 (Nat.le_refl _)
        replace hs1 := hs1.below hbz
        have ne : g1 ≠ V46.heap.size := Nat.ne_of_lt k1.lt
        replace k1 := k1.below hbz k1.lt
        replace hB := bnext hB hbz
        clear hbz
        generalize V46.alloc (.cells #[.bool false, .slice none 0 0, .int .i64 0] 27) = V47 at *
        generalize V46.heap.size = g0 at *
        refine hK.out _ _ (HK.out _ hB) (fun hH => ?_)
        clear hK K
        refine wpAnyH_ready (rs := [6]) (by kernel_rfl) (by simp) ?_
        refine AllReadyH.cons (o := ⟨_, _, _, _, _, _⟩) rfl (fun K hK => ?_) AllReadyH.nil
        obtain ⟨q0, q1, q2⟩ := k0.cells3
        have f0 := k0.frozen 0
        have f1 := k0.frozen 1
        have f2 := k0.frozen 2
        go_simp
        clear q0 q1 q2 f0 f1 f2
        replace k0 := k0.set3 (.bool mn) (.slice A0 n0 c0) (.int .i64 me)
        replace k1 := k1.off3 (g := g0) (by omega) (.bool mn) (.slice A0 n0 c0) (.int .i64 me)
        replace hs0 := hs0.off3 o00 (.bool mn) (.slice A0 n0 c0) (.int .i64 me)
        replace hs1 := hs1.off3 o10 (.bool mn) (.slice A0 n0 c0) (.int .i64 me)
        replace hB := below_set3 hB g0W (.bool mn) (.slice A0 n0 c0) (.int .i64 me)
        generalize ((V47.setCell ⟨g0, 0, none⟩ (.bool mn)).setCell ⟨g0, 1, none⟩ (.slice A0 n0 c0)).setCell ⟨g0, 2, none⟩ (.int .i64 me) = V48 at *
        refine hK.out _ _ (HK.out _ hB) (fun hH => ?_)
        clear hK K
        refine wpAnyH_ready (rs := [7]) (by kernel_rfl) (by simp) ?_
        refine AllReadyH.cons (o := ⟨_, _, _, _, _, _⟩) rfl (fun K hK => ?_) AllReadyH.nil
        obtain ⟨q0, q1, q2⟩ := k1.cells3
        have f0 := k1.frozen 0
        have f1 := k1.frozen 1
        have f2 := k1.frozen 2
        go_simp
        clear q0 q1 q2 f0 f1 f2
        replace k1 := k1.set3 (.bool an) (.slice A1 n1 c1) (.int .i64 ae)
        replace k0 := k0.off3 (g := g1) (by omega) (.bool an) (.slice A1 n1 c1) (.int .i64 ae)
        replace hs0 := hs0.off3 o01 (.bool an) (.slice A1 n1 c1) (.int .i64 ae)
        replace hs1 := hs1.off3 o11 (.bool an) (.slice A1 n1 c1) (.int .i64 ae)
        replace hB := below_set3 hB g1W (.bool an) (.slice A1 n1 c1) (.int .i64 ae)
        generalize ((V48.setCell ⟨g1, 0, none⟩ (.bool an)).setCell ⟨g1, 1, none⟩ (.slice A1 n1 c1)).setCell ⟨g1, 2, none⟩ (.int .i64 ae) = V49 at *
        refine hK.out _ _ (HK.out _ hB) (fun hH => ?_)
        clear hK K
        refine wpAnyH_done (by kernel_rfl) ?_ _
        go_wp2_with fail
        go_meet
        exact ⟨g0, g1, A0, A1, n0, c0, n1, c1, rfl, rfl, k0, hs0, k1, hs1, hB⟩
      refine AllReadyH.cons (o := ⟨_, _, _, _, _, _⟩) rfl (fun K hK => ?_) AllReadyH.nil
      go_simp
      have k0 := Blk.new V45 27 #[.bool false, .slice none 0 0, .int .i64 0]
      have hbz := ballo V45 (.cells #[.bool false, .slice none 0 0, .int .i64 0] 27)
      have g0W : wl.heap.size ≤ V45.heap.size := hB.size
      have o00 := Off.old hs0 (Nat.le_refl _)
      replace hs0 := hs0.below hbz
      have ne : g1 ≠ V45.heap.size := Nat.ne_of_lt k1.lt
      replace k1 := k1.below hbz k1.lt
      replace hB := bnext hB hbz
      clear hbz
      generalize V45.alloc (.cells #[.bool false, .slice none 0 0, .int .i64 0] 27) = V50 at *
      generalize V45.heap.size = g0 at *
      refine hK.out _ _ (HK.out _ hB) (fun hH => ?_)
      clear hK K
      refine wpAnyH_ready (rs := [3]) (by kernel_rfl) (by simp) ?_
      refine AllReadyH.cons (o := ⟨_, _, _, _, _, _⟩) rfl (fun K hK => ?_) AllReadyH.nil
      go_simp
      refine (absD_any dn dA ds dc dl de _ (vd.sl.below hB) (by omega)).mono ?_
      rw [← HAD.out]
      rintro e V51 ⟨A1, n1, c1, rfl, hs1, hf1, hc1⟩
      (try dsimp only at hs1)
      have o10 := Off.fresh hf1 k0.lt
      replace k0 := k0.below hc1 k0.lt
      have o11 := Off.fresh hf1 k1.lt
      replace k1 := k1.below hc1 k1.lt
      replace hs0 := hs0.below hc1
      go_wp2_with fail
      replace hB := bnext hB hc1
      clear hf1 hc1
      refine hK.out _ _ (HK.out _ hB) (fun hH => ?_)
      clear hK K
      refine wpAnyH_ready (rs := [6]) (by kernel_rfl) (by simp) ?_
      refine AllReadyH.cons (o := ⟨_, _, _, _, _, _⟩) rfl (fun K hK => ?_) AllReadyH.nil
      obtain ⟨q0, q1, q2⟩ := k0.cells3
      have f0 := k0.frozen 0
      have f1 := k0.frozen 1
      have f2 := k0.frozen 2
      go_simp
      clear q0 q1 q2 f0 f1 f2
      replace k0 := k0.set3 (.bool mn) (.slice A0 n0 c0) (.int .i64 me)
      replace k1 := k1.off3 (g := g0) (by omega) (.bool mn) (.slice A0 n0 c0) (.int .i64 me)
      replace hs0 := hs0.off3 o00 (.bool mn) (.slice A0 n0 c0) (.int .i64 me)
      replace hs1 := hs1.off3 o10 (.bool mn) (.slice A0 n0 c0) (.int .i64 me)
      replace hB := below_set3 hB g0W (.bool mn) (.slice A0 n0 c0) (.int .i64 me)
      generalize ((V51.setCell ⟨g0, 0, none⟩ (.bool mn)).setCell ⟨g0, 1, none⟩ (.slice A0 n0 c0)).setCell ⟨g0, 2, none⟩ (.int .i64 me) = V52 at *
      refine hK.out _ _ (HK.out _ hB) (fun hH => ?_)
      clear hK K
      refine wpAnyH_ready (rs := [7]) (by kernel_rfl) (by simp) ?_
      refine AllReadyH.cons (o := ⟨_, _, _, _, _, _⟩) rfl (fun K hK => ?_) AllReadyH.nil
      obtain ⟨q0, q1, q2⟩ := k1.cells3
      have f0 := k1.frozen 0
      have f1 := k1.frozen 1
      have f2 := k1.frozen 2
      go_simp
      clear q0 q1 q2 f0 f1 f2
      replace k1 := k1.set3 (.bool an) (.slice A1 n1 c1) (.int .i64 ae)
      replace k0 := k0.off3 (g := g1) (by omega) (.bool an) (.slice A1 n1 c1) (.int .i64 ae)
      replace hs0 := hs0.off3 o01 (.bool an) (.slice A1 n1 c1) (.int .i64 ae)
      replace hs1 := hs1.off3 o11 (.bool an) (.slice A1 n1 c1) (.int .i64 ae)
      replace hB := below_set3 hB g1W (.bool an) (.slice A1 n1 c1) (.int .i64 ae)
      generalize ((V52.setCell ⟨g1, 0, none⟩ (.bool an)).setCell ⟨g1, 1, none⟩ (.slice A1 n1 c1)).setCell ⟨g1, 2, none⟩ (.int .i64 ae) = V53 at *
      refine hK.out _ _ (HK.out _ hB) (fun hH => ?_)
      clear hK K
      refine wpAnyH_done (by kernel_rfl) ?_ _
      go_wp2_with fail
      go_meet
      exact ⟨g0, g1, A0, A1, n0, c0, n1, c1, rfl, rfl, k0, hs0, k1, hs1, hB⟩
    refine AllReadyH.cons (o := ⟨_, _, _, _, _, _⟩) rfl (fun K hK => ?_) AllReadyH.nil
    go_simp
    have k0 := Blk.new V44 27 #[.bool false, .slice none 0 0, .int .i64 0]
    have hbz := ballo V44 (.cells #[.bool false, .slice none 0 0, .int .i64 0] 27)
    have g0W : wl.heap.size ≤ V44.heap.size := hB.size
    have ne : g1 ≠ V44.heap.size := Nat.ne_of_lt k1.lt
    replace k1 := k1.below hbz k1.lt
    replace hB := bnext hB hbz
    clear hbz
    generalize V44.alloc (.cells #[.bool false, .slice none 0 0, .int .i64 0] 27) = V54 at *
    generalize V44.heap.size = g0 at *
    refine hK.out _ _ (HK.out _ hB) (fun hH => ?_)
    clear hK K
    refine wpAnyH_ready (rs := [1]) (by kernel_rfl) (by simp) ?_
    refine AllReadyH.cons (o := ⟨_, _, _, _, _, _⟩) rfl (fun K hK => ?_) AllReadyH.nil
    go_simp
    refine (negD_any dn dA ds dc dl de _ (vd.sl.below hB) (by omega)).mono ?_
    rw [← HND.out]
    rintro e V55 ⟨A0, n0, c0, rfl, hs0, hf0, hc0⟩
    (try dsimp only at hs0)
    have o00 := Off.fresh hf0 k0.lt
    replace k0 := k0.below hc0 k0.lt
    have o01 := Off.fresh hf0 k1.lt
    replace k1 := k1.below hc0 k1.lt
    go_wp2_with fail
    replace hB := bnext hB hc0
    clear hf0 hc0
    refine hK.out _ _ (HK.out _ hB) (fun hH => ?_)
    clear hK K
    refine wpAnyH_ready (rs := [3]) (by kernel_rfl) (by simp) ?_
    refine AllReadyH.cons (o := ⟨_, _, _, _, _, _⟩) rfl (fun K hK => ?_) AllReadyH.nil
    go_simp
    refine (absD_any dn dA ds dc dl de _ (vd.sl.below hB) (by omega)).mono ?_
    rw [← HAD.out]
    rintro e V56 ⟨A1, n1, c1, rfl, hs1, hf1, hc1⟩
    (try dsimp only at hs1)
    have o10 := Off.fresh hf1 k0.lt
    replace k0 := k0.below hc1 k0.lt
    have o11 := Off.fresh hf1 k1.lt
    replace k1 := k1.below hc1 k1.lt
    replace hs0 := hs0.below hc1
    go_wp2_with fail
    replace hB := bnext hB hc1
    clear hf1 hc1
    refine hK.out _ _ (HK.out _ hB) (fun hH => ?_)
    clear hK K
    refine wpAnyH_ready (rs := [6]) (by kernel_rfl) (by simp) ?_
    refine AllReadyH.cons (o := ⟨_, _, _, _, _, _⟩) rfl (fun K hK => ?_) AllReadyH.nil
    obtain ⟨q0, q1, q2⟩ := k0.cells3
    have f0 := k0.frozen 0
    have f1 := k0.frozen 1
    have f2 := k0.frozen 2
    go_simp
    clear q0 q1 q2 f0 f1 f2
    replace k0 := k0.set3 (.bool mn) (.slice A0 n0 c0) (.int .i64 me)
    replace k1 := k1.off3 (g := g0) (by omega) (.bool mn) (.slice A0 n0 c0) (.int .i64 me)
    replace hs0 := hs0.off3 o00 (.bool mn) (.slice A0 n0 c0) (.int .i64 me)
    replace hs1 := hs1.off3 o10 (.bool mn) (.slice A0 n0 c0) (.int .i64 me)
    replace hB := below_set3 hB g0W (.bool mn) (.slice A0 n0 c0) (.int .i64 me)
    generalize ((V56.setCell ⟨g0, 0, none⟩ (.bool mn)).setCell ⟨g0, 1, none⟩ (.slice A0 n0 c0)).setCell ⟨g0, 2, none⟩ (.int .i64 me) = V57 at *
    refine hK.out _ _ (HK.out _ hB) (fun hH => ?_)
    clear hK K
    refine wpAnyH_ready (rs := [7]) (by kernel_rfl) (by simp) ?_
    refine AllReadyH.cons (o := ⟨_, _, _, _, _, _⟩) rfl (fun K hK => ?_) AllReadyH.nil
    obtain ⟨q0, q1, q2⟩ := k1.cells3
    have f0 := k1.frozen 0
    have f1 := k1.frozen 1
    have f2 := k1.frozen 2
    go_simp
    clear q0 q1 q2 f0 f1 f2
    replace k1 := k1.set3 (.bool an) (.slice A1 n1 c1) (.int .i64 ae)
    replace k0 := k0.off3 (g := g1) (by omega) (.bool an) (.slice A1 n1 c1) (.int .i64 ae)
    replace hs0 := hs0.off3 o01 (.bool an) (.slice A1 n1 c1) (.int .i64 ae)
    replace hs1 := hs1.off3 o11 (.bool an) (.slice A1 n1 c1) (.int .i64 ae)
    replace hB := below_set3 hB g1W (.bool an) (.slice A1 n1 c1) (.int .i64 ae)
    generalize ((V57.setCell ⟨g1, 0, none⟩ (.bool an)).setCell ⟨g1, 1, none⟩ (.slice A1 n1 c1)).setCell ⟨g1, 2, none⟩ (.int .i64 ae) = V58 at *
    refine hK.out _ _ (HK.out _ hB) (fun hH => ?_)
    clear hK K
    refine wpAnyH_done (by kernel_rfl) ?_ _
    go_wp2_with fail
    go_meet
    exact ⟨g0, g1, A0, A1, n0, c0, n1, c1, rfl, rfl, k0, hs0, k1, hs1, hB⟩
  case rest =>
    obtain ⟨gm, ga, mA, aA, ms, mc, aS, ac, rfl, rfl, km, sm, ka, sa, hB⟩ := hcut
    have vm : Var wc gm mn mA ms mc ml me := ⟨km, sm⟩
    have va : Var wc ga an aA aS ac al ae := ⟨ka, sa⟩
    clear km sm ka sa
    replace vd := vd.next hB
    replace hbw := bnext hbw hB
    replace HT := Lib.hid (HT.out.next hB)
    clear hB
    obtain ⟨dq0, dq1, dq2⟩ := vd.cells
    go_wp2_with fail
    refine (rvalid_any dn dA ds dc dl de _ vd.sl (by omega)).mono ?_
    rintro e w2 ⟨rfl, hb2⟩
    clear dq0 dq1 dq2
    replace vd := vd.next hb2
    replace vm := vm.next hb2
    replace va := va.next hb2
    replace hbw := bnext hbw hb2
    replace HT := Lib.hid (HT.out.next hb2)
    clear hb2
    cases hv : vld ⟨dn, dl, de⟩
    · have HV := Lib.hid hv
      have e1 : negD ⟨dn, dl, de⟩ = zeroD := by unfold negD; rw [hv]; rfl
      have e2 : absD ⟨dn, dl, de⟩ = zeroD := by unfold absD; rw [hv]; rfl
      have e3 : Hid (sgnD ⟨dn, dl, de⟩ = 0) := by unfold Hid sgnD; rw [hv]; rfl
      have e4 : Hid (bitsD ⟨dn, dl, de⟩ = 0) := by unfold Hid bitsD; rw [hv]; rfl
      have e5 : Hid (topD ⟨dn, dl, de⟩ = 0) := by unfold Hid topD; rw [hv]; rfl
      have E6 : Hid (eqD ⟨mn, ml, me⟩ ⟨false, [], 0⟩ = true) := (eqD_iff _ _).2 (HND.out.trans e1)
      have E7 : Hid (eqD ⟨an, al, ae⟩ ⟨false, [], 0⟩ = true) := (eqD_iff _ _).2 (HAD.out.trans e2)
      clear hv e1 e2 HND HAD
      obtain ⟨dq0, dq1, dq2⟩ := vd.cells
      go_wp2_with fail
      refine (valid_any dn dA ds dc dl de _ vd.sl (by omega)).mono ?_
      rw [HV.out]
      rintro e w3 ⟨rfl, hb3⟩
      clear dq0 dq1 dq2
      replace vd := vd.next hb3
      replace vm := vm.next hb3
      replace va := va.next hb3
      replace hbw := bnext hbw hb3
      replace HT := Lib.hid (HT.out.next hb3)
      clear hb3
      obtain ⟨dq0, dq1, dq2⟩ := vd.cells
      go_wp2_with fail
      refine (signD_any dn dA ds dc dl de _ vd.sl (by omega)).mono ?_
      rw [e3.out]
      rintro e w4 ⟨rfl, hb4⟩
      clear dq0 dq1 dq2
      replace vd := vd.next hb4
      replace vm := vm.next hb4
      replace va := va.next hb4
      replace hbw := bnext hbw hb4
      replace HT := Lib.hid (HT.out.next hb4)
      clear hb4
      obtain ⟨dq0, dq1, dq2⟩ := vd.cells
      go_wp2_with fail
      refine (bitsD_any dn dA ds dc dl de _ vd.sl (by omega)).mono ?_
      rw [e4.out]
      rintro e w5 ⟨rfl, hb5⟩
      clear dq0 dq1 dq2
      replace vd := vd.next hb5
      replace vm := vm.next hb5
      replace va := va.next hb5
      replace hbw := bnext hbw hb5
      replace HT := Lib.hid (HT.out.next hb5)
      clear hb5
      obtain ⟨dq0, dq1, dq2⟩ := vd.cells
      go_wp2_with fail
      refine (topD_any dn dA ds dc dl de _ vd.sl (by omega)).mono ?_
      rw [e5.out]
      rintro e w6 ⟨rfl, hb6⟩
      clear dq0 dq1 dq2
      replace vd := vd.next hb6
      replace vm := vm.next hb6
      replace va := va.next hb6
      replace hbw := bnext hbw hb6
      replace HT := Lib.hid (HT.out.next hb6)
      clear hb6
      obtain ⟨mq0, mq1, mq2⟩ := vm.cells
      go_wp2_with fail
      refine (requal_any mn false mA none ms mc 0 0 ml [] me 0 _ vm.sl (SL.nil _)).mono ?_
      rw [E6.out]
      rintro e w7 ⟨rfl, hb7⟩
      clear mq0 mq1 mq2
      replace vd := vd.next hb7
      replace vm := vm.next hb7
      replace va := va.next hb7
      replace hbw := bnext hbw hb7
      replace HT := Lib.hid (HT.out.next hb7)
      clear hb7
      obtain ⟨aq0, aq1, aq2⟩ := va.cells
      go_wp2_with fail
      refine (requal_any an false aA none aS ac 0 0 al [] ae 0 _ va.sl (SL.nil _)).mono ?_
      rw [E7.out]
      rintro e w8 ⟨rfl, hb8⟩
      clear aq0 aq1 aq2
      replace vd := vd.next hb8
      replace vm := vm.next hb8
      replace va := va.next hb8
      replace hbw := bnext hbw hb8
      replace HT := Lib.hid (HT.out.next hb8)
      clear hb8
      go_wp2_with fail
      go_ret
      exact ⟨rfl, hbw⟩
    · have HV := Lib.hid hv
      have E6 : Hid (eqD ⟨mn, ml, me⟩ ⟨(rnegD ⟨dn, dl, de⟩).neg, dl, de⟩ = true) := (eqD_iff _ _).2 (HND.out.trans (rneg_eq _ hv).symm)
      have E7 : Hid (dn = true → eqD ⟨an, al, ae⟩ ⟨(rnegD ⟨dn, dl, de⟩).neg, dl, de⟩ = true) := fun hneg => (eqD_iff _ _).2 (HAD.out.trans (by subst hneg; exact abs_neg dl de hv))
      have E8 : Hid (dn = false → eqD ⟨an, al, ae⟩ ⟨dn, dl, de⟩ = true) := fun hneg => (eqD_iff _ _).2 (HAD.out.trans (by subst hneg; exact abs_pos dl de hv))
      clear hv HND HAD
      generalize hrn : (rnegD ⟨dn, dl, de⟩).neg = rn at *
      have HRN := Lib.hid hrn
      clear hrn
      go_wp2_with fail
      have HK : Hid (∀ V, Below w2.heap.size w2 V → (fun V => (V.cell? ⟨w.heap.size, 0, none⟩ = some (.bool dn) ∧ V.cell? ⟨w.heap.size, 1, none⟩ = some (.slice dA ds dc) ∧ V.cell? ⟨w.heap.size, 2, none⟩ = some (.int .i64 de)) ∧ (V.cell? ⟨gm, 0, none⟩ = some (.bool mn) ∧ V.cell? ⟨gm, 1, none⟩ = some (.slice mA ms mc) ∧ V.cell? ⟨gm, 2, none⟩ = some (.int .i64 me)) ∧ Below w2.heap.size w2 V) V) := fun V hV => ⟨vd.keep V hV, vm.keep V hV, hV⟩
      have hB := bdrew w2
      refine wp_region_held_drew (S := (fun V => (V.cell? ⟨w.heap.size, 0, none⟩ = some (.bool dn) ∧ V.cell? ⟨w.heap.size, 1, none⟩ = some (.slice dA ds dc) ∧ V.cell? ⟨w.heap.size, 2, none⟩ = some (.int .i64 de)) ∧ (V.cell? ⟨gm, 0, none⟩ = some (.bool mn) ∧ V.cell? ⟨gm, 1, none⟩ = some (.slice mA ms mc) ∧ V.cell? ⟨gm, 2, none⟩ = some (.int .i64 me)) ∧ Below w2.heap.size w2 V)) (by kernel_rfl) (HK.out _ hB) (fun hH => ?_)
      refine wpAnyH_take (i := 0) (oi := ⟨_, _, _, _, _, _⟩) (v := ?_) rfl (by kernel_rfl) (by kernel_rfl) (by kernel_rfl) (fun _ _ _ h => h) (Or.inl ⟨by rfl, ?_⟩) hH ?_
      rotate_left
      · (intro w hSw; (try dsimp only at hSw); go_simp; try (with_reducible rfl))
      simp only [Act.put, List.setIfInBounds_toArray, List.set_cons_zero, List.set_cons_succ]
      refine wpAnyH_ready (rs := [1]) (by kernel_rfl) (by simp) ?_
      refine AllReadyH.cons (o := ⟨_, _, _, _, _, _⟩) rfl (fun K hK => ?_) AllReadyH.nil
      go_simp
      refine (valid_any dn dA ds dc dl de _ (vd.sl.below hB) (by omega)).mono ?_
      rw [HV.out]
      rintro e w3 ⟨rfl, hc⟩
      replace hB := bnext hB hc
      clear hc
      go_wp2_with fail
      refine hK.out _ _ (HK.out _ hB) (fun hH => ?_)
      clear hK K
      refine wpAnyH_take (i := 2) (oi := ⟨_, _, _, _, _, _⟩) (v := ?_) rfl (by kernel_rfl) (by kernel_rfl) (by kernel_rfl) (fun _ _ _ h => h) (Or.inl ⟨by rfl, ?_⟩) hH ?_
      rotate_left
      · (intro w hSw; (try dsimp only at hSw); go_simp; try (with_reducible rfl))
      simp only [Act.put, List.setIfInBounds_toArray, List.set_cons_zero, List.set_cons_succ]
      refine wpAnyH_take (i := 3) (oi := ⟨_, _, _, _, _, _⟩) (v := ?_) rfl (by kernel_rfl) (by kernel_rfl) (by kernel_rfl) (fun _ _ _ h => h) (Or.inl ⟨by rfl, ?_⟩) hH ?_
      rotate_left
      · (intro w hSw; (try dsimp only at hSw); go_simp; try (with_reducible rfl))
      simp only [Act.put, List.setIfInBounds_toArray, List.set_cons_zero, List.set_cons_succ]
      refine wpAnyH_take (i := 4) (oi := ⟨_, _, _, _, _, _⟩) (v := ?_) rfl (by kernel_rfl) (by kernel_rfl) (by kernel_rfl) (fun _ _ _ h => h) (Or.inl ⟨by rfl, ?_⟩) hH ?_
      rotate_left
      · (intro w hSw; (try dsimp only at hSw); go_simp; try (with_reducible rfl))
      simp only [Act.put, List.setIfInBounds_toArray, List.set_cons_zero, List.set_cons_succ]
      refine wpAnyH_take (i := 6) (oi := ⟨_, _, _, _, _, _⟩) (v := ?_) rfl (by kernel_rfl) (by kernel_rfl) (by kernel_rfl) (fun _ _ _ h => h) (Or.inl ⟨by rfl, ?_⟩) hH ?_
      rotate_left
      · (intro w hSw; (try dsimp only at hSw); go_simp; try (with_reducible rfl))
      simp only [Act.put, List.setIfInBounds_toArray, List.set_cons_zero, List.set_cons_succ]
      refine wpAnyH_ready (rs := [5]) (by kernel_rfl) (by simp) ?_
      refine AllReadyH.cons (o := ⟨_, _, _, _, _, _⟩) rfl (fun K hK => ?_) AllReadyH.nil
      go_simp
      refine (signD_any dn dA ds dc dl de _ (vd.sl.below hB) (by omega)).mono ?_
      rintro e w4 ⟨rfl, hc⟩
      replace hB := bnext hB hc
      clear hc
      go_wp2_with fail
      refine hK.out _ _ (HK.out _ hB) (fun hH => ?_)
      clear hK K
      refine wpAnyH_ready (rs := [7]) (by kernel_rfl) (by simp) ?_
      refine AllReadyH.cons (o := ⟨_, _, _, _, _, _⟩) rfl (fun K hK => ?_) AllReadyH.nil
      go_simp
      refine (rsign_any dn dA ds dc dl de _ (vd.sl.below hB) HV.out).mono ?_
      rintro e w5 ⟨rfl, hc⟩
      replace hB := bnext hB hc
      clear hc
      go_wp2_with fail
      refine hK.out _ _ (HK.out _ hB) (fun hH => ?_)
      clear hK K
      refine wpAnyH_take (i := 8) (oi := ⟨_, _, _, _, _, _⟩) (v := ?_) rfl (by kernel_rfl) (by kernel_rfl) (by kernel_rfl) (fun _ _ _ h => h) (Or.inl ⟨by rfl, ?_⟩) hH ?_
      rotate_left
      · (intro w hSw; (try dsimp only at hSw); go_simp; try (with_reducible rfl))
      simp only [Act.put, List.setIfInBounds_toArray, List.set_cons_zero, List.set_cons_succ]
      refine wpAnyH_take (i := 9) (oi := ⟨_, _, _, _, _, _⟩) (v := ?_) rfl (by kernel_rfl) (by kernel_rfl) (by kernel_rfl) (fun _ _ _ h => h) (Or.inl ⟨by rfl, ?_⟩) hH ?_
      rotate_left
      · (intro w hSw; (try dsimp only at hSw); go_simp; try (with_reducible rfl))
      simp only [Act.put, List.setIfInBounds_toArray, List.set_cons_zero, List.set_cons_succ]
      refine wpAnyH_take (i := 10) (oi := ⟨_, _, _, _, _, _⟩) (v := ?_) rfl (by kernel_rfl) (by kernel_rfl) (by kernel_rfl) (fun _ _ _ h => h) (Or.inl ⟨by rfl, ?_⟩) hH ?_
      rotate_left
      · (intro w hSw; (try dsimp only at hSw); go_simp; try (with_reducible rfl))
      simp only [Act.put, List.setIfInBounds_toArray, List.set_cons_zero, List.set_cons_succ]
      refine wpAnyH_take (i := 11) (oi := ⟨_, _, _, _, _, _⟩) (v := ?_) rfl (by kernel_rfl) (by kernel_rfl) (by kernel_rfl) (fun _ _ _ h => h) (Or.inl ⟨by rfl, ?_⟩) hH ?_
      rotate_left
      · (intro w hSw; (try dsimp only at hSw); go_simp; try (with_reducible rfl))
      simp only [Act.put, List.setIfInBounds_toArray, List.set_cons_zero, List.set_cons_succ]
      refine wpAnyH_take (i := 13) (oi := ⟨_, _, _, _, _, _⟩) (v := ?_) rfl (by kernel_rfl) (by kernel_rfl) (by kernel_rfl) (fun _ _ _ h => h) (Or.inl ⟨by rfl, ?_⟩) hH ?_
      rotate_left
      · (intro w hSw; (try dsimp only at hSw); go_simp; try (with_reducible rfl))
      simp only [Act.put, List.setIfInBounds_toArray, List.set_cons_zero, List.set_cons_succ]
      refine wpAnyH_ready (rs := [12]) (by kernel_rfl) (by simp) ?_
      refine AllReadyH.cons (o := ⟨_, _, _, _, _, _⟩) rfl (fun K hK => ?_) AllReadyH.nil
      go_simp
      refine (bitsD_any dn dA ds dc dl de _ (vd.sl.below hB) (by omega)).mono ?_
      rintro e w6 ⟨rfl, hc⟩
      replace hB := bnext hB hc
      clear hc
      go_wp2_with fail
      refine hK.out _ _ (HK.out _ hB) (fun hH => ?_)
      clear hK K
      refine wpAnyH_ready (rs := [14]) (by kernel_rfl) (by simp) ?_
      refine AllReadyH.cons (o := ⟨_, _, _, _, _, _⟩) rfl (fun K hK => ?_) AllReadyH.nil
      go_simp
      refine (rbitsD_any dn dA ds dc dl de _ (vd.sl.below hB) (by omega) HV.out).mono ?_
      rintro e w7 ⟨rfl, hc⟩
      replace hB := bnext hB hc
      clear hc
      go_wp2_with fail
      refine hK.out _ _ (HK.out _ hB) (fun hH => ?_)
      clear hK K
      refine wpAnyH_take (i := 15) (oi := ⟨_, _, _, _, _, _⟩) (v := ?_) rfl (by kernel_rfl) (by kernel_rfl) (by kernel_rfl) (fun _ _ _ h => h) (Or.inl ⟨by rfl, ?_⟩) hH ?_
      rotate_left
      · (intro w hSw; (try dsimp only at hSw); go_simp; try (with_reducible rfl))
      simp only [Act.put, List.setIfInBounds_toArray, List.set_cons_zero, List.set_cons_succ]
      refine wpAnyH_take (i := 16) (oi := ⟨_, _, _, _, _, _⟩) (v := ?_) rfl (by kernel_rfl) (by kernel_rfl) (by kernel_rfl) (fun _ _ _ h => h) (Or.inl ⟨by rfl, ?_⟩) hH ?_
      rotate_left
      · (intro w hSw; (try dsimp only at hSw); go_simp; try (with_reducible rfl))
      simp only [Act.put, List.setIfInBounds_toArray, List.set_cons_zero, List.set_cons_succ]
      refine wpAnyH_take (i := 17) (oi := ⟨_, _, _, _, _, _⟩) (v := ?_) rfl (by kernel_rfl) (by kernel_rfl) (by kernel_rfl) (fun _ _ _ h => h) (Or.inl ⟨by rfl, ?_⟩) hH ?_
      rotate_left
      · (intro w hSw; (try dsimp only at hSw); go_simp; try (with_reducible rfl))
      simp only [Act.put, List.setIfInBounds_toArray, List.set_cons_zero, List.set_cons_succ]
      refine wpAnyH_take (i := 18) (oi := ⟨_, _, _, _, _, _⟩) (v := ?_) rfl (by kernel_rfl) (by kernel_rfl) (by kernel_rfl) (fun _ _ _ h => h) (Or.inl ⟨by rfl, ?_⟩) hH ?_
      rotate_left
      · (intro w hSw; (try dsimp only at hSw); go_simp; try (with_reducible rfl))
      simp only [Act.put, List.setIfInBounds_toArray, List.set_cons_zero, List.set_cons_succ]
      refine wpAnyH_take (i := 20) (oi := ⟨_, _, _, _, _, _⟩) (v := ?_) rfl (by kernel_rfl) (by kernel_rfl) (by kernel_rfl) (fun _ _ _ h => h) (Or.inl ⟨by rfl, ?_⟩) hH ?_
      rotate_left
      · (intro w hSw; (try dsimp only at hSw); go_simp; try (with_reducible rfl))
      simp only [Act.put, List.setIfInBounds_toArray, List.set_cons_zero, List.set_cons_succ]
      refine wpAnyH_ready (rs := [19]) (by kernel_rfl) (by simp) ?_
      refine AllReadyH.cons (o := ⟨_, _, _, _, _, _⟩) rfl (fun K hK => ?_) AllReadyH.nil
      go_simp
      refine (topD_any dn dA ds dc dl de _ (vd.sl.below hB) (by omega)).mono ?_
      rintro e w8 ⟨rfl, hc⟩
      replace hB := bnext hB hc
      clear hc
      go_wp2_with fail
      refine hK.out _ _ (HK.out _ hB) (fun hH => ?_)
      clear hK K
      refine wpAnyH_ready (rs := [21]) (by kernel_rfl) (by simp) ?_
      refine AllReadyH.cons (o := ⟨_, _, _, _, _, _⟩) rfl (fun K hK => ?_) AllReadyH.nil
      go_simp
      refine (rtop_any dn dA ds dc dl de _ (vd.sl.below hB) (by omega) HV.out).mono ?_
      rintro e w9 ⟨rfl, hc⟩
      replace hB := bnext hB hc
      clear hc
      go_wp2_with fail
      refine hK.out _ _ (HK.out _ hB) (fun hH => ?_)
      clear hK K
      refine wpAnyH_take (i := 22) (oi := ⟨_, _, _, _, _, _⟩) (v := ?_) rfl (by kernel_rfl) (by kernel_rfl) (by kernel_rfl) (fun _ _ _ h => h) (Or.inl ⟨by rfl, ?_⟩) hH ?_
      rotate_left
      · (intro w hSw; (try dsimp only at hSw); go_simp; try (with_reducible rfl))
      simp only [Act.put, List.setIfInBounds_toArray, List.set_cons_zero, List.set_cons_succ]
      refine wpAnyH_take (i := 23) (oi := ⟨_, _, _, _, _, _⟩) (v := ?_) rfl (by kernel_rfl) (by kernel_rfl) (by kernel_rfl) (fun _ _ _ h => h) (Or.inl ⟨by rfl, ?_⟩) hH ?_
      rotate_left
      · (intro w hSw; (try dsimp only at hSw); go_simp; try (with_reducible rfl))
      simp only [Act.put, List.setIfInBounds_toArray, List.set_cons_zero, List.set_cons_succ]
      refine wpAnyH_take (i := 24) (oi := ⟨_, _, _, _, _, _⟩) (v := ?_) rfl (by kernel_rfl) (by kernel_rfl) (by kernel_rfl) (fun _ _ _ h => h) (Or.inl ⟨by rfl, ?_⟩) hH ?_
      rotate_left
      · (intro w hSw; (try dsimp only at hSw); go_simp; try (with_reducible rfl))
      simp only [Act.put, List.setIfInBounds_toArray, List.set_cons_zero, List.set_cons_succ]
      refine wpAnyH_take (i := 25) (oi := ⟨_, _, _, _, _, _⟩) (v := ?_) rfl (by kernel_rfl) (by kernel_rfl) (by kernel_rfl) (fun _ _ _ h => h) (Or.inl ⟨by rfl, ?_⟩) hH ?_
      rotate_left
      · (intro w hSw; (try dsimp only at hSw); go_simp; try (with_reducible rfl))
      simp only [Act.put, List.setIfInBounds_toArray, List.set_cons_zero, List.set_cons_succ]
      refine wpAnyH_take (i := 26) (oi := ⟨_, _, _, _, _, _⟩) (v := ?_) rfl (by kernel_rfl) (by kernel_rfl) (by kernel_rfl) (fun _ _ _ h => h) (Or.inl ⟨by rfl, ?_⟩) hH ?_
      rotate_left
      · (intro w hSw; (try dsimp only at hSw); go_simp; try (with_reducible rfl))
      simp only [Act.put, List.setIfInBounds_toArray, List.set_cons_zero, List.set_cons_succ]
      refine wpAnyH_ready (rs := [27]) (by kernel_rfl) (by simp) ?_
      refine AllReadyH.cons (o := ⟨_, _, _, _, _, _⟩) rfl (fun K hK => ?_) AllReadyH.nil
      go_simp
      refine (rneg_any dn dA ds dc dl de _ (vd.sl.below hB) ).mono ?_
      rw [HRN.out]
      rintro e w10 ⟨rfl, hc⟩
      replace hB := bnext hB hc
      clear hc
      go_wp2_with fail
      refine hK.out _ _ (HK.out _ hB) (fun hH => ?_)
      clear hK K
      refine wpAnyH_ready (rs := [28]) (by kernel_rfl) (by simp) ?_
      refine AllReadyH.cons (o := ⟨_, _, _, _, _, _⟩) rfl (fun K hK => ?_) AllReadyH.nil
      go_simp
      refine (requal_any mn rn mA dA ms mc ds dc ml dl me de _ (vm.sl.below hB) (vd.sl.below hB)).mono ?_
      rw [E6.out]
      rintro e w11 ⟨rfl, hc⟩
      replace hB := bnext hB hc
      clear hc
      go_wp2_with fail
      refine hK.out _ _ (HK.out _ hB) (fun hH => ?_)
      clear hK K
      refine wpAnyH_take (i := 29) (oi := ⟨_, _, _, _, _, _⟩) (v := ?_) rfl (by kernel_rfl) (by kernel_rfl) (by kernel_rfl) (fun _ _ _ h => h) (Or.inl ⟨by rfl, ?_⟩) hH ?_
      rotate_left
      · (intro w hSw; (try dsimp only at hSw); go_simp; try (with_reducible rfl))
      simp only [Act.put, List.setIfInBounds_toArray, List.set_cons_zero, List.set_cons_succ]
      refine wpAnyH_take (i := 30) (oi := ⟨_, _, _, _, _, _⟩) (v := ?_) rfl (by kernel_rfl) (by kernel_rfl) (by kernel_rfl) (fun _ _ _ h => h) (Or.inl ⟨by rfl, ?_⟩) hH ?_
      rotate_left
      · (intro w hSw; (try dsimp only at hSw); go_simp; try (with_reducible rfl))
      simp only [Act.put, List.setIfInBounds_toArray, List.set_cons_zero, List.set_cons_succ]
      refine wpAnyH_done (by kernel_rfl) ?_ _
      clear hH HK
      replace vd := vd.next hB
      replace vm := vm.next hB
      replace va := va.next hB
      replace hbw := bnext hbw hB
      replace HT := Lib.hid (HT.out.next hB)
      clear hB
      cases dn
      · obtain ⟨dq0, dq1, dq2⟩ := vd.cells
        obtain ⟨aq0, aq1, aq2⟩ := va.cells
        go_wp2_with fail
        refine (requal_any an false aA dA aS ac ds dc al dl ae de _ va.sl vd.sl).mono ?_
        rw [E8.out (by simp)]
        rintro e w12 ⟨rfl, hb12⟩
        clear dq0 dq1 dq2 aq0 aq1 aq2
        replace vd := vd.next hb12
        replace vm := vm.next hb12
        replace va := va.next hb12
        replace hbw := bnext hbw hb12
        replace HT := Lib.hid (HT.out.next hb12)
        clear hb12
        go_wp2_with fail
        go_ret
        exact ⟨rfl, hbw⟩
      · obtain ⟨dq0, dq1, dq2⟩ := vd.cells
        go_wp2_with fail
        clear dq0 dq1 dq2
        have HK : Hid (∀ V, Below w11.heap.size w11 V → (fun V => (V.cell? ⟨w.heap.size, 0, none⟩ = some (.bool true) ∧ V.cell? ⟨w.heap.size, 1, none⟩ = some (.slice dA ds dc) ∧ V.cell? ⟨w.heap.size, 2, none⟩ = some (.int .i64 de)) ∧ (V.cell? ⟨ga, 0, none⟩ = some (.bool an) ∧ V.cell? ⟨ga, 1, none⟩ = some (.slice aA aS ac) ∧ V.cell? ⟨ga, 2, none⟩ = some (.int .i64 ae)) ∧ Below w11.heap.size w11 V) V) := fun V hV => ⟨vd.keep V hV, va.keep V hV, hV⟩
        have hB := bdrew w11
        refine wp_region_held_drew (S := (fun V => (V.cell? ⟨w.heap.size, 0, none⟩ = some (.bool true) ∧ V.cell? ⟨w.heap.size, 1, none⟩ = some (.slice dA ds dc) ∧ V.cell? ⟨w.heap.size, 2, none⟩ = some (.int .i64 de)) ∧ (V.cell? ⟨ga, 0, none⟩ = some (.bool an) ∧ V.cell? ⟨ga, 1, none⟩ = some (.slice aA aS ac) ∧ V.cell? ⟨ga, 2, none⟩ = some (.int .i64 ae)) ∧ Below w11.heap.size w11 V)) (by kernel_rfl) (HK.out _ hB) (fun hH => ?_)
        refine wpAnyH_take (i := 0) (oi := ⟨_, _, _, _, _, _⟩) (v := ?_) rfl (by kernel_rfl) (by kernel_rfl) (by kernel_rfl) (fun _ _ _ h => h) (Or.inl ⟨by rfl, ?_⟩) hH ?_
        rotate_left
        · (intro w hSw; (try dsimp only at hSw); go_simp; try (with_reducible rfl))
        simp only [Act.put, List.setIfInBounds_toArray, List.set_cons_zero, List.set_cons_succ]
        refine wpAnyH_take (i := 1) (oi := ⟨_, _, _, _, _, _⟩) (v := ?_) rfl (by kernel_rfl) (by kernel_rfl) (by kernel_rfl) (fun _ _ _ h => h) (Or.inl ⟨by rfl, ?_⟩) hH ?_
        rotate_left
        · (intro w hSw; (try dsimp only at hSw); go_simp; try (with_reducible rfl))
        simp only [Act.put, List.setIfInBounds_toArray, List.set_cons_zero, List.set_cons_succ]
        refine wpAnyH_ready (rs := [2]) (by kernel_rfl) (by simp) ?_
        refine AllReadyH.cons (o := ⟨_, _, _, _, _, _⟩) rfl (fun K hK => ?_) AllReadyH.nil
        go_simp
        refine (rneg_any true dA ds dc dl de _ (vd.sl.below hB)).mono ?_
        rw [HRN.out]
        rintro e w12 ⟨rfl, hc⟩
        replace hB := bnext hB hc
        clear hc
        go_wp2_with fail
        refine hK.out _ _ (HK.out _ hB) (fun hH => ?_)
        clear hK K
        refine wpAnyH_ready (rs := [3]) (by kernel_rfl) (by simp) ?_
        refine AllReadyH.cons (o := ⟨_, _, _, _, _, _⟩) rfl (fun K hK => ?_) AllReadyH.nil
        go_simp
        refine (requal_any an rn aA dA aS ac ds dc al dl ae de _ (va.sl.below hB) (vd.sl.below hB)).mono ?_
        rw [E7.out (by simp)]
        rintro e w13 ⟨rfl, hc⟩
        replace hB := bnext hB hc
        clear hc
        go_wp2_with fail
        refine hK.out _ _ (HK.out _ hB) (fun hH => ?_)
        clear hK K
        refine wpAnyH_take (i := 4) (oi := ⟨_, _, _, _, _, _⟩) (v := ?_) rfl (by kernel_rfl) (by kernel_rfl) (by kernel_rfl) (fun _ _ _ h => h) (Or.inl ⟨by rfl, ?_⟩) hH ?_
        rotate_left
        · (intro w hSw; (try dsimp only at hSw); go_simp; try (with_reducible rfl))
        simp only [Act.put, List.setIfInBounds_toArray, List.set_cons_zero, List.set_cons_succ]
        refine wpAnyH_done (by kernel_rfl) ?_ _
        clear hH HK
        replace vd := vd.next hB
        replace vm := vm.next hB
        replace va := va.next hB
        replace hbw := bnext hbw hB
        replace HT := Lib.hid (HT.out.next hB)
        clear hB
        go_wp2_with fail
        go_ret
        exact ⟨rfl, hbw⟩

end Go.Proofs.YtjhokljoomeilaaDoor
