/- The law CertificateEqual: its walk. (Printed by gen_k4.py.) -/

import Derived.Test.YtekajoifgdpmlaaGreatDoorZK4
namespace Go.Proofs.YtekajoifgdpmlaaGreatDoor
open Go.RowKit Pl Go.Shelf

set_option maxRecDepth 100000 in
set_option maxHeartbeats 8000000 in
theorem lcequal_any (vs : List Value) (x : Ct) (us : List Value) (y : Ct) (w : World) (h : RC w vs x) (h' : RC w us y) (he : Ev w.heap.size w) : Calls Tryz.prog 6 #[.agg vs.toArray, .agg us.toArray] w (Says true w) := by
  have hr := h
  have hs := h'
  obtain ⟨xA, xn, xc, xB, xm, xd, xC, xp, xq, xL, xln, xlc, rfl, -, -, -, -⟩ := h
  obtain ⟨yA, yn, yc, yB, ym, yd, yC, yp, yq, yL, yln, ylc, rfl, -, -, -, -⟩ := h'
  obtain ⟨lg, hlg⟩ : ∃ lg, lgC x = lg := ⟨_, rfl⟩
  obtain ⟨lh, hlh⟩ : ∃ lh, lgC y = lh := ⟨_, rfl⟩
  obtain ⟨a, ha⟩ : ∃ b, ctV x = b := ⟨_, rfl⟩
  obtain ⟨b, hv⟩ : ∃ b, ctV y = b := ⟨_, rfl⟩
  obtain ⟨s, hsm⟩ : ∃ b, sC x y = b := ⟨_, rfl⟩
  have HLm := Lib.hid (rc_limbs hr)
  have HLn := Lib.hid (rc_limbs hs)
  have HA := Lib.hid (fun W (hb : Below w.heap.size w W) => cawake_any W (he.step hb))
  have H1 := Lib.hid (fun W (hb : Below w.heap.size w W) => large_any _ x W (lasts_RC w W _ _ hr hb))
  have H2 := Lib.hid (fun W (hb : Below w.heap.size w W) => large_any _ y W (lasts_RC w W _ _ hs hb))
  have H3 := Lib.hid (fun (hl : lg = false) W (hb : Below w.heap.size w W) => rcertValid_any _ x W (lasts_RC w W _ _ hr hb) (bd_C (hlg.trans hl)).1)
  have H4 := Lib.hid (fun (hl : lh = false) W (hb : Below w.heap.size w W) => rcertValid_any _ y W (lasts_RC w W _ _ hs hb) (bd_C (hlh.trans hl)).1)
  have H5 := Lib.hid (fun (hl : lg = false) (hm : lh = false) W (hb : Below w.heap.size w W) => certEqual_any _ _ x y W (lasts_RC w W _ _ hr hb) (lasts_RC w W _ _ hs hb) (bd_C (hlg.trans hl)).1 (bd_C (hlh.trans hm)).1 (he.step hb).here.tabs)
  have H6 := Lib.hid (fun (hl : lg = false) (hm : lh = false) W (hb : Below w.heap.size w W) => certEqual_any _ _ y x W (lasts_RC w W _ _ hs hb) (lasts_RC w W _ _ hr hb) (bd_C (hlh.trans hm)).1 (bd_C (hlg.trans hl)).1 (he.step hb).here.tabs)
  have H7 := Lib.hid (fun W (hb : Below w.heap.size w W) => lsame_any _ _ x y W (lasts_RC w W _ _ hr hb) (lasts_RC w W _ _ hs hb))
  rw [hlg] at H1
  rw [hlh] at H2
  rw [ha] at H3
  rw [hv] at H4
  rw [ctE_symm HLn.out HLm.out, ctE_eq HLm.out HLn.out, ha, hv, hsm] at H6
  rw [ctE_eq HLm.out HLn.out, ha, hv, hsm] at H5
  rw [hsm] at H7
  obtain ⟨xpr, xod, xst, xls⟩ := x
  obtain ⟨ypr, yod, yst, yls⟩ := y
  dsimp only at H1 H2 H3 H4 H5 H6 H7
  clear hr hs HLm HLn hlg hlh ha hv hsm he
  have hb0 := bnext (ballo w (.cells #[.int .i64 xpr, .int .i64 xod, .slice xA xn xc, .slice xB xm xd, .slice xC xp xq, .slice xL xln xlc] 42)) (ballo (w.alloc (.cells #[.int .i64 xpr, .int .i64 xod, .slice xA xn xc, .slice xB xm xd, .slice xC xp xq, .slice xL xln xlc] 42)) (.cells #[.int .i64 ypr, .int .i64 yod, .slice yA yn yc, .slice yB ym yd, .slice yC yp yq, .slice yL yln ylc] 42))
  have kx := (Blk.new w 42 #[.int .i64 xpr, .int .i64 xod, .slice xA xn xc, .slice xB xm xd, .slice xC xp xq, .slice xL xln xlc]).next (ballo (w.alloc (.cells #[.int .i64 xpr, .int .i64 xod, .slice xA xn xc, .slice xB xm xd, .slice xC xp xq, .slice xL xln xlc] 42)) (.cells #[.int .i64 ypr, .int .i64 yod, .slice yA yn yc, .slice yB ym yd, .slice yC yp yq, .slice yL yln ylc] 42))
  have ky : Blk ((w.alloc (.cells #[.int .i64 xpr, .int .i64 xod, .slice xA xn xc, .slice xB xm xd, .slice xC xp xq, .slice xL xln xlc] 42)).alloc (.cells #[.int .i64 ypr, .int .i64 yod, .slice yA yn yc, .slice yB ym yd, .slice yC yp yq, .slice yL yln ylc] 42)) (w.heap.size + 1) 42 #[.int .i64 ypr, .int .i64 yod, .slice yA yn yc, .slice yB ym yd, .slice yC yp yq, .slice yL yln ylc] := Blk.newAt _ _ _ (by simp)
  go_enter Tryz.func6, Tryz.ntmps6
  go_wp2_with fail
  generalize ((w.alloc (.cells #[.int .i64 xpr, .int .i64 xod, .slice xA xn xc, .slice xB xm xd, .slice xC xp xq, .slice xL xln xlc] 42)).alloc (.cells #[.int .i64 ypr, .int .i64 yod, .slice yA yn yc, .slice yB ym yd, .slice yC yp yq, .slice yL yln ylc] 42)) = W0 at *
  refine (HA.out _ hb0).mono ?_
  rintro e w1 ⟨rfl, hb1⟩
  replace kx := kx.next hb1
  replace ky := ky.next hb1
  replace hb0 := bnext hb0 hb1
  clear hb1
  obtain ⟨q0, q1, q2, q3, q4, q5⟩ := kx.cells6
  go_wp2_with fail
  refine (H1.out _ hb0).mono ?_
  rintro e w2 ⟨rfl, hb1⟩
  clear q0 q1 q2 q3 q4 q5
  replace kx := kx.next hb1
  replace ky := ky.next hb1
  replace hb0 := bnext hb0 hb1
  clear hb1 H1
  cases lg
  rotate_left
  · go_wp2_with fail
    refine (HA.out _ hb0).mono ?_
    rintro e w3 ⟨rfl, hb1⟩
    replace hb0 := bnext hb0 hb1
    go_wp2_with fail
    go_ret
    exact ⟨rfl, hb0⟩
  obtain ⟨q0, q1, q2, q3, q4, q5⟩ := ky.cells6
  go_wp2_with fail
  refine (H2.out _ hb0).mono ?_
  rintro e w3 ⟨rfl, hb1⟩
  clear q0 q1 q2 q3 q4 q5
  replace kx := kx.next hb1
  replace ky := ky.next hb1
  replace hb0 := bnext hb0 hb1
  clear hb1 H2
  cases lh
  rotate_left
  · go_wp2_with fail
    refine (HA.out _ hb0).mono ?_
    rintro e w3 ⟨rfl, hb1⟩
    replace hb0 := bnext hb0 hb1
    go_wp2_with fail
    go_ret
    exact ⟨rfl, hb0⟩
  replace H3 := Lib.hid (H3.out (by simp))
  replace H4 := Lib.hid (H4.out (by simp))
  replace H5 := Lib.hid (H5.out (by simp) (by simp))
  replace H6 := Lib.hid (H6.out (by simp) (by simp))
  clear HA
  go_wp2_with fail
  clear W0
  generalize w3 = W0 at *
  have HK : Hid (∀ V, Below W0.heap.size W0 V → (fun V => ((V.cell? ⟨w.heap.size, 0, none⟩ = some (.int .i64 xpr) ∧ V.cell? ⟨w.heap.size, 1, none⟩ = some (.int .i64 xod) ∧ V.cell? ⟨w.heap.size, 2, none⟩ = some (.slice xA xn xc) ∧ V.cell? ⟨w.heap.size, 3, none⟩ = some (.slice xB xm xd) ∧ V.cell? ⟨w.heap.size, 4, none⟩ = some (.slice xC xp xq) ∧ V.cell? ⟨w.heap.size, 5, none⟩ = some (.slice xL xln xlc)) ∧ V.cell? ⟨(w.heap.size + 1), 0, none⟩ = some (.int .i64 ypr) ∧ V.cell? ⟨(w.heap.size + 1), 1, none⟩ = some (.int .i64 yod) ∧ V.cell? ⟨(w.heap.size + 1), 2, none⟩ = some (.slice yA yn yc) ∧ V.cell? ⟨(w.heap.size + 1), 3, none⟩ = some (.slice yB ym yd) ∧ V.cell? ⟨(w.heap.size + 1), 4, none⟩ = some (.slice yC yp yq) ∧ V.cell? ⟨(w.heap.size + 1), 5, none⟩ = some (.slice yL yln ylc)) ∧ Below W0.heap.size W0 V) V) := fun V hV => ⟨⟨(kx.next hV).cells6, (ky.next hV).cells6⟩, hV⟩
  have HB0 := Lib.hid (fun V (hV : Below W0.heap.size W0 V) => bnext hb0 hV)
  replace H3 := Lib.hid (fun V hV => H3.out V (HB0.out V hV))
  replace H4 := Lib.hid (fun V hV => H4.out V (HB0.out V hV))
  replace H5 := Lib.hid (fun V hV => H5.out V (HB0.out V hV))
  replace H6 := Lib.hid (fun V hV => H6.out V (HB0.out V hV))
  replace H7 := Lib.hid (fun V hV => H7.out V (HB0.out V hV))
  have hB := bdrew W0
  clear kx ky hb0
  cases a
  · simp only [Bool.false_and] at H5 H6
    refine wp_region_held_drew (S := (fun V => ((V.cell? ⟨w.heap.size, 0, none⟩ = some (.int .i64 xpr) ∧ V.cell? ⟨w.heap.size, 1, none⟩ = some (.int .i64 xod) ∧ V.cell? ⟨w.heap.size, 2, none⟩ = some (.slice xA xn xc) ∧ V.cell? ⟨w.heap.size, 3, none⟩ = some (.slice xB xm xd) ∧ V.cell? ⟨w.heap.size, 4, none⟩ = some (.slice xC xp xq) ∧ V.cell? ⟨w.heap.size, 5, none⟩ = some (.slice xL xln xlc)) ∧ V.cell? ⟨(w.heap.size + 1), 0, none⟩ = some (.int .i64 ypr) ∧ V.cell? ⟨(w.heap.size + 1), 1, none⟩ = some (.int .i64 yod) ∧ V.cell? ⟨(w.heap.size + 1), 2, none⟩ = some (.slice yA yn yc) ∧ V.cell? ⟨(w.heap.size + 1), 3, none⟩ = some (.slice yB ym yd) ∧ V.cell? ⟨(w.heap.size + 1), 4, none⟩ = some (.slice yC yp yq) ∧ V.cell? ⟨(w.heap.size + 1), 5, none⟩ = some (.slice yL yln ylc)) ∧ Below W0.heap.size W0 V)) (by kernel_rfl) (HK.out _ hB) (fun hH => ?_)
    refine wpAnyH_take (i := 0) (oi := ⟨_, _, _, _, _, _⟩) (v := ?_) rfl (by kernel_rfl) (by kernel_rfl) (by kernel_rfl) (fun _ _ _ h => h) (Or.inl ⟨by rfl, ?_⟩) hH ?_
    rotate_left
    · (intro w hSw; (try dsimp only at hSw); go_simp; try (with_reducible rfl))
    simp only [Act.put, List.setIfInBounds_toArray, List.set_cons_zero, List.set_cons_succ]
    refine wpAnyH_take (i := 1) (oi := ⟨_, _, _, _, _, _⟩) (v := ?_) rfl (by kernel_rfl) (by kernel_rfl) (by kernel_rfl) (fun _ _ _ h => h) (Or.inl ⟨by rfl, ?_⟩) hH ?_
    rotate_left
    · (intro w hSw; (try dsimp only at hSw); go_simp; try (with_reducible rfl))
    simp only [Act.put, List.setIfInBounds_toArray, List.set_cons_zero, List.set_cons_succ]
    refine wpAnyH_take (i := 3) (oi := ⟨_, _, _, _, _, _⟩) (v := ?_) rfl (by kernel_rfl) (by kernel_rfl) (by kernel_rfl) (fun _ _ _ h => h) (Or.inl ⟨by rfl, ?_⟩) hH ?_
    rotate_left
    · (intro w hSw; (try dsimp only at hSw); go_simp; try (with_reducible rfl))
    simp only [Act.put, List.setIfInBounds_toArray, List.set_cons_zero, List.set_cons_succ]
    refine wpAnyH_ready (rs := [2]) (by kernel_rfl) (by simp) ?_
    refine AllReadyH.cons (o := ⟨_, _, _, _, _, _⟩) rfl (fun K hK => ?_) AllReadyH.nil
    go_simp
    refine (H5.out _ hB).mono ?_
    rintro e V1 ⟨rfl, hc⟩
    replace hB := bnext hB hc
    clear hc
    go_wp2_with fail
    refine hK.out _ _ (HK.out _ hB) (fun hH => ?_)
    clear hK K
    refine wpAnyH_ready (rs := [4]) (by kernel_rfl) (by simp) ?_
    refine AllReadyH.cons (o := ⟨_, _, _, _, _, _⟩) rfl (fun K hK => ?_) AllReadyH.nil
    go_simp
    refine (H3.out _ hB).mono ?_
    rintro e V2 ⟨rfl, hc⟩
    replace hB := bnext hB hc
    clear hc
    go_wp2_with fail
    refine hK.out _ _ (HK.out _ hB) (fun hH => ?_)
    clear hK K
    refine wpAnyH_take (i := 5) (oi := ⟨_, _, _, _, _, _⟩) (v := ?_) rfl (by kernel_rfl) (by kernel_rfl) (by kernel_rfl) (fun _ _ _ h => h) (Or.inl ⟨by rfl, ?_⟩) hH ?_
    rotate_left
    · (intro w hSw; (try dsimp only at hSw); go_simp; try (with_reducible rfl))
    simp only [Act.put, List.setIfInBounds_toArray, List.set_cons_zero, List.set_cons_succ]
    refine wpAnyH_take (i := 6) (oi := ⟨_, _, _, _, _, _⟩) (v := undef) rfl (by kernel_rfl) (by kernel_rfl) (by kernel_rfl) (fun _ _ _ h => h) (Or.inr ⟨by rfl, rfl⟩) hH ?_
    simp only [Act.put, List.setIfInBounds_toArray, List.set_cons_zero, List.set_cons_succ]
    refine wpAnyH_take (i := 7) (oi := ⟨_, _, _, _, _, _⟩) (v := undef) rfl (by kernel_rfl) (by kernel_rfl) (by kernel_rfl) (fun _ _ _ h => h) (Or.inr ⟨by rfl, rfl⟩) hH ?_
    simp only [Act.put, List.setIfInBounds_toArray, List.set_cons_zero, List.set_cons_succ]
    refine wpAnyH_take (i := 8) (oi := ⟨_, _, _, _, _, _⟩) (v := ?_) rfl (by kernel_rfl) (by kernel_rfl) (by kernel_rfl) (fun _ _ _ h => h) (Or.inl ⟨by rfl, ?_⟩) hH ?_
    rotate_left
    · (intro w hSw; (try dsimp only at hSw); go_simp; try (with_reducible rfl))
    simp only [Act.put, List.setIfInBounds_toArray, List.set_cons_zero, List.set_cons_succ]
    refine wpAnyH_take (i := 9) (oi := ⟨_, _, _, _, _, _⟩) (v := ?_) rfl (by kernel_rfl) (by kernel_rfl) (by kernel_rfl) (fun _ _ _ h => h) (Or.inl ⟨by rfl, ?_⟩) hH ?_
    rotate_left
    · (intro w hSw; (try dsimp only at hSw); go_simp; try (with_reducible rfl))
    simp only [Act.put, List.setIfInBounds_toArray, List.set_cons_zero, List.set_cons_succ]
    refine wpAnyH_take (i := 10) (oi := ⟨_, _, _, _, _, _⟩) (v := undef) rfl (by kernel_rfl) (by kernel_rfl) (by kernel_rfl) (fun _ _ _ h => h) (Or.inr ⟨by rfl, rfl⟩) hH ?_
    simp only [Act.put, List.setIfInBounds_toArray, List.set_cons_zero, List.set_cons_succ]
    refine wpAnyH_take (i := 11) (oi := ⟨_, _, _, _, _, _⟩) (v := undef) rfl (by kernel_rfl) (by kernel_rfl) (by kernel_rfl) (fun _ _ _ h => h) (Or.inr ⟨by rfl, rfl⟩) hH ?_
    simp only [Act.put, List.setIfInBounds_toArray, List.set_cons_zero, List.set_cons_succ]
    refine wpAnyH_take (i := 12) (oi := ⟨_, _, _, _, _, _⟩) (v := undef) rfl (by kernel_rfl) (by kernel_rfl) (by kernel_rfl) (fun _ _ _ h => h) (Or.inr ⟨by rfl, rfl⟩) hH ?_
    simp only [Act.put, List.setIfInBounds_toArray, List.set_cons_zero, List.set_cons_succ]
    refine wpAnyH_take (i := 13) (oi := ⟨_, _, _, _, _, _⟩) (v := ?_) rfl (by kernel_rfl) (by kernel_rfl) (by kernel_rfl) (fun _ _ _ h => h) (Or.inl ⟨by rfl, ?_⟩) hH ?_
    rotate_left
    · (intro w hSw; (try dsimp only at hSw); go_simp; try (with_reducible rfl))
    simp only [Act.put, List.setIfInBounds_toArray, List.set_cons_zero, List.set_cons_succ]
    refine wpAnyH_take (i := 14) (oi := ⟨_, _, _, _, _, _⟩) (v := ?_) rfl (by kernel_rfl) (by kernel_rfl) (by kernel_rfl) (fun _ _ _ h => h) (Or.inl ⟨by rfl, ?_⟩) hH ?_
    rotate_left
    · (intro w hSw; (try dsimp only at hSw); go_simp; try (with_reducible rfl))
    simp only [Act.put, List.setIfInBounds_toArray, List.set_cons_zero, List.set_cons_succ]
    refine wpAnyH_take (i := 15) (oi := ⟨_, _, _, _, _, _⟩) (v := ?_) rfl (by kernel_rfl) (by kernel_rfl) (by kernel_rfl) (fun _ _ _ h => h) (Or.inl ⟨by rfl, ?_⟩) hH ?_
    rotate_left
    · (intro w hSw; (try dsimp only at hSw); go_simp; try (with_reducible rfl))
    simp only [Act.put, List.setIfInBounds_toArray, List.set_cons_zero, List.set_cons_succ]
    refine wpAnyH_take (i := 16) (oi := ⟨_, _, _, _, _, _⟩) (v := ?_) rfl (by kernel_rfl) (by kernel_rfl) (by kernel_rfl) (fun _ _ _ h => h) (Or.inl ⟨by rfl, ?_⟩) hH ?_
    rotate_left
    · (intro w hSw; (try dsimp only at hSw); go_simp; try (with_reducible rfl))
    simp only [Act.put, List.setIfInBounds_toArray, List.set_cons_zero, List.set_cons_succ]
    refine wpAnyH_take (i := 17) (oi := ⟨_, _, _, _, _, _⟩) (v := ?_) rfl (by kernel_rfl) (by kernel_rfl) (by kernel_rfl) (fun _ _ _ h => h) (Or.inl ⟨by rfl, ?_⟩) hH ?_
    rotate_left
    · (intro w hSw; (try dsimp only at hSw); go_simp; try (with_reducible rfl))
    simp only [Act.put, List.setIfInBounds_toArray, List.set_cons_zero, List.set_cons_succ]
    refine wpAnyH_take (i := 19) (oi := ⟨_, _, _, _, _, _⟩) (v := ?_) rfl (by kernel_rfl) (by kernel_rfl) (by kernel_rfl) (fun _ _ _ h => h) (Or.inl ⟨by rfl, ?_⟩) hH ?_
    rotate_left
    · (intro w hSw; (try dsimp only at hSw); go_simp; try (with_reducible rfl))
    simp only [Act.put, List.setIfInBounds_toArray, List.set_cons_zero, List.set_cons_succ]
    refine wpAnyH_take (i := 20) (oi := ⟨_, _, _, _, _, _⟩) (v := ?_) rfl (by kernel_rfl) (by kernel_rfl) (by kernel_rfl) (fun _ _ _ h => h) (Or.inl ⟨by rfl, ?_⟩) hH ?_
    rotate_left
    · (intro w hSw; (try dsimp only at hSw); go_simp; try (with_reducible rfl))
    simp only [Act.put, List.setIfInBounds_toArray, List.set_cons_zero, List.set_cons_succ]
    refine wpAnyH_ready (rs := [18]) (by kernel_rfl) (by simp) ?_
    refine AllReadyH.cons (o := ⟨_, _, _, _, _, _⟩) rfl (fun K hK => ?_) AllReadyH.nil
    go_simp
    refine (H5.out _ hB).mono ?_
    rintro e V3 ⟨rfl, hc⟩
    replace hB := bnext hB hc
    clear hc
    go_wp2_with fail
    refine hK.out _ _ (HK.out _ hB) (fun hH => ?_)
    clear hK K
    refine wpAnyH_ready (rs := [21]) (by kernel_rfl) (by simp) ?_
    refine AllReadyH.cons (o := ⟨_, _, _, _, _, _⟩) rfl (fun K hK => ?_) AllReadyH.nil
    go_simp
    refine (H6.out _ hB).mono ?_
    rintro e V4 ⟨rfl, hc⟩
    replace hB := bnext hB hc
    clear hc
    go_wp2_with fail
    refine hK.out _ _ (HK.out _ hB) (fun hH => ?_)
    clear hK K
    refine wpAnyH_take (i := 22) (oi := ⟨_, _, _, _, _, _⟩) (v := ?_) rfl (by kernel_rfl) (by kernel_rfl) (by kernel_rfl) (fun _ _ _ h => h) (Or.inl ⟨by rfl, ?_⟩) hH ?_
    rotate_left
    · (intro w hSw; (try dsimp only at hSw); go_simp; try (with_reducible rfl))
    simp only [Act.put, List.setIfInBounds_toArray, List.set_cons_zero, List.set_cons_succ]
    refine wpAnyH_take (i := 23) (oi := ⟨_, _, _, _, _, _⟩) (v := ?_) rfl (by kernel_rfl) (by kernel_rfl) (by kernel_rfl) (fun _ _ _ h => h) (Or.inl ⟨by rfl, ?_⟩) hH ?_
    rotate_left
    · (intro w hSw; (try dsimp only at hSw); go_simp; try (with_reducible rfl))
    simp only [Act.put, List.setIfInBounds_toArray, List.set_cons_zero, List.set_cons_succ]
    refine wpAnyH_take (i := 24) (oi := ⟨_, _, _, _, _, _⟩) (v := ?_) rfl (by kernel_rfl) (by kernel_rfl) (by kernel_rfl) (fun _ _ _ h => h) (Or.inl ⟨by rfl, ?_⟩) hH ?_
    rotate_left
    · (intro w hSw; (try dsimp only at hSw); go_simp; try (with_reducible rfl))
    simp only [Act.put, List.setIfInBounds_toArray, List.set_cons_zero, List.set_cons_succ]
    refine wpAnyH_done (by kernel_rfl) ?_ _
    go_wp2_with fail
    go_ret
    exact ⟨rfl, HB0.out _ hB⟩
  cases b
  · simp only [Bool.true_and, Bool.false_and] at H5 H6
    refine wp_region_held_drew (S := (fun V => ((V.cell? ⟨w.heap.size, 0, none⟩ = some (.int .i64 xpr) ∧ V.cell? ⟨w.heap.size, 1, none⟩ = some (.int .i64 xod) ∧ V.cell? ⟨w.heap.size, 2, none⟩ = some (.slice xA xn xc) ∧ V.cell? ⟨w.heap.size, 3, none⟩ = some (.slice xB xm xd) ∧ V.cell? ⟨w.heap.size, 4, none⟩ = some (.slice xC xp xq) ∧ V.cell? ⟨w.heap.size, 5, none⟩ = some (.slice xL xln xlc)) ∧ V.cell? ⟨(w.heap.size + 1), 0, none⟩ = some (.int .i64 ypr) ∧ V.cell? ⟨(w.heap.size + 1), 1, none⟩ = some (.int .i64 yod) ∧ V.cell? ⟨(w.heap.size + 1), 2, none⟩ = some (.slice yA yn yc) ∧ V.cell? ⟨(w.heap.size + 1), 3, none⟩ = some (.slice yB ym yd) ∧ V.cell? ⟨(w.heap.size + 1), 4, none⟩ = some (.slice yC yp yq) ∧ V.cell? ⟨(w.heap.size + 1), 5, none⟩ = some (.slice yL yln ylc)) ∧ Below W0.heap.size W0 V)) (by kernel_rfl) (HK.out _ hB) (fun hH => ?_)
    refine wpAnyH_take (i := 0) (oi := ⟨_, _, _, _, _, _⟩) (v := ?_) rfl (by kernel_rfl) (by kernel_rfl) (by kernel_rfl) (fun _ _ _ h => h) (Or.inl ⟨by rfl, ?_⟩) hH ?_
    rotate_left
    · (intro w hSw; (try dsimp only at hSw); go_simp; try (with_reducible rfl))
    simp only [Act.put, List.setIfInBounds_toArray, List.set_cons_zero, List.set_cons_succ]
    refine wpAnyH_take (i := 1) (oi := ⟨_, _, _, _, _, _⟩) (v := ?_) rfl (by kernel_rfl) (by kernel_rfl) (by kernel_rfl) (fun _ _ _ h => h) (Or.inl ⟨by rfl, ?_⟩) hH ?_
    rotate_left
    · (intro w hSw; (try dsimp only at hSw); go_simp; try (with_reducible rfl))
    simp only [Act.put, List.setIfInBounds_toArray, List.set_cons_zero, List.set_cons_succ]
    refine wpAnyH_take (i := 3) (oi := ⟨_, _, _, _, _, _⟩) (v := ?_) rfl (by kernel_rfl) (by kernel_rfl) (by kernel_rfl) (fun _ _ _ h => h) (Or.inl ⟨by rfl, ?_⟩) hH ?_
    rotate_left
    · (intro w hSw; (try dsimp only at hSw); go_simp; try (with_reducible rfl))
    simp only [Act.put, List.setIfInBounds_toArray, List.set_cons_zero, List.set_cons_succ]
    refine wpAnyH_ready (rs := [2]) (by kernel_rfl) (by simp) ?_
    refine AllReadyH.cons (o := ⟨_, _, _, _, _, _⟩) rfl (fun K hK => ?_) AllReadyH.nil
    go_simp
    refine (H5.out _ hB).mono ?_
    rintro e V1 ⟨rfl, hc⟩
    replace hB := bnext hB hc
    clear hc
    go_wp2_with fail
    refine hK.out _ _ (HK.out _ hB) (fun hH => ?_)
    clear hK K
    refine wpAnyH_ready (rs := [4]) (by kernel_rfl) (by simp) ?_
    refine AllReadyH.cons (o := ⟨_, _, _, _, _, _⟩) rfl (fun K hK => ?_) AllReadyH.nil
    go_simp
    refine (H3.out _ hB).mono ?_
    rintro e V2 ⟨rfl, hc⟩
    replace hB := bnext hB hc
    clear hc
    go_wp2_with fail
    refine hK.out _ _ (HK.out _ hB) (fun hH => ?_)
    clear hK K
    refine wpAnyH_take (i := 5) (oi := ⟨_, _, _, _, _, _⟩) (v := ?_) rfl (by kernel_rfl) (by kernel_rfl) (by kernel_rfl) (fun _ _ _ h => h) (Or.inl ⟨by rfl, ?_⟩) hH ?_
    rotate_left
    · (intro w hSw; (try dsimp only at hSw); go_simp; try (with_reducible rfl))
    simp only [Act.put, List.setIfInBounds_toArray, List.set_cons_zero, List.set_cons_succ]
    refine wpAnyH_take (i := 6) (oi := ⟨_, _, _, _, _, _⟩) (v := ?_) rfl (by kernel_rfl) (by kernel_rfl) (by kernel_rfl) (fun _ _ _ h => h) (Or.inl ⟨by rfl, ?_⟩) hH ?_
    rotate_left
    · (intro w hSw; (try dsimp only at hSw); go_simp; try (with_reducible rfl))
    simp only [Act.put, List.setIfInBounds_toArray, List.set_cons_zero, List.set_cons_succ]
    refine wpAnyH_ready (rs := [7]) (by kernel_rfl) (by simp) ?_
    refine AllReadyH.cons (o := ⟨_, _, _, _, _, _⟩) rfl (fun K hK => ?_) AllReadyH.nil
    go_simp
    refine (H4.out _ hB).mono ?_
    rintro e V3 ⟨rfl, hc⟩
    replace hB := bnext hB hc
    clear hc
    go_wp2_with fail
    refine hK.out _ _ (HK.out _ hB) (fun hH => ?_)
    clear hK K
    refine wpAnyH_take (i := 8) (oi := ⟨_, _, _, _, _, _⟩) (v := ?_) rfl (by kernel_rfl) (by kernel_rfl) (by kernel_rfl) (fun _ _ _ h => h) (Or.inl ⟨by rfl, ?_⟩) hH ?_
    rotate_left
    · (intro w hSw; (try dsimp only at hSw); go_simp; try (with_reducible rfl))
    simp only [Act.put, List.setIfInBounds_toArray, List.set_cons_zero, List.set_cons_succ]
    refine wpAnyH_take (i := 9) (oi := ⟨_, _, _, _, _, _⟩) (v := ?_) rfl (by kernel_rfl) (by kernel_rfl) (by kernel_rfl) (fun _ _ _ h => h) (Or.inl ⟨by rfl, ?_⟩) hH ?_
    rotate_left
    · (intro w hSw; (try dsimp only at hSw); go_simp; try (with_reducible rfl))
    simp only [Act.put, List.setIfInBounds_toArray, List.set_cons_zero, List.set_cons_succ]
    refine wpAnyH_take (i := 10) (oi := ⟨_, _, _, _, _, _⟩) (v := undef) rfl (by kernel_rfl) (by kernel_rfl) (by kernel_rfl) (fun _ _ _ h => h) (Or.inr ⟨by rfl, rfl⟩) hH ?_
    simp only [Act.put, List.setIfInBounds_toArray, List.set_cons_zero, List.set_cons_succ]
    refine wpAnyH_take (i := 11) (oi := ⟨_, _, _, _, _, _⟩) (v := undef) rfl (by kernel_rfl) (by kernel_rfl) (by kernel_rfl) (fun _ _ _ h => h) (Or.inr ⟨by rfl, rfl⟩) hH ?_
    simp only [Act.put, List.setIfInBounds_toArray, List.set_cons_zero, List.set_cons_succ]
    refine wpAnyH_take (i := 12) (oi := ⟨_, _, _, _, _, _⟩) (v := undef) rfl (by kernel_rfl) (by kernel_rfl) (by kernel_rfl) (fun _ _ _ h => h) (Or.inr ⟨by rfl, rfl⟩) hH ?_
    simp only [Act.put, List.setIfInBounds_toArray, List.set_cons_zero, List.set_cons_succ]
    refine wpAnyH_take (i := 13) (oi := ⟨_, _, _, _, _, _⟩) (v := ?_) rfl (by kernel_rfl) (by kernel_rfl) (by kernel_rfl) (fun _ _ _ h => h) (Or.inl ⟨by rfl, ?_⟩) hH ?_
    rotate_left
    · (intro w hSw; (try dsimp only at hSw); go_simp; try (with_reducible rfl))
    simp only [Act.put, List.setIfInBounds_toArray, List.set_cons_zero, List.set_cons_succ]
    refine wpAnyH_take (i := 14) (oi := ⟨_, _, _, _, _, _⟩) (v := ?_) rfl (by kernel_rfl) (by kernel_rfl) (by kernel_rfl) (fun _ _ _ h => h) (Or.inl ⟨by rfl, ?_⟩) hH ?_
    rotate_left
    · (intro w hSw; (try dsimp only at hSw); go_simp; try (with_reducible rfl))
    simp only [Act.put, List.setIfInBounds_toArray, List.set_cons_zero, List.set_cons_succ]
    refine wpAnyH_take (i := 15) (oi := ⟨_, _, _, _, _, _⟩) (v := ?_) rfl (by kernel_rfl) (by kernel_rfl) (by kernel_rfl) (fun _ _ _ h => h) (Or.inl ⟨by rfl, ?_⟩) hH ?_
    rotate_left
    · (intro w hSw; (try dsimp only at hSw); go_simp; try (with_reducible rfl))
    simp only [Act.put, List.setIfInBounds_toArray, List.set_cons_zero, List.set_cons_succ]
    refine wpAnyH_take (i := 16) (oi := ⟨_, _, _, _, _, _⟩) (v := ?_) rfl (by kernel_rfl) (by kernel_rfl) (by kernel_rfl) (fun _ _ _ h => h) (Or.inl ⟨by rfl, ?_⟩) hH ?_
    rotate_left
    · (intro w hSw; (try dsimp only at hSw); go_simp; try (with_reducible rfl))
    simp only [Act.put, List.setIfInBounds_toArray, List.set_cons_zero, List.set_cons_succ]
    refine wpAnyH_take (i := 17) (oi := ⟨_, _, _, _, _, _⟩) (v := ?_) rfl (by kernel_rfl) (by kernel_rfl) (by kernel_rfl) (fun _ _ _ h => h) (Or.inl ⟨by rfl, ?_⟩) hH ?_
    rotate_left
    · (intro w hSw; (try dsimp only at hSw); go_simp; try (with_reducible rfl))
    simp only [Act.put, List.setIfInBounds_toArray, List.set_cons_zero, List.set_cons_succ]
    refine wpAnyH_take (i := 19) (oi := ⟨_, _, _, _, _, _⟩) (v := ?_) rfl (by kernel_rfl) (by kernel_rfl) (by kernel_rfl) (fun _ _ _ h => h) (Or.inl ⟨by rfl, ?_⟩) hH ?_
    rotate_left
    · (intro w hSw; (try dsimp only at hSw); go_simp; try (with_reducible rfl))
    simp only [Act.put, List.setIfInBounds_toArray, List.set_cons_zero, List.set_cons_succ]
    refine wpAnyH_take (i := 20) (oi := ⟨_, _, _, _, _, _⟩) (v := ?_) rfl (by kernel_rfl) (by kernel_rfl) (by kernel_rfl) (fun _ _ _ h => h) (Or.inl ⟨by rfl, ?_⟩) hH ?_
    rotate_left
    · (intro w hSw; (try dsimp only at hSw); go_simp; try (with_reducible rfl))
    simp only [Act.put, List.setIfInBounds_toArray, List.set_cons_zero, List.set_cons_succ]
    refine wpAnyH_ready (rs := [18]) (by kernel_rfl) (by simp) ?_
    refine AllReadyH.cons (o := ⟨_, _, _, _, _, _⟩) rfl (fun K hK => ?_) AllReadyH.nil
    go_simp
    refine (H5.out _ hB).mono ?_
    rintro e V4 ⟨rfl, hc⟩
    replace hB := bnext hB hc
    clear hc
    go_wp2_with fail
    refine hK.out _ _ (HK.out _ hB) (fun hH => ?_)
    clear hK K
    refine wpAnyH_ready (rs := [21]) (by kernel_rfl) (by simp) ?_
    refine AllReadyH.cons (o := ⟨_, _, _, _, _, _⟩) rfl (fun K hK => ?_) AllReadyH.nil
    go_simp
    refine (H6.out _ hB).mono ?_
    rintro e V5 ⟨rfl, hc⟩
    replace hB := bnext hB hc
    clear hc
    go_wp2_with fail
    refine hK.out _ _ (HK.out _ hB) (fun hH => ?_)
    clear hK K
    refine wpAnyH_take (i := 22) (oi := ⟨_, _, _, _, _, _⟩) (v := ?_) rfl (by kernel_rfl) (by kernel_rfl) (by kernel_rfl) (fun _ _ _ h => h) (Or.inl ⟨by rfl, ?_⟩) hH ?_
    rotate_left
    · (intro w hSw; (try dsimp only at hSw); go_simp; try (with_reducible rfl))
    simp only [Act.put, List.setIfInBounds_toArray, List.set_cons_zero, List.set_cons_succ]
    refine wpAnyH_take (i := 23) (oi := ⟨_, _, _, _, _, _⟩) (v := ?_) rfl (by kernel_rfl) (by kernel_rfl) (by kernel_rfl) (fun _ _ _ h => h) (Or.inl ⟨by rfl, ?_⟩) hH ?_
    rotate_left
    · (intro w hSw; (try dsimp only at hSw); go_simp; try (with_reducible rfl))
    simp only [Act.put, List.setIfInBounds_toArray, List.set_cons_zero, List.set_cons_succ]
    refine wpAnyH_take (i := 24) (oi := ⟨_, _, _, _, _, _⟩) (v := ?_) rfl (by kernel_rfl) (by kernel_rfl) (by kernel_rfl) (fun _ _ _ h => h) (Or.inl ⟨by rfl, ?_⟩) hH ?_
    rotate_left
    · (intro w hSw; (try dsimp only at hSw); go_simp; try (with_reducible rfl))
    simp only [Act.put, List.setIfInBounds_toArray, List.set_cons_zero, List.set_cons_succ]
    refine wpAnyH_done (by kernel_rfl) ?_ _
    go_wp2_with fail
    go_ret
    exact ⟨rfl, HB0.out _ hB⟩
  cases s
  · simp only [Bool.true_and, Bool.and_false] at H5 H6
    refine wp_region_held_drew (S := (fun V => ((V.cell? ⟨w.heap.size, 0, none⟩ = some (.int .i64 xpr) ∧ V.cell? ⟨w.heap.size, 1, none⟩ = some (.int .i64 xod) ∧ V.cell? ⟨w.heap.size, 2, none⟩ = some (.slice xA xn xc) ∧ V.cell? ⟨w.heap.size, 3, none⟩ = some (.slice xB xm xd) ∧ V.cell? ⟨w.heap.size, 4, none⟩ = some (.slice xC xp xq) ∧ V.cell? ⟨w.heap.size, 5, none⟩ = some (.slice xL xln xlc)) ∧ V.cell? ⟨(w.heap.size + 1), 0, none⟩ = some (.int .i64 ypr) ∧ V.cell? ⟨(w.heap.size + 1), 1, none⟩ = some (.int .i64 yod) ∧ V.cell? ⟨(w.heap.size + 1), 2, none⟩ = some (.slice yA yn yc) ∧ V.cell? ⟨(w.heap.size + 1), 3, none⟩ = some (.slice yB ym yd) ∧ V.cell? ⟨(w.heap.size + 1), 4, none⟩ = some (.slice yC yp yq) ∧ V.cell? ⟨(w.heap.size + 1), 5, none⟩ = some (.slice yL yln ylc)) ∧ Below W0.heap.size W0 V)) (by kernel_rfl) (HK.out _ hB) (fun hH => ?_)
    refine wpAnyH_take (i := 0) (oi := ⟨_, _, _, _, _, _⟩) (v := ?_) rfl (by kernel_rfl) (by kernel_rfl) (by kernel_rfl) (fun _ _ _ h => h) (Or.inl ⟨by rfl, ?_⟩) hH ?_
    rotate_left
    · (intro w hSw; (try dsimp only at hSw); go_simp; try (with_reducible rfl))
    simp only [Act.put, List.setIfInBounds_toArray, List.set_cons_zero, List.set_cons_succ]
    refine wpAnyH_take (i := 1) (oi := ⟨_, _, _, _, _, _⟩) (v := ?_) rfl (by kernel_rfl) (by kernel_rfl) (by kernel_rfl) (fun _ _ _ h => h) (Or.inl ⟨by rfl, ?_⟩) hH ?_
    rotate_left
    · (intro w hSw; (try dsimp only at hSw); go_simp; try (with_reducible rfl))
    simp only [Act.put, List.setIfInBounds_toArray, List.set_cons_zero, List.set_cons_succ]
    refine wpAnyH_take (i := 3) (oi := ⟨_, _, _, _, _, _⟩) (v := ?_) rfl (by kernel_rfl) (by kernel_rfl) (by kernel_rfl) (fun _ _ _ h => h) (Or.inl ⟨by rfl, ?_⟩) hH ?_
    rotate_left
    · (intro w hSw; (try dsimp only at hSw); go_simp; try (with_reducible rfl))
    simp only [Act.put, List.setIfInBounds_toArray, List.set_cons_zero, List.set_cons_succ]
    refine wpAnyH_ready (rs := [2]) (by kernel_rfl) (by simp) ?_
    refine AllReadyH.cons (o := ⟨_, _, _, _, _, _⟩) rfl (fun K hK => ?_) AllReadyH.nil
    go_simp
    refine (H5.out _ hB).mono ?_
    rintro e V1 ⟨rfl, hc⟩
    replace hB := bnext hB hc
    clear hc
    go_wp2_with fail
    refine hK.out _ _ (HK.out _ hB) (fun hH => ?_)
    clear hK K
    refine wpAnyH_ready (rs := [4]) (by kernel_rfl) (by simp) ?_
    refine AllReadyH.cons (o := ⟨_, _, _, _, _, _⟩) rfl (fun K hK => ?_) AllReadyH.nil
    go_simp
    refine (H3.out _ hB).mono ?_
    rintro e V2 ⟨rfl, hc⟩
    replace hB := bnext hB hc
    clear hc
    go_wp2_with fail
    refine hK.out _ _ (HK.out _ hB) (fun hH => ?_)
    clear hK K
    refine wpAnyH_take (i := 5) (oi := ⟨_, _, _, _, _, _⟩) (v := ?_) rfl (by kernel_rfl) (by kernel_rfl) (by kernel_rfl) (fun _ _ _ h => h) (Or.inl ⟨by rfl, ?_⟩) hH ?_
    rotate_left
    · (intro w hSw; (try dsimp only at hSw); go_simp; try (with_reducible rfl))
    simp only [Act.put, List.setIfInBounds_toArray, List.set_cons_zero, List.set_cons_succ]
    refine wpAnyH_take (i := 6) (oi := ⟨_, _, _, _, _, _⟩) (v := ?_) rfl (by kernel_rfl) (by kernel_rfl) (by kernel_rfl) (fun _ _ _ h => h) (Or.inl ⟨by rfl, ?_⟩) hH ?_
    rotate_left
    · (intro w hSw; (try dsimp only at hSw); go_simp; try (with_reducible rfl))
    simp only [Act.put, List.setIfInBounds_toArray, List.set_cons_zero, List.set_cons_succ]
    refine wpAnyH_ready (rs := [7]) (by kernel_rfl) (by simp) ?_
    refine AllReadyH.cons (o := ⟨_, _, _, _, _, _⟩) rfl (fun K hK => ?_) AllReadyH.nil
    go_simp
    refine (H4.out _ hB).mono ?_
    rintro e V3 ⟨rfl, hc⟩
    replace hB := bnext hB hc
    clear hc
    go_wp2_with fail
    refine hK.out _ _ (HK.out _ hB) (fun hH => ?_)
    clear hK K
    refine wpAnyH_take (i := 8) (oi := ⟨_, _, _, _, _, _⟩) (v := ?_) rfl (by kernel_rfl) (by kernel_rfl) (by kernel_rfl) (fun _ _ _ h => h) (Or.inl ⟨by rfl, ?_⟩) hH ?_
    rotate_left
    · (intro w hSw; (try dsimp only at hSw); go_simp; try (with_reducible rfl))
    simp only [Act.put, List.setIfInBounds_toArray, List.set_cons_zero, List.set_cons_succ]
    refine wpAnyH_take (i := 9) (oi := ⟨_, _, _, _, _, _⟩) (v := ?_) rfl (by kernel_rfl) (by kernel_rfl) (by kernel_rfl) (fun _ _ _ h => h) (Or.inl ⟨by rfl, ?_⟩) hH ?_
    rotate_left
    · (intro w hSw; (try dsimp only at hSw); go_simp; try (with_reducible rfl))
    simp only [Act.put, List.setIfInBounds_toArray, List.set_cons_zero, List.set_cons_succ]
    refine wpAnyH_take (i := 10) (oi := ⟨_, _, _, _, _, _⟩) (v := ?_) rfl (by kernel_rfl) (by kernel_rfl) (by kernel_rfl) (fun _ _ _ h => h) (Or.inl ⟨by rfl, ?_⟩) hH ?_
    rotate_left
    · (intro w hSw; (try dsimp only at hSw); go_simp; try (with_reducible rfl))
    simp only [Act.put, List.setIfInBounds_toArray, List.set_cons_zero, List.set_cons_succ]
    refine wpAnyH_take (i := 11) (oi := ⟨_, _, _, _, _, _⟩) (v := ?_) rfl (by kernel_rfl) (by kernel_rfl) (by kernel_rfl) (fun _ _ _ h => h) (Or.inl ⟨by rfl, ?_⟩) hH ?_
    rotate_left
    · (intro w hSw; (try dsimp only at hSw); go_simp; try (with_reducible rfl))
    simp only [Act.put, List.setIfInBounds_toArray, List.set_cons_zero, List.set_cons_succ]
    refine wpAnyH_ready (rs := [12]) (by kernel_rfl) (by simp) ?_
    refine AllReadyH.cons (o := ⟨_, _, _, _, _, _⟩) rfl (fun K hK => ?_) AllReadyH.nil
    go_simp
    refine (H7.out _ hB).mono ?_
    rintro e V4 ⟨rfl, hc⟩
    replace hB := bnext hB hc
    clear hc
    go_wp2_with fail
    refine hK.out _ _ (HK.out _ hB) (fun hH => ?_)
    clear hK K
    refine wpAnyH_take (i := 13) (oi := ⟨_, _, _, _, _, _⟩) (v := ?_) rfl (by kernel_rfl) (by kernel_rfl) (by kernel_rfl) (fun _ _ _ h => h) (Or.inl ⟨by rfl, ?_⟩) hH ?_
    rotate_left
    · (intro w hSw; (try dsimp only at hSw); go_simp; try (with_reducible rfl))
    simp only [Act.put, List.setIfInBounds_toArray, List.set_cons_zero, List.set_cons_succ]
    refine wpAnyH_take (i := 14) (oi := ⟨_, _, _, _, _, _⟩) (v := ?_) rfl (by kernel_rfl) (by kernel_rfl) (by kernel_rfl) (fun _ _ _ h => h) (Or.inl ⟨by rfl, ?_⟩) hH ?_
    rotate_left
    · (intro w hSw; (try dsimp only at hSw); go_simp; try (with_reducible rfl))
    simp only [Act.put, List.setIfInBounds_toArray, List.set_cons_zero, List.set_cons_succ]
    refine wpAnyH_take (i := 15) (oi := ⟨_, _, _, _, _, _⟩) (v := ?_) rfl (by kernel_rfl) (by kernel_rfl) (by kernel_rfl) (fun _ _ _ h => h) (Or.inl ⟨by rfl, ?_⟩) hH ?_
    rotate_left
    · (intro w hSw; (try dsimp only at hSw); go_simp; try (with_reducible rfl))
    simp only [Act.put, List.setIfInBounds_toArray, List.set_cons_zero, List.set_cons_succ]
    refine wpAnyH_take (i := 16) (oi := ⟨_, _, _, _, _, _⟩) (v := ?_) rfl (by kernel_rfl) (by kernel_rfl) (by kernel_rfl) (fun _ _ _ h => h) (Or.inl ⟨by rfl, ?_⟩) hH ?_
    rotate_left
    · (intro w hSw; (try dsimp only at hSw); go_simp; try (with_reducible rfl))
    simp only [Act.put, List.setIfInBounds_toArray, List.set_cons_zero, List.set_cons_succ]
    refine wpAnyH_take (i := 17) (oi := ⟨_, _, _, _, _, _⟩) (v := ?_) rfl (by kernel_rfl) (by kernel_rfl) (by kernel_rfl) (fun _ _ _ h => h) (Or.inl ⟨by rfl, ?_⟩) hH ?_
    rotate_left
    · (intro w hSw; (try dsimp only at hSw); go_simp; try (with_reducible rfl))
    simp only [Act.put, List.setIfInBounds_toArray, List.set_cons_zero, List.set_cons_succ]
    refine wpAnyH_take (i := 19) (oi := ⟨_, _, _, _, _, _⟩) (v := ?_) rfl (by kernel_rfl) (by kernel_rfl) (by kernel_rfl) (fun _ _ _ h => h) (Or.inl ⟨by rfl, ?_⟩) hH ?_
    rotate_left
    · (intro w hSw; (try dsimp only at hSw); go_simp; try (with_reducible rfl))
    simp only [Act.put, List.setIfInBounds_toArray, List.set_cons_zero, List.set_cons_succ]
    refine wpAnyH_take (i := 20) (oi := ⟨_, _, _, _, _, _⟩) (v := ?_) rfl (by kernel_rfl) (by kernel_rfl) (by kernel_rfl) (fun _ _ _ h => h) (Or.inl ⟨by rfl, ?_⟩) hH ?_
    rotate_left
    · (intro w hSw; (try dsimp only at hSw); go_simp; try (with_reducible rfl))
    simp only [Act.put, List.setIfInBounds_toArray, List.set_cons_zero, List.set_cons_succ]
    refine wpAnyH_ready (rs := [18]) (by kernel_rfl) (by simp) ?_
    refine AllReadyH.cons (o := ⟨_, _, _, _, _, _⟩) rfl (fun K hK => ?_) AllReadyH.nil
    go_simp
    refine (H5.out _ hB).mono ?_
    rintro e V5 ⟨rfl, hc⟩
    replace hB := bnext hB hc
    clear hc
    go_wp2_with fail
    refine hK.out _ _ (HK.out _ hB) (fun hH => ?_)
    clear hK K
    refine wpAnyH_ready (rs := [21]) (by kernel_rfl) (by simp) ?_
    refine AllReadyH.cons (o := ⟨_, _, _, _, _, _⟩) rfl (fun K hK => ?_) AllReadyH.nil
    go_simp
    refine (H6.out _ hB).mono ?_
    rintro e V6 ⟨rfl, hc⟩
    replace hB := bnext hB hc
    clear hc
    go_wp2_with fail
    refine hK.out _ _ (HK.out _ hB) (fun hH => ?_)
    clear hK K
    refine wpAnyH_take (i := 22) (oi := ⟨_, _, _, _, _, _⟩) (v := ?_) rfl (by kernel_rfl) (by kernel_rfl) (by kernel_rfl) (fun _ _ _ h => h) (Or.inl ⟨by rfl, ?_⟩) hH ?_
    rotate_left
    · (intro w hSw; (try dsimp only at hSw); go_simp; try (with_reducible rfl))
    simp only [Act.put, List.setIfInBounds_toArray, List.set_cons_zero, List.set_cons_succ]
    refine wpAnyH_take (i := 23) (oi := ⟨_, _, _, _, _, _⟩) (v := ?_) rfl (by kernel_rfl) (by kernel_rfl) (by kernel_rfl) (fun _ _ _ h => h) (Or.inl ⟨by rfl, ?_⟩) hH ?_
    rotate_left
    · (intro w hSw; (try dsimp only at hSw); go_simp; try (with_reducible rfl))
    simp only [Act.put, List.setIfInBounds_toArray, List.set_cons_zero, List.set_cons_succ]
    refine wpAnyH_take (i := 24) (oi := ⟨_, _, _, _, _, _⟩) (v := ?_) rfl (by kernel_rfl) (by kernel_rfl) (by kernel_rfl) (fun _ _ _ h => h) (Or.inl ⟨by rfl, ?_⟩) hH ?_
    rotate_left
    · (intro w hSw; (try dsimp only at hSw); go_simp; try (with_reducible rfl))
    simp only [Act.put, List.setIfInBounds_toArray, List.set_cons_zero, List.set_cons_succ]
    refine wpAnyH_done (by kernel_rfl) ?_ _
    go_wp2_with fail
    go_ret
    exact ⟨rfl, HB0.out _ hB⟩
  simp only [Bool.true_and] at H5 H6
  refine wp_region_held_drew (S := (fun V => ((V.cell? ⟨w.heap.size, 0, none⟩ = some (.int .i64 xpr) ∧ V.cell? ⟨w.heap.size, 1, none⟩ = some (.int .i64 xod) ∧ V.cell? ⟨w.heap.size, 2, none⟩ = some (.slice xA xn xc) ∧ V.cell? ⟨w.heap.size, 3, none⟩ = some (.slice xB xm xd) ∧ V.cell? ⟨w.heap.size, 4, none⟩ = some (.slice xC xp xq) ∧ V.cell? ⟨w.heap.size, 5, none⟩ = some (.slice xL xln xlc)) ∧ V.cell? ⟨(w.heap.size + 1), 0, none⟩ = some (.int .i64 ypr) ∧ V.cell? ⟨(w.heap.size + 1), 1, none⟩ = some (.int .i64 yod) ∧ V.cell? ⟨(w.heap.size + 1), 2, none⟩ = some (.slice yA yn yc) ∧ V.cell? ⟨(w.heap.size + 1), 3, none⟩ = some (.slice yB ym yd) ∧ V.cell? ⟨(w.heap.size + 1), 4, none⟩ = some (.slice yC yp yq) ∧ V.cell? ⟨(w.heap.size + 1), 5, none⟩ = some (.slice yL yln ylc)) ∧ Below W0.heap.size W0 V)) (by kernel_rfl) (HK.out _ hB) (fun hH => ?_)
  refine wpAnyH_take (i := 0) (oi := ⟨_, _, _, _, _, _⟩) (v := ?_) rfl (by kernel_rfl) (by kernel_rfl) (by kernel_rfl) (fun _ _ _ h => h) (Or.inl ⟨by rfl, ?_⟩) hH ?_
  rotate_left
  · (intro w hSw; (try dsimp only at hSw); go_simp; try (with_reducible rfl))
  simp only [Act.put, List.setIfInBounds_toArray, List.set_cons_zero, List.set_cons_succ]
  refine wpAnyH_take (i := 1) (oi := ⟨_, _, _, _, _, _⟩) (v := ?_) rfl (by kernel_rfl) (by kernel_rfl) (by kernel_rfl) (fun _ _ _ h => h) (Or.inl ⟨by rfl, ?_⟩) hH ?_
  rotate_left
  · (intro w hSw; (try dsimp only at hSw); go_simp; try (with_reducible rfl))
  simp only [Act.put, List.setIfInBounds_toArray, List.set_cons_zero, List.set_cons_succ]
  refine wpAnyH_take (i := 3) (oi := ⟨_, _, _, _, _, _⟩) (v := ?_) rfl (by kernel_rfl) (by kernel_rfl) (by kernel_rfl) (fun _ _ _ h => h) (Or.inl ⟨by rfl, ?_⟩) hH ?_
  rotate_left
  · (intro w hSw; (try dsimp only at hSw); go_simp; try (with_reducible rfl))
  simp only [Act.put, List.setIfInBounds_toArray, List.set_cons_zero, List.set_cons_succ]
  refine wpAnyH_ready (rs := [2]) (by kernel_rfl) (by simp) ?_
  refine AllReadyH.cons (o := ⟨_, _, _, _, _, _⟩) rfl (fun K hK => ?_) AllReadyH.nil
  go_simp
  refine (H5.out _ hB).mono ?_
  rintro e V1 ⟨rfl, hc⟩
  replace hB := bnext hB hc
  clear hc
  go_wp2_with fail
  refine hK.out _ _ (HK.out _ hB) (fun hH => ?_)
  clear hK K
  refine wpAnyH_ready (rs := [4]) (by kernel_rfl) (by simp) ?_
  refine AllReadyH.cons (o := ⟨_, _, _, _, _, _⟩) rfl (fun K hK => ?_) AllReadyH.nil
  go_simp
  refine (H3.out _ hB).mono ?_
  rintro e V2 ⟨rfl, hc⟩
  replace hB := bnext hB hc
  clear hc
  go_wp2_with fail
  refine hK.out _ _ (HK.out _ hB) (fun hH => ?_)
  clear hK K
  refine wpAnyH_take (i := 5) (oi := ⟨_, _, _, _, _, _⟩) (v := ?_) rfl (by kernel_rfl) (by kernel_rfl) (by kernel_rfl) (fun _ _ _ h => h) (Or.inl ⟨by rfl, ?_⟩) hH ?_
  rotate_left
  · (intro w hSw; (try dsimp only at hSw); go_simp; try (with_reducible rfl))
  simp only [Act.put, List.setIfInBounds_toArray, List.set_cons_zero, List.set_cons_succ]
  refine wpAnyH_take (i := 6) (oi := ⟨_, _, _, _, _, _⟩) (v := ?_) rfl (by kernel_rfl) (by kernel_rfl) (by kernel_rfl) (fun _ _ _ h => h) (Or.inl ⟨by rfl, ?_⟩) hH ?_
  rotate_left
  · (intro w hSw; (try dsimp only at hSw); go_simp; try (with_reducible rfl))
  simp only [Act.put, List.setIfInBounds_toArray, List.set_cons_zero, List.set_cons_succ]
  refine wpAnyH_ready (rs := [7]) (by kernel_rfl) (by simp) ?_
  refine AllReadyH.cons (o := ⟨_, _, _, _, _, _⟩) rfl (fun K hK => ?_) AllReadyH.nil
  go_simp
  refine (H4.out _ hB).mono ?_
  rintro e V3 ⟨rfl, hc⟩
  replace hB := bnext hB hc
  clear hc
  go_wp2_with fail
  refine hK.out _ _ (HK.out _ hB) (fun hH => ?_)
  clear hK K
  refine wpAnyH_take (i := 8) (oi := ⟨_, _, _, _, _, _⟩) (v := ?_) rfl (by kernel_rfl) (by kernel_rfl) (by kernel_rfl) (fun _ _ _ h => h) (Or.inl ⟨by rfl, ?_⟩) hH ?_
  rotate_left
  · (intro w hSw; (try dsimp only at hSw); go_simp; try (with_reducible rfl))
  simp only [Act.put, List.setIfInBounds_toArray, List.set_cons_zero, List.set_cons_succ]
  refine wpAnyH_take (i := 9) (oi := ⟨_, _, _, _, _, _⟩) (v := ?_) rfl (by kernel_rfl) (by kernel_rfl) (by kernel_rfl) (fun _ _ _ h => h) (Or.inl ⟨by rfl, ?_⟩) hH ?_
  rotate_left
  · (intro w hSw; (try dsimp only at hSw); go_simp; try (with_reducible rfl))
  simp only [Act.put, List.setIfInBounds_toArray, List.set_cons_zero, List.set_cons_succ]
  refine wpAnyH_take (i := 10) (oi := ⟨_, _, _, _, _, _⟩) (v := ?_) rfl (by kernel_rfl) (by kernel_rfl) (by kernel_rfl) (fun _ _ _ h => h) (Or.inl ⟨by rfl, ?_⟩) hH ?_
  rotate_left
  · (intro w hSw; (try dsimp only at hSw); go_simp; try (with_reducible rfl))
  simp only [Act.put, List.setIfInBounds_toArray, List.set_cons_zero, List.set_cons_succ]
  refine wpAnyH_take (i := 11) (oi := ⟨_, _, _, _, _, _⟩) (v := ?_) rfl (by kernel_rfl) (by kernel_rfl) (by kernel_rfl) (fun _ _ _ h => h) (Or.inl ⟨by rfl, ?_⟩) hH ?_
  rotate_left
  · (intro w hSw; (try dsimp only at hSw); go_simp; try (with_reducible rfl))
  simp only [Act.put, List.setIfInBounds_toArray, List.set_cons_zero, List.set_cons_succ]
  refine wpAnyH_ready (rs := [12]) (by kernel_rfl) (by simp) ?_
  refine AllReadyH.cons (o := ⟨_, _, _, _, _, _⟩) rfl (fun K hK => ?_) AllReadyH.nil
  go_simp
  refine (H7.out _ hB).mono ?_
  rintro e V4 ⟨rfl, hc⟩
  replace hB := bnext hB hc
  clear hc
  go_wp2_with fail
  refine hK.out _ _ (HK.out _ hB) (fun hH => ?_)
  clear hK K
  refine wpAnyH_take (i := 13) (oi := ⟨_, _, _, _, _, _⟩) (v := ?_) rfl (by kernel_rfl) (by kernel_rfl) (by kernel_rfl) (fun _ _ _ h => h) (Or.inl ⟨by rfl, ?_⟩) hH ?_
  rotate_left
  · (intro w hSw; (try dsimp only at hSw); go_simp; try (with_reducible rfl))
  simp only [Act.put, List.setIfInBounds_toArray, List.set_cons_zero, List.set_cons_succ]
  refine wpAnyH_take (i := 14) (oi := ⟨_, _, _, _, _, _⟩) (v := ?_) rfl (by kernel_rfl) (by kernel_rfl) (by kernel_rfl) (fun _ _ _ h => h) (Or.inl ⟨by rfl, ?_⟩) hH ?_
  rotate_left
  · (intro w hSw; (try dsimp only at hSw); go_simp; try (with_reducible rfl))
  simp only [Act.put, List.setIfInBounds_toArray, List.set_cons_zero, List.set_cons_succ]
  refine wpAnyH_take (i := 15) (oi := ⟨_, _, _, _, _, _⟩) (v := ?_) rfl (by kernel_rfl) (by kernel_rfl) (by kernel_rfl) (fun _ _ _ h => h) (Or.inl ⟨by rfl, ?_⟩) hH ?_
  rotate_left
  · (intro w hSw; (try dsimp only at hSw); go_simp; try (with_reducible rfl))
  simp only [Act.put, List.setIfInBounds_toArray, List.set_cons_zero, List.set_cons_succ]
  refine wpAnyH_take (i := 16) (oi := ⟨_, _, _, _, _, _⟩) (v := ?_) rfl (by kernel_rfl) (by kernel_rfl) (by kernel_rfl) (fun _ _ _ h => h) (Or.inl ⟨by rfl, ?_⟩) hH ?_
  rotate_left
  · (intro w hSw; (try dsimp only at hSw); go_simp; try (with_reducible rfl))
  simp only [Act.put, List.setIfInBounds_toArray, List.set_cons_zero, List.set_cons_succ]
  refine wpAnyH_take (i := 17) (oi := ⟨_, _, _, _, _, _⟩) (v := ?_) rfl (by kernel_rfl) (by kernel_rfl) (by kernel_rfl) (fun _ _ _ h => h) (Or.inl ⟨by rfl, ?_⟩) hH ?_
  rotate_left
  · (intro w hSw; (try dsimp only at hSw); go_simp; try (with_reducible rfl))
  simp only [Act.put, List.setIfInBounds_toArray, List.set_cons_zero, List.set_cons_succ]
  refine wpAnyH_take (i := 19) (oi := ⟨_, _, _, _, _, _⟩) (v := ?_) rfl (by kernel_rfl) (by kernel_rfl) (by kernel_rfl) (fun _ _ _ h => h) (Or.inl ⟨by rfl, ?_⟩) hH ?_
  rotate_left
  · (intro w hSw; (try dsimp only at hSw); go_simp; try (with_reducible rfl))
  simp only [Act.put, List.setIfInBounds_toArray, List.set_cons_zero, List.set_cons_succ]
  refine wpAnyH_take (i := 20) (oi := ⟨_, _, _, _, _, _⟩) (v := ?_) rfl (by kernel_rfl) (by kernel_rfl) (by kernel_rfl) (fun _ _ _ h => h) (Or.inl ⟨by rfl, ?_⟩) hH ?_
  rotate_left
  · (intro w hSw; (try dsimp only at hSw); go_simp; try (with_reducible rfl))
  simp only [Act.put, List.setIfInBounds_toArray, List.set_cons_zero, List.set_cons_succ]
  refine wpAnyH_ready (rs := [18]) (by kernel_rfl) (by simp) ?_
  refine AllReadyH.cons (o := ⟨_, _, _, _, _, _⟩) rfl (fun K hK => ?_) AllReadyH.nil
  go_simp
  refine (H5.out _ hB).mono ?_
  rintro e V5 ⟨rfl, hc⟩
  replace hB := bnext hB hc
  clear hc
  go_wp2_with fail
  refine hK.out _ _ (HK.out _ hB) (fun hH => ?_)
  clear hK K
  refine wpAnyH_ready (rs := [21]) (by kernel_rfl) (by simp) ?_
  refine AllReadyH.cons (o := ⟨_, _, _, _, _, _⟩) rfl (fun K hK => ?_) AllReadyH.nil
  go_simp
  refine (H6.out _ hB).mono ?_
  rintro e V6 ⟨rfl, hc⟩
  replace hB := bnext hB hc
  clear hc
  go_wp2_with fail
  refine hK.out _ _ (HK.out _ hB) (fun hH => ?_)
  clear hK K
  refine wpAnyH_take (i := 22) (oi := ⟨_, _, _, _, _, _⟩) (v := ?_) rfl (by kernel_rfl) (by kernel_rfl) (by kernel_rfl) (fun _ _ _ h => h) (Or.inl ⟨by rfl, ?_⟩) hH ?_
  rotate_left
  · (intro w hSw; (try dsimp only at hSw); go_simp; try (with_reducible rfl))
  simp only [Act.put, List.setIfInBounds_toArray, List.set_cons_zero, List.set_cons_succ]
  refine wpAnyH_take (i := 23) (oi := ⟨_, _, _, _, _, _⟩) (v := ?_) rfl (by kernel_rfl) (by kernel_rfl) (by kernel_rfl) (fun _ _ _ h => h) (Or.inl ⟨by rfl, ?_⟩) hH ?_
  rotate_left
  · (intro w hSw; (try dsimp only at hSw); go_simp; try (with_reducible rfl))
  simp only [Act.put, List.setIfInBounds_toArray, List.set_cons_zero, List.set_cons_succ]
  refine wpAnyH_take (i := 24) (oi := ⟨_, _, _, _, _, _⟩) (v := ?_) rfl (by kernel_rfl) (by kernel_rfl) (by kernel_rfl) (fun _ _ _ h => h) (Or.inl ⟨by rfl, ?_⟩) hH ?_
  rotate_left
  · (intro w hSw; (try dsimp only at hSw); go_simp; try (with_reducible rfl))
  simp only [Act.put, List.setIfInBounds_toArray, List.set_cons_zero, List.set_cons_succ]
  refine wpAnyH_done (by kernel_rfl) ?_ _
  go_wp2_with fail
  go_ret
  exact ⟨rfl, HB0.out _ hB⟩

end Go.Proofs.YtekajoifgdpmlaaGreatDoor
