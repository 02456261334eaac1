/- The laws CertificateValid and CertificateEqual: their walks. (Printed by gen_k4.py.) -/
import Derived.Test.YtekajoifgdpmlaaGreatDoorZ21
namespace Go.Proofs.YtekajoifgdpmlaaGreatDoor
open Go.RowKit Pl Go.Shelf

set_option maxRecDepth 100000 in
set_option maxHeartbeats 8000000 in
theorem lcvalid_any (vs : List Value) (x : Ct) (w : World) (h : RC w vs x) (he : Ev w.heap.size w) : Calls Tryz.prog 4 #[.agg vs.toArray] w (Says true w) := by
  have hr := h
  obtain ⟨xA, xn, xc, xB, xm, xd, xC, xp, xq, xL, xln, xlc, rfl, -, -, -, -⟩ := h
  obtain ⟨lg, hlg⟩ : ∃ lg, lgC x = lg := ⟨_, rfl⟩
  obtain ⟨b, hv⟩ : ∃ b, ctV x = b := ⟨_, rfl⟩
  have HLm := Lib.hid (rc_limbs hr)
  have HA := Lib.hid (fun W (hb : Below w.heap.size w W) => cawake_any W (he.step hb))
  have H1 := Lib.hid (fun W (hb : Below w.heap.size w W) => large_any _ x W (lasts_RC w W _ _ hr hb))
  have H2 := Lib.hid (fun (hl : lg = false) W (hb : Below w.heap.size w W) => certValid_any _ x W (lasts_RC w W _ _ hr hb) (bd_C (hlg.trans hl)).1 (he.step hb).here.tabs)
  have H3 := Lib.hid (fun (hl : lg = false) W (hb : Below w.heap.size w W) => rcertValid_any _ x W (lasts_RC w W _ _ hr hb) (bd_C (hlg.trans hl)).1)
  have H4 := Lib.hid (fun (hl : lg = false) W (hb : Below w.heap.size w W) => certEqual_any _ _ x x W (lasts_RC w W _ _ hr hb) (lasts_RC w W _ _ hr hb) (bd_C (hlg.trans hl)).1 (bd_C (hlg.trans hl)).1 (he.step hb).here.tabs)
  rw [hlg] at H1
  rw [hv] at H2 H3
  rw [ctE_self HLm.out, hv] at H4
  obtain ⟨xpr, xod, xst, xls⟩ := x
  dsimp only at H1 H2 H3 H4
  clear hr HLm hlg hv he
  have hb0 := ballo w (.cells #[.int .i64 xpr, .int .i64 xod, .slice xA xn xc, .slice xB xm xd, .slice xC xp xq, .slice xL xln xlc] 42)
  have kx := Blk.new w 42 #[.int .i64 xpr, .int .i64 xod, .slice xA xn xc, .slice xB xm xd, .slice xC xp xq, .slice xL xln xlc]
  go_enter Tryz.func4, Tryz.ntmps4
  go_wp2_with fail
  generalize w.alloc (.cells #[.int .i64 xpr, .int .i64 xod, .slice xA xn xc, .slice xB xm xd, .slice xC xp xq, .slice xL xln xlc] 42) = W0 at *
  refine (HA.out _ hb0).mono ?_
  rintro e w1 ⟨rfl, hb1⟩
  replace kx := kx.next hb1
  replace hb0 := bnext hb0 hb1
  clear hb1
  obtain ⟨q0, q1, q2, q3, q4, q5⟩ := kx.cells6
  go_wp2_with fail
  refine (H1.out _ hb0).mono ?_
  rintro e w2 ⟨rfl, hb1⟩
  clear q0 q1 q2 q3 q4 q5
  replace kx := kx.next hb1
  replace hb0 := bnext hb0 hb1
  clear hb1 H1
  cases lg
  rotate_left
  · go_wp2_with fail
    refine (HA.out _ hb0).mono ?_
    rintro e w3 ⟨rfl, hb1⟩
    replace hb0 := bnext hb0 hb1
    go_wp2_with fail
    go_ret
    exact ⟨rfl, hb0⟩
  replace H2 := Lib.hid (H2.out (by simp))
  replace H3 := Lib.hid (H3.out (by simp))
  replace H4 := Lib.hid (H4.out (by simp))
  clear HA
  go_wp2_with fail
  clear W0
  generalize w2 = W0 at *
  have HK : Hid (∀ V, Below W0.heap.size W0 V → (fun V => (V.cell? ⟨w.heap.size, 0, none⟩ = some (.int .i64 xpr) ∧ V.cell? ⟨w.heap.size, 1, none⟩ = some (.int .i64 xod) ∧ V.cell? ⟨w.heap.size, 2, none⟩ = some (.slice xA xn xc) ∧ V.cell? ⟨w.heap.size, 3, none⟩ = some (.slice xB xm xd) ∧ V.cell? ⟨w.heap.size, 4, none⟩ = some (.slice xC xp xq) ∧ V.cell? ⟨w.heap.size, 5, none⟩ = some (.slice xL xln xlc)) ∧ Below W0.heap.size W0 V) V) := fun V hV => ⟨(kx.next hV).cells6, hV⟩
  have HB0 := Lib.hid (fun V (hV : Below W0.heap.size W0 V) => bnext hb0 hV)
  replace H2 := Lib.hid (fun V hV => H2.out V (HB0.out V hV))
  replace H3 := Lib.hid (fun V hV => H3.out V (HB0.out V hV))
  replace H4 := Lib.hid (fun V hV => H4.out V (HB0.out V hV))
  have hB := bdrew W0
  clear kx hb0
  cases b
  · refine wp_region_held_drew (S := (fun V => (V.cell? ⟨w.heap.size, 0, none⟩ = some (.int .i64 xpr) ∧ V.cell? ⟨w.heap.size, 1, none⟩ = some (.int .i64 xod) ∧ V.cell? ⟨w.heap.size, 2, none⟩ = some (.slice xA xn xc) ∧ V.cell? ⟨w.heap.size, 3, none⟩ = some (.slice xB xm xd) ∧ V.cell? ⟨w.heap.size, 4, none⟩ = some (.slice xC xp xq) ∧ V.cell? ⟨w.heap.size, 5, none⟩ = some (.slice xL xln xlc)) ∧ Below W0.heap.size W0 V)) (by kernel_rfl) (HK.out _ hB) (fun hH => ?_)
    refine wpAnyH_take (i := 0) (oi := ⟨_, _, _, _, _, _⟩) (v := ?_) rfl (by kernel_rfl) (by kernel_rfl) (by kernel_rfl) (fun _ _ _ h => h) (Or.inl ⟨by rfl, ?_⟩) hH ?_
    rotate_left
    · (intro w hSw; (try dsimp only at hSw); go_simp; try (with_reducible rfl))
    simp only [Act.put, List.setIfInBounds_toArray, List.set_cons_zero, List.set_cons_succ]
    refine wpAnyH_take (i := 2) (oi := ⟨_, _, _, _, _, _⟩) (v := ?_) rfl (by kernel_rfl) (by kernel_rfl) (by kernel_rfl) (fun _ _ _ h => h) (Or.inl ⟨by rfl, ?_⟩) hH ?_
    rotate_left
    · (intro w hSw; (try dsimp only at hSw); go_simp; try (with_reducible rfl))
    simp only [Act.put, List.setIfInBounds_toArray, List.set_cons_zero, List.set_cons_succ]
    refine wpAnyH_ready (rs := [1]) (by kernel_rfl) (by simp) ?_
    refine AllReadyH.cons (o := ⟨_, _, _, _, _, _⟩) rfl (fun K hK => ?_) AllReadyH.nil
    go_simp
    refine (H2.out _ hB).mono ?_
    rintro e V1 ⟨rfl, hc⟩
    replace hB := bnext hB hc
    clear hc
    go_wp2_with fail
    refine hK.out _ _ (HK.out _ hB) (fun hH => ?_)
    clear hK K
    refine wpAnyH_ready (rs := [3]) (by kernel_rfl) (by simp) ?_
    refine AllReadyH.cons (o := ⟨_, _, _, _, _, _⟩) rfl (fun K hK => ?_) AllReadyH.nil
    go_simp
    refine (H3.out _ hB).mono ?_
    rintro e V2 ⟨rfl, hc⟩
    replace hB := bnext hB hc
    clear hc
    go_wp2_with fail
    refine hK.out _ _ (HK.out _ hB) (fun hH => ?_)
    clear hK K
    refine wpAnyH_take (i := 4) (oi := ⟨_, _, _, _, _, _⟩) (v := ?_) rfl (by kernel_rfl) (by kernel_rfl) (by kernel_rfl) (fun _ _ _ h => h) (Or.inl ⟨by rfl, ?_⟩) hH ?_
    rotate_left
    · (intro w hSw; (try dsimp only at hSw); go_simp; try (with_reducible rfl))
    simp only [Act.put, List.setIfInBounds_toArray, List.set_cons_zero, List.set_cons_succ]
    refine wpAnyH_take (i := 5) (oi := ⟨_, _, _, _, _, _⟩) (v := ?_) rfl (by kernel_rfl) (by kernel_rfl) (by kernel_rfl) (fun _ _ _ h => h) (Or.inl ⟨by rfl, ?_⟩) hH ?_
    rotate_left
    · (intro w hSw; (try dsimp only at hSw); go_simp; try (with_reducible rfl))
    simp only [Act.put, List.setIfInBounds_toArray, List.set_cons_zero, List.set_cons_succ]
    refine wpAnyH_take (i := 6) (oi := ⟨_, _, _, _, _, _⟩) (v := ?_) rfl (by kernel_rfl) (by kernel_rfl) (by kernel_rfl) (fun _ _ _ h => h) (Or.inl ⟨by rfl, ?_⟩) hH ?_
    rotate_left
    · (intro w hSw; (try dsimp only at hSw); go_simp; try (with_reducible rfl))
    simp only [Act.put, List.setIfInBounds_toArray, List.set_cons_zero, List.set_cons_succ]
    refine wpAnyH_take (i := 7) (oi := ⟨_, _, _, _, _, _⟩) (v := ?_) rfl (by kernel_rfl) (by kernel_rfl) (by kernel_rfl) (fun _ _ _ h => h) (Or.inl ⟨by rfl, ?_⟩) hH ?_
    rotate_left
    · (intro w hSw; (try dsimp only at hSw); go_simp; try (with_reducible rfl))
    simp only [Act.put, List.setIfInBounds_toArray, List.set_cons_zero, List.set_cons_succ]
    refine wpAnyH_take (i := 9) (oi := ⟨_, _, _, _, _, _⟩) (v := ?_) rfl (by kernel_rfl) (by kernel_rfl) (by kernel_rfl) (fun _ _ _ h => h) (Or.inl ⟨by rfl, ?_⟩) hH ?_
    rotate_left
    · (intro w hSw; (try dsimp only at hSw); go_simp; try (with_reducible rfl))
    simp only [Act.put, List.setIfInBounds_toArray, List.set_cons_zero, List.set_cons_succ]
    refine wpAnyH_ready (rs := [8]) (by kernel_rfl) (by simp) ?_
    refine AllReadyH.cons (o := ⟨_, _, _, _, _, _⟩) rfl (fun K hK => ?_) AllReadyH.nil
    go_simp
    refine (H4.out _ hB).mono ?_
    rintro e V3 ⟨rfl, hc⟩
    replace hB := bnext hB hc
    clear hc
    go_wp2_with fail
    refine hK.out _ _ (HK.out _ hB) (fun hH => ?_)
    clear hK K
    refine wpAnyH_ready (rs := [10]) (by kernel_rfl) (by simp) ?_
    refine AllReadyH.cons (o := ⟨_, _, _, _, _, _⟩) rfl (fun K hK => ?_) AllReadyH.nil
    go_simp
    refine (H3.out _ hB).mono ?_
    rintro e V4 ⟨rfl, hc⟩
    replace hB := bnext hB hc
    clear hc
    go_wp2_with fail
    refine hK.out _ _ (HK.out _ hB) (fun hH => ?_)
    clear hK K
    refine wpAnyH_take (i := 11) (oi := ⟨_, _, _, _, _, _⟩) (v := ?_) rfl (by kernel_rfl) (by kernel_rfl) (by kernel_rfl) (fun _ _ _ h => h) (Or.inl ⟨by rfl, ?_⟩) hH ?_
    rotate_left
    · (intro w hSw; (try dsimp only at hSw); go_simp; try (with_reducible rfl))
    simp only [Act.put, List.setIfInBounds_toArray, List.set_cons_zero, List.set_cons_succ]
    refine wpAnyH_take (i := 12) (oi := ⟨_, _, _, _, _, _⟩) (v := ?_) rfl (by kernel_rfl) (by kernel_rfl) (by kernel_rfl) (fun _ _ _ h => h) (Or.inl ⟨by rfl, ?_⟩) hH ?_
    rotate_left
    · (intro w hSw; (try dsimp only at hSw); go_simp; try (with_reducible rfl))
    simp only [Act.put, List.setIfInBounds_toArray, List.set_cons_zero, List.set_cons_succ]
    refine wpAnyH_take (i := 13) (oi := ⟨_, _, _, _, _, _⟩) (v := ?_) rfl (by kernel_rfl) (by kernel_rfl) (by kernel_rfl) (fun _ _ _ h => h) (Or.inl ⟨by rfl, ?_⟩) hH ?_
    rotate_left
    · (intro w hSw; (try dsimp only at hSw); go_simp; try (with_reducible rfl))
    simp only [Act.put, List.setIfInBounds_toArray, List.set_cons_zero, List.set_cons_succ]
    refine wpAnyH_done (by kernel_rfl) ?_ _
    go_wp2_with fail
    go_ret
    exact ⟨rfl, HB0.out _ hB⟩
  · refine wp_region_held_drew (S := (fun V => (V.cell? ⟨w.heap.size, 0, none⟩ = some (.int .i64 xpr) ∧ V.cell? ⟨w.heap.size, 1, none⟩ = some (.int .i64 xod) ∧ V.cell? ⟨w.heap.size, 2, none⟩ = some (.slice xA xn xc) ∧ V.cell? ⟨w.heap.size, 3, none⟩ = some (.slice xB xm xd) ∧ V.cell? ⟨w.heap.size, 4, none⟩ = some (.slice xC xp xq) ∧ V.cell? ⟨w.heap.size, 5, none⟩ = some (.slice xL xln xlc)) ∧ Below W0.heap.size W0 V)) (by kernel_rfl) (HK.out _ hB) (fun hH => ?_)
    refine wpAnyH_take (i := 0) (oi := ⟨_, _, _, _, _, _⟩) (v := ?_) rfl (by kernel_rfl) (by kernel_rfl) (by kernel_rfl) (fun _ _ _ h => h) (Or.inl ⟨by rfl, ?_⟩) hH ?_
    rotate_left
    · (intro w hSw; (try dsimp only at hSw); go_simp; try (with_reducible rfl))
    simp only [Act.put, List.setIfInBounds_toArray, List.set_cons_zero, List.set_cons_succ]
    refine wpAnyH_take (i := 2) (oi := ⟨_, _, _, _, _, _⟩) (v := ?_) rfl (by kernel_rfl) (by kernel_rfl) (by kernel_rfl) (fun _ _ _ h => h) (Or.inl ⟨by rfl, ?_⟩) hH ?_
    rotate_left
    · (intro w hSw; (try dsimp only at hSw); go_simp; try (with_reducible rfl))
    simp only [Act.put, List.setIfInBounds_toArray, List.set_cons_zero, List.set_cons_succ]
    refine wpAnyH_ready (rs := [1]) (by kernel_rfl) (by simp) ?_
    refine AllReadyH.cons (o := ⟨_, _, _, _, _, _⟩) rfl (fun K hK => ?_) AllReadyH.nil
    go_simp
    refine (H2.out _ hB).mono ?_
    rintro e V1 ⟨rfl, hc⟩
    replace hB := bnext hB hc
    clear hc
    go_wp2_with fail
    refine hK.out _ _ (HK.out _ hB) (fun hH => ?_)
    clear hK K
    refine wpAnyH_ready (rs := [3]) (by kernel_rfl) (by simp) ?_
    refine AllReadyH.cons (o := ⟨_, _, _, _, _, _⟩) rfl (fun K hK => ?_) AllReadyH.nil
    go_simp
    refine (H3.out _ hB).mono ?_
    rintro e V2 ⟨rfl, hc⟩
    replace hB := bnext hB hc
    clear hc
    go_wp2_with fail
    refine hK.out _ _ (HK.out _ hB) (fun hH => ?_)
    clear hK K
    refine wpAnyH_take (i := 4) (oi := ⟨_, _, _, _, _, _⟩) (v := ?_) rfl (by kernel_rfl) (by kernel_rfl) (by kernel_rfl) (fun _ _ _ h => h) (Or.inl ⟨by rfl, ?_⟩) hH ?_
    rotate_left
    · (intro w hSw; (try dsimp only at hSw); go_simp; try (with_reducible rfl))
    simp only [Act.put, List.setIfInBounds_toArray, List.set_cons_zero, List.set_cons_succ]
    refine wpAnyH_take (i := 5) (oi := ⟨_, _, _, _, _, _⟩) (v := ?_) rfl (by kernel_rfl) (by kernel_rfl) (by kernel_rfl) (fun _ _ _ h => h) (Or.inl ⟨by rfl, ?_⟩) hH ?_
    rotate_left
    · (intro w hSw; (try dsimp only at hSw); go_simp; try (with_reducible rfl))
    simp only [Act.put, List.setIfInBounds_toArray, List.set_cons_zero, List.set_cons_succ]
    refine wpAnyH_take (i := 6) (oi := ⟨_, _, _, _, _, _⟩) (v := ?_) rfl (by kernel_rfl) (by kernel_rfl) (by kernel_rfl) (fun _ _ _ h => h) (Or.inl ⟨by rfl, ?_⟩) hH ?_
    rotate_left
    · (intro w hSw; (try dsimp only at hSw); go_simp; try (with_reducible rfl))
    simp only [Act.put, List.setIfInBounds_toArray, List.set_cons_zero, List.set_cons_succ]
    refine wpAnyH_take (i := 7) (oi := ⟨_, _, _, _, _, _⟩) (v := ?_) rfl (by kernel_rfl) (by kernel_rfl) (by kernel_rfl) (fun _ _ _ h => h) (Or.inl ⟨by rfl, ?_⟩) hH ?_
    rotate_left
    · (intro w hSw; (try dsimp only at hSw); go_simp; try (with_reducible rfl))
    simp only [Act.put, List.setIfInBounds_toArray, List.set_cons_zero, List.set_cons_succ]
    refine wpAnyH_take (i := 9) (oi := ⟨_, _, _, _, _, _⟩) (v := ?_) rfl (by kernel_rfl) (by kernel_rfl) (by kernel_rfl) (fun _ _ _ h => h) (Or.inl ⟨by rfl, ?_⟩) hH ?_
    rotate_left
    · (intro w hSw; (try dsimp only at hSw); go_simp; try (with_reducible rfl))
    simp only [Act.put, List.setIfInBounds_toArray, List.set_cons_zero, List.set_cons_succ]
    refine wpAnyH_ready (rs := [8]) (by kernel_rfl) (by simp) ?_
    refine AllReadyH.cons (o := ⟨_, _, _, _, _, _⟩) rfl (fun K hK => ?_) AllReadyH.nil
    go_simp
    refine (H4.out _ hB).mono ?_
    rintro e V3 ⟨rfl, hc⟩
    replace hB := bnext hB hc
    clear hc
    go_wp2_with fail
    refine hK.out _ _ (HK.out _ hB) (fun hH => ?_)
    clear hK K
    refine wpAnyH_ready (rs := [10]) (by kernel_rfl) (by simp) ?_
    refine AllReadyH.cons (o := ⟨_, _, _, _, _, _⟩) rfl (fun K hK => ?_) AllReadyH.nil
    go_simp
    refine (H3.out _ hB).mono ?_
    rintro e V4 ⟨rfl, hc⟩
    replace hB := bnext hB hc
    clear hc
    go_wp2_with fail
    refine hK.out _ _ (HK.out _ hB) (fun hH => ?_)
    clear hK K
    refine wpAnyH_take (i := 11) (oi := ⟨_, _, _, _, _, _⟩) (v := ?_) rfl (by kernel_rfl) (by kernel_rfl) (by kernel_rfl) (fun _ _ _ h => h) (Or.inl ⟨by rfl, ?_⟩) hH ?_
    rotate_left
    · (intro w hSw; (try dsimp only at hSw); go_simp; try (with_reducible rfl))
    simp only [Act.put, List.setIfInBounds_toArray, List.set_cons_zero, List.set_cons_succ]
    refine wpAnyH_take (i := 12) (oi := ⟨_, _, _, _, _, _⟩) (v := ?_) rfl (by kernel_rfl) (by kernel_rfl) (by kernel_rfl) (fun _ _ _ h => h) (Or.inl ⟨by rfl, ?_⟩) hH ?_
    rotate_left
    · (intro w hSw; (try dsimp only at hSw); go_simp; try (with_reducible rfl))
    simp only [Act.put, List.setIfInBounds_toArray, List.set_cons_zero, List.set_cons_succ]
    refine wpAnyH_take (i := 13) (oi := ⟨_, _, _, _, _, _⟩) (v := ?_) rfl (by kernel_rfl) (by kernel_rfl) (by kernel_rfl) (fun _ _ _ h => h) (Or.inl ⟨by rfl, ?_⟩) hH ?_
    rotate_left
    · (intro w hSw; (try dsimp only at hSw); go_simp; try (with_reducible rfl))
    simp only [Act.put, List.setIfInBounds_toArray, List.set_cons_zero, List.set_cons_succ]
    refine wpAnyH_done (by kernel_rfl) ?_ _
    go_wp2_with fail
    go_ret
    exact ⟨rfl, HB0.out _ hB⟩

end Go.Proofs.YtekajoifgdpmlaaGreatDoor
