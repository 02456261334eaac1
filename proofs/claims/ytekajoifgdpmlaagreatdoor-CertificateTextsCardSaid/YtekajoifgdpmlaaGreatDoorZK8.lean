/- The reference's Text of a certificate, and the law CertificateTexts: their walks. (Printed by gen_k8.py.) -/
import Derived.Test.YtekajoifgdpmlaaGreatDoorZ1
import Derived.Test.YtekajoifgdpmlaaGreatDoorZ2
import Derived.Test.YtekajoifgdpmlaaGreatDoorZ3
import Derived.Test.YtekajoifgdpmlaaGreatDoorZ4
import Derived.Test.YtekajoifgdpmlaaGreatDoorZ5
import Derived.Test.YtekajoifgdpmlaaGreatDoorZ6
import Derived.Test.YtekajoifgdpmlaaGreatDoorZ7
import Derived.Test.YtekajoifgdpmlaaGreatDoorZ8
import Derived.Test.YtekajoifgdpmlaaGreatDoorZ9
import Derived.Test.YtekajoifgdpmlaaGreatDoorZ10
import Derived.Test.YtekajoifgdpmlaaGreatDoorZ11
import Derived.Test.YtekajoifgdpmlaaGreatDoorZ12
import Derived.Test.YtekajoifgdpmlaaGreatDoorZ13
import Derived.Test.YtekajoifgdpmlaaGreatDoorZ14
import Derived.Test.YtekajoifgdpmlaaGreatDoorZ15
import Derived.Test.YtekajoifgdpmlaaGreatDoorZ16
import Derived.Test.YtekajoifgdpmlaaGreatDoorZ17
import Derived.Test.YtekajoifgdpmlaaGreatDoorZ18
import Derived.Test.YtekajoifgdpmlaaGreatDoorZ19
import Derived.Test.YtekajoifgdpmlaaGreatDoorZ20
import Derived.Test.YtekajoifgdpmlaaGreatDoorZ21
import Derived.Test.YtekajoifgdpmlaaGreatDoorZ22
import Derived.Test.YtekajoifgdpmlaaGreatDoorZK7
namespace Go.Proofs.YtekajoifgdpmlaaGreatDoor
open Go.RowKit Pl Go.Shelf
open Go.Lib (decDigits itoa)

theorem len_step {k u : Nat} (h : u ≤ 371260 + 301260 * k + 130000) : u ≤ 200000 + 301260 * (k + 1) :=
  Nat.le_trans h (Nat.le_of_eq (by rw [Nat.mul_succ, Nat.add_comm 371260, Nat.add_assoc, ← Nat.add_assoc 200000, Nat.add_comm 200000, Nat.add_assoc]))

set_option maxRecDepth 100000 in
set_option maxHeartbeats 4000000 in
theorem xtext_any (vs : List Value) (x : Ct) (w : World) (h : RC w vs x) (hv : ctV x = true) : Calls Tryz.prog 20 #[.agg vs.toArray] w (Tells (textC x) w) := by
  obtain ⟨w1, w2, w3, w4, w5, w6, w7, hN1, hN4, hLk⟩ := ctV_parts hv
  obtain ⟨xA, xn, xc, xB, xm, xd, xC, xp, xq, xL, xln, xlc, rfl, h1, h2, h3, h4⟩ := h
  obtain ⟨xpr, xod, xst, xls⟩ := x
  dsimp only at h1 h2 h3 h4 w1 w2 w3 w4 w5 w6 w7 hN1 hN4 hLk ⊢
  have m1 := h4.cap
  have m2 := h4.max
  have m3 := h1.cap
  have m4 := h1.max
  have HLn := Lib.hid h4.len
  have en := h1.len
  have hln : xln ≤ 1000 := by rw [← h4.len]; exact hLk
  have hxn : xn ≤ 4 := by rw [← h1.len]; exact hN4
  have HV := Lib.hid w3
  have HX := Lib.hid (fun W (hb : Below w.heap.size w W) => h4.next lasts_RL hb)
  have I1 := Lib.hid (fun (W : World) (hb : Below w.heap.size w W) => xinteger_any xpr W (by omega) (by omega))
  have I2 := Lib.hid (fun (W : World) (hb : Below w.heap.size w W) => xinteger_any xod W (by omega) (by omega))
  have I3 := Lib.hid (fun (W : World) (hb : Below w.heap.size w W) => xinteger_any (xn : Int) W (by omega) (by omega))
  have I4 := Lib.hid (fun (W : World) (hb : Below w.heap.size w W) => xinteger_any (xln : Int) W (by omega) (by omega))
  have I5 := Lib.hid (fun (W : World) (hb : Below w.heap.size w W) => xlines_any _ xst W (lasts_RF _ _ _ _ ⟨xA, xn, xc, xB, xm, xd, xC, xp, xq, rfl, h1, h2, h3⟩ hb) w1)
  have j1 := itoa_len (x := xpr) (by omega) (by omega)
  have j2 := itoa_len (x := xod) (by omega) (by omega)
  have j3 := itoa_len (x := (xn : Int)) (by omega) (by omega)
  have j4 := itoa_len (x := (xln : Int)) (by omega) (by omega)
  have j5 := setT_len w1
  have HZ0 : Hid (headT ⟨xpr, xod, xst, xls⟩ ++ setT xst = [99, 101, 114, 116, 105, 102, 105, 99, 97, 116, 101, 32] ++ itoa xpr ++ [32] ++ itoa xod ++ [32] ++ itoa (xn : Int) ++ [32] ++ itoa (xln : Int) ++ [10] ++ setT xst) := by
    unfold Hid headT headN intsT
    dsimp only
    rw [h4.len, h1.len]
    simp [certW]
  clear w1 w2 w3 h1 h2 h3 h4 hv
  generalize itoa xpr = i1 at *
  generalize itoa xod = i2 at *
  generalize itoa (xn : Int) = i3 at *
  generalize itoa (xln : Int) = i4 at *
  obtain ⟨sl, HZS⟩ : ∃ s, Hid (setT xst = s) := ⟨_, rfl⟩
  rw [HZS.out] at I5 j5
  obtain ⟨z1, Ez1, cz1, yz1, nz1⟩ := cat_ex [99, 101, 114, 116, 105, 102, 105, 99, 97, 116, 101, 32] i1 12 6 (by simp) (by omega) (by omega)
  simp only [List.length_cons, List.length_nil, Nat.zero_add, Nat.reduceAdd] at yz1
  obtain ⟨z2, Ez2, cz2, yz2, nz2⟩ := cat_ex z1 [32] 18 1 (by omega) (by simp) (by omega)
  simp only [List.length_cons, List.length_nil, Nat.zero_add] at yz2
  obtain ⟨z3, Ez3, cz3, yz3, nz3⟩ := cat_ex z2 i2 19 6 (by omega) (by omega) (by omega)
  obtain ⟨z4, Ez4, cz4, yz4, nz4⟩ := cat_ex z3 [32] 25 1 (by omega) (by simp) (by omega)
  simp only [List.length_cons, List.length_nil, Nat.zero_add] at yz4
  obtain ⟨z5, Ez5, cz5, yz5, nz5⟩ := cat_ex z4 i3 26 6 (by omega) (by omega) (by omega)
  obtain ⟨z6, Ez6, cz6, yz6, nz6⟩ := cat_ex z5 [32] 32 1 (by omega) (by simp) (by omega)
  simp only [List.length_cons, List.length_nil, Nat.zero_add] at yz6
  obtain ⟨z7, Ez7, cz7, yz7, nz7⟩ := cat_ex z6 i4 33 6 (by omega) (by omega) (by omega)
  obtain ⟨z8, Ez8, cz8, yz8, nz8⟩ := cat_ex z7 [10] 39 1 (by omega) (by simp) (by omega)
  simp only [List.length_cons, List.length_nil, Nat.zero_add] at yz8
  obtain ⟨z9, Ez9, cz9, yz9, nz9⟩ := cat_ex z8 sl 40 140000 (by omega) (by omega) (by omega)
  have HZ : Hid (z9 = headT ⟨xpr, xod, xst, xls⟩ ++ setT xst) := by
    unfold Hid
    rw [HZ0.out, HZS.out, Ez9.out, Ez8.out, Ez7.out, Ez6.out, Ez5.out, Ez4.out, Ez3.out, Ez2.out, Ez1.out]
  clear HZ0 HZS Ez1 Ez2 Ez3 Ez4 Ez5 Ez6 Ez7 Ez8 Ez9
  have hb0 := ballo w (.cells #[.int .i64 xpr, .int .i64 xod, .slice xA xn xc, .slice xB xm xd, .slice xC xp xq, .slice xL xln xlc] 42)
  have kx := Blk.new w 42 #[.int .i64 xpr, .int .i64 xod, .slice xA xn xc, .slice xB xm xd, .slice xC xp xq, .slice xL xln xlc]
  go_enter Tryz.func20, Tryz.ntmps20
  go_wp2_with fail
  generalize w.alloc (.cells #[.int .i64 xpr, .int .i64 xod, .slice xA xn xc, .slice xB xm xd, .slice xC xp xq, .slice xL xln xlc] 42) = W0 at *
  have HK : Hid (∀ V, Below W0.heap.size W0 V → (fun V => (V.cell? ⟨w.heap.size, 0, none⟩ = some (.int .i64 xpr) ∧ V.cell? ⟨w.heap.size, 1, none⟩ = some (.int .i64 xod) ∧ V.cell? ⟨w.heap.size, 2, none⟩ = some (.slice xA xn xc) ∧ V.cell? ⟨w.heap.size, 3, none⟩ = some (.slice xB xm xd) ∧ V.cell? ⟨w.heap.size, 4, none⟩ = some (.slice xC xp xq) ∧ V.cell? ⟨w.heap.size, 5, none⟩ = some (.slice xL xln xlc)) ∧ Below W0.heap.size W0 V) V) := fun V hV => ⟨(kx.next hV).cells6, hV⟩
  replace I1 := Lib.hid (fun V (hV : Below W0.heap.size W0 V) => I1.out V (bnext hb0 hV))
  replace I2 := Lib.hid (fun V (hV : Below W0.heap.size W0 V) => I2.out V (bnext hb0 hV))
  replace I3 := Lib.hid (fun V (hV : Below W0.heap.size W0 V) => I3.out V (bnext hb0 hV))
  replace I4 := Lib.hid (fun V (hV : Below W0.heap.size W0 V) => I4.out V (bnext hb0 hV))
  replace I5 := Lib.hid (fun V (hV : Below W0.heap.size W0 V) => I5.out V (bnext hb0 hV))
  replace HX := Lib.hid (fun V (hV : Below W0.heap.size W0 V) => HX.out V (bnext hb0 hV))
  have hB := bdrew W0
  refine wp_region_held_drew (S := (fun V => (V.cell? ⟨w.heap.size, 0, none⟩ = some (.int .i64 xpr) ∧ V.cell? ⟨w.heap.size, 1, none⟩ = some (.int .i64 xod) ∧ V.cell? ⟨w.heap.size, 2, none⟩ = some (.slice xA xn xc) ∧ V.cell? ⟨w.heap.size, 3, none⟩ = some (.slice xB xm xd) ∧ V.cell? ⟨w.heap.size, 4, none⟩ = some (.slice xC xp xq) ∧ V.cell? ⟨w.heap.size, 5, none⟩ = some (.slice xL xln xlc)) ∧ Below W0.heap.size W0 V)) (by kernel_rfl) (HK.out _ hB) (fun hH => ?_)
  refine wpAnyH_take (i := 0) (oi := ⟨_, _, _, _, _, _⟩) (v := ?_) rfl (by kernel_rfl) (by kernel_rfl) (by kernel_rfl) (fun _ _ _ h => h) (Or.inl ⟨by rfl, ?_⟩) hH ?_
  rotate_left
  · (intro w hSw; (try dsimp only at hSw); go_simp; try (with_reducible rfl))
  simp only [Act.put, List.setIfInBounds_toArray, List.set_cons_zero, List.set_cons_succ]
  refine wpAnyH_take (i := 1) (oi := ⟨_, _, _, _, _, _⟩) (v := ?_) rfl (by kernel_rfl) (by kernel_rfl) (by kernel_rfl) (fun _ _ _ h => h) (Or.inl ⟨by rfl, ?_⟩) hH ?_
  rotate_left
  · (intro w hSw; (try dsimp only at hSw); go_simp; try (with_reducible rfl))
  simp only [Act.put, List.setIfInBounds_toArray, List.set_cons_zero, List.set_cons_succ]
  refine wpAnyH_take (i := 5) (oi := ⟨_, _, _, _, _, _⟩) (v := ?_) rfl (by kernel_rfl) (by kernel_rfl) (by kernel_rfl) (fun _ _ _ h => h) (Or.inl ⟨by rfl, ?_⟩) hH ?_
  rotate_left
  · (intro w hSw; (try dsimp only at hSw); go_simp; try (with_reducible rfl))
  simp only [Act.put, List.setIfInBounds_toArray, List.set_cons_zero, List.set_cons_succ]
  refine wpAnyH_take (i := 6) (oi := ⟨_, _, _, _, _, _⟩) (v := ?_) rfl (by kernel_rfl) (by kernel_rfl) (by kernel_rfl) (fun _ _ _ h => h) (Or.inl ⟨by rfl, ?_⟩) hH ?_
  rotate_left
  · (intro w hSw; (try dsimp only at hSw); go_simp; try (with_reducible rfl))
  simp only [Act.put, List.setIfInBounds_toArray, List.set_cons_zero, List.set_cons_succ]
  refine wpAnyH_take (i := 10) (oi := ⟨_, _, _, _, _, _⟩) (v := ?_) rfl (by kernel_rfl) (by kernel_rfl) (by kernel_rfl) (fun _ _ _ h => h) (Or.inl ⟨by rfl, ?_⟩) hH ?_
  rotate_left
  · (intro w hSw; (try dsimp only at hSw); go_simp; try (with_reducible rfl))
  simp only [Act.put, List.setIfInBounds_toArray, List.set_cons_zero, List.set_cons_succ]
  refine wpAnyH_take (i := 11) (oi := ⟨_, _, _, _, _, _⟩) (v := ?_) rfl (by kernel_rfl) (by kernel_rfl) (by kernel_rfl) (fun _ _ _ h => h) (Or.inl ⟨by rfl, ?_⟩) hH ?_
  rotate_left
  · (intro w hSw; (try dsimp only at hSw); go_simp; try (with_reducible rfl))
  simp only [Act.put, List.setIfInBounds_toArray, List.set_cons_zero, List.set_cons_succ]
  refine wpAnyH_take (i := 12) (oi := ⟨_, _, _, _, _, _⟩) (v := ?_) rfl (by kernel_rfl) (by kernel_rfl) (by kernel_rfl) (fun _ _ _ h => h) (Or.inl ⟨by rfl, ?_⟩) hH ?_
  rotate_left
  · (intro w hSw; (try dsimp only at hSw); go_simp; try (with_reducible rfl))
  simp only [Act.put, List.setIfInBounds_toArray, List.set_cons_zero, List.set_cons_succ]
  refine wpAnyH_take (i := 13) (oi := ⟨_, _, _, _, _, _⟩) (v := ?_) rfl (by kernel_rfl) (by kernel_rfl) (by kernel_rfl) (fun _ _ _ h => h) (Or.inl ⟨by rfl, ?_⟩) hH ?_
  rotate_left
  · (intro w hSw; (try dsimp only at hSw); go_simp; try (with_reducible rfl))
  simp only [Act.put, List.setIfInBounds_toArray, List.set_cons_zero, List.set_cons_succ]
  refine wpAnyH_take (i := 17) (oi := ⟨_, _, _, _, _, _⟩) (v := ?_) rfl (by kernel_rfl) (by kernel_rfl) (by kernel_rfl) (fun _ _ _ h => h) (Or.inl ⟨by rfl, ?_⟩) hH ?_
  rotate_left
  · (intro w hSw; (try dsimp only at hSw); go_simp; try (with_reducible rfl))
  simp only [Act.put, List.setIfInBounds_toArray, List.set_cons_zero, List.set_cons_succ]
  refine wpAnyH_take (i := 18) (oi := ⟨_, _, _, _, _, _⟩) (v := ?_) rfl (by kernel_rfl) (by kernel_rfl) (by kernel_rfl) (fun _ _ _ h => h) (Or.inl ⟨by rfl, ?_⟩) hH ?_
  rotate_left
  · (intro w hSw; (try dsimp only at hSw); go_simp; try (with_reducible rfl))
  simp only [Act.put, List.setIfInBounds_toArray, List.set_cons_zero, List.set_cons_succ]
  refine wpAnyH_take (i := 19) (oi := ⟨_, _, _, _, _, _⟩) (v := ?_) rfl (by kernel_rfl) (by kernel_rfl) (by kernel_rfl) (fun _ _ _ h => h) (Or.inl ⟨by rfl, ?_⟩) hH ?_
  rotate_left
  · (intro w hSw; (try dsimp only at hSw); go_simp; try (with_reducible rfl))
  simp only [Act.put, List.setIfInBounds_toArray, List.set_cons_zero, List.set_cons_succ]
  refine wpAnyH_take (i := 23) (oi := ⟨_, _, _, _, _, _⟩) (v := ?_) rfl (by kernel_rfl) (by kernel_rfl) (by kernel_rfl) (fun _ _ _ h => h) (Or.inl ⟨by rfl, ?_⟩) hH ?_
  rotate_left
  · (intro w hSw; (try dsimp only at hSw); go_simp; try (with_reducible rfl))
  simp only [Act.put, List.setIfInBounds_toArray, List.set_cons_zero, List.set_cons_succ]
  refine wpAnyH_take (i := 24) (oi := ⟨_, _, _, _, _, _⟩) (v := ?_) rfl (by kernel_rfl) (by kernel_rfl) (by kernel_rfl) (fun _ _ _ h => h) (Or.inl ⟨by rfl, ?_⟩) hH ?_
  rotate_left
  · (intro w hSw; (try dsimp only at hSw); go_simp; try (with_reducible rfl))
  simp only [Act.put, List.setIfInBounds_toArray, List.set_cons_zero, List.set_cons_succ]
  refine wpAnyH_ready (rs := [2]) (by kernel_rfl) (by simp) ?_
  refine AllReadyH.cons (o := ⟨_, _, _, _, _, _⟩) rfl (fun K hK => ?_) AllReadyH.nil
  go_simp
  refine (I1.out _ hB).mono ?_
  rintro e V1 ⟨rfl, hc⟩
  replace hB := bnext hB hc
  clear hc
  go_wp2_with fail
  refine hK.out _ _ (HK.out _ hB) (fun hH => ?_)
  clear hK K
  refine wpAnyH_take (i := 3) (oi := ⟨_, _, _, _, _, _⟩) (v := ?_) rfl (by kernel_rfl) (by kernel_rfl) (by kernel_rfl) (fun _ _ _ h => h) (Or.inl ⟨by rfl, ?_⟩) hH ?_
  rotate_left
  · (intro w hSw; (try dsimp only at hSw); go_simp; try (with_reducible rfl))
  simp only [Act.put, List.setIfInBounds_toArray, List.set_cons_zero, List.set_cons_succ]
  refine wpAnyH_take (i := 4) (oi := ⟨_, _, _, _, _, _⟩) (v := ?_) rfl (by kernel_rfl) (by kernel_rfl) (by kernel_rfl) (fun _ _ _ h => h) (Or.inl ⟨by rfl, ?_⟩) hH ?_
  rotate_left
  · (intro w hSw; (try dsimp only at hSw); go_simp; try (with_reducible rfl))
  simp only [Act.put, List.setIfInBounds_toArray, List.set_cons_zero, List.set_cons_succ]
  refine wpAnyH_ready (rs := [7]) (by kernel_rfl) (by simp) ?_
  refine AllReadyH.cons (o := ⟨_, _, _, _, _, _⟩) rfl (fun K hK => ?_) AllReadyH.nil
  go_simp
  refine (I2.out _ hB).mono ?_
  rintro e V2 ⟨rfl, hc⟩
  replace hB := bnext hB hc
  clear hc
  go_wp2_with fail
  refine hK.out _ _ (HK.out _ hB) (fun hH => ?_)
  clear hK K
  refine wpAnyH_take (i := 8) (oi := ⟨_, _, _, _, _, _⟩) (v := ?_) rfl (by kernel_rfl) (by kernel_rfl) (by kernel_rfl) (fun _ _ _ h => h) (Or.inl ⟨by rfl, ?_⟩) hH ?_
  rotate_left
  · (intro w hSw; (try dsimp only at hSw); go_simp; try (with_reducible rfl))
  simp only [Act.put, List.setIfInBounds_toArray, List.set_cons_zero, List.set_cons_succ]
  refine wpAnyH_take (i := 9) (oi := ⟨_, _, _, _, _, _⟩) (v := ?_) rfl (by kernel_rfl) (by kernel_rfl) (by kernel_rfl) (fun _ _ _ h => h) (Or.inl ⟨by rfl, ?_⟩) hH ?_
  rotate_left
  · (intro w hSw; (try dsimp only at hSw); go_simp; try (with_reducible rfl))
  simp only [Act.put, List.setIfInBounds_toArray, List.set_cons_zero, List.set_cons_succ]
  refine wpAnyH_ready (rs := [14]) (by kernel_rfl) (by simp) ?_
  refine AllReadyH.cons (o := ⟨_, _, _, _, _, _⟩) rfl (fun K hK => ?_) AllReadyH.nil
  go_simp
  refine (I3.out _ hB).mono ?_
  rintro e V3 ⟨rfl, hc⟩
  replace hB := bnext hB hc
  clear hc
  go_wp2_with fail
  refine hK.out _ _ (HK.out _ hB) (fun hH => ?_)
  clear hK K
  refine wpAnyH_take (i := 15) (oi := ⟨_, _, _, _, _, _⟩) (v := ?_) rfl (by kernel_rfl) (by kernel_rfl) (by kernel_rfl) (fun _ _ _ h => h) (Or.inl ⟨by rfl, ?_⟩) hH ?_
  rotate_left
  · (intro w hSw; (try dsimp only at hSw); go_simp; try (with_reducible rfl))
  simp only [Act.put, List.setIfInBounds_toArray, List.set_cons_zero, List.set_cons_succ]
  refine wpAnyH_take (i := 16) (oi := ⟨_, _, _, _, _, _⟩) (v := ?_) rfl (by kernel_rfl) (by kernel_rfl) (by kernel_rfl) (fun _ _ _ h => h) (Or.inl ⟨by rfl, ?_⟩) hH ?_
  rotate_left
  · (intro w hSw; (try dsimp only at hSw); go_simp; try (with_reducible rfl))
  simp only [Act.put, List.setIfInBounds_toArray, List.set_cons_zero, List.set_cons_succ]
  refine wpAnyH_ready (rs := [20]) (by kernel_rfl) (by simp) ?_
  refine AllReadyH.cons (o := ⟨_, _, _, _, _, _⟩) rfl (fun K hK => ?_) AllReadyH.nil
  go_simp
  refine (I4.out _ hB).mono ?_
  rintro e V4 ⟨rfl, hc⟩
  replace hB := bnext hB hc
  clear hc
  go_wp2_with fail
  refine hK.out _ _ (HK.out _ hB) (fun hH => ?_)
  clear hK K
  refine wpAnyH_take (i := 21) (oi := ⟨_, _, _, _, _, _⟩) (v := ?_) rfl (by kernel_rfl) (by kernel_rfl) (by kernel_rfl) (fun _ _ _ h => h) (Or.inl ⟨by rfl, ?_⟩) hH ?_
  rotate_left
  · (intro w hSw; (try dsimp only at hSw); go_simp; try (with_reducible rfl))
  simp only [Act.put, List.setIfInBounds_toArray, List.set_cons_zero, List.set_cons_succ]
  refine wpAnyH_take (i := 22) (oi := ⟨_, _, _, _, _, _⟩) (v := ?_) rfl (by kernel_rfl) (by kernel_rfl) (by kernel_rfl) (fun _ _ _ h => h) (Or.inl ⟨by rfl, ?_⟩) hH ?_
  rotate_left
  · (intro w hSw; (try dsimp only at hSw); go_simp; try (with_reducible rfl))
  simp only [Act.put, List.setIfInBounds_toArray, List.set_cons_zero, List.set_cons_succ]
  refine wpAnyH_ready (rs := [25]) (by kernel_rfl) (by simp) ?_
  refine AllReadyH.cons (o := ⟨_, _, _, _, _, _⟩) rfl (fun K hK => ?_) AllReadyH.nil
  go_simp
  refine (I5.out _ hB).mono ?_
  rintro e V5 ⟨rfl, hc⟩
  replace hB := bnext hB hc
  clear hc
  go_wp2_with fail
  refine hK.out _ _ (HK.out _ hB) (fun hH => ?_)
  clear hK K
  refine wpAnyH_take (i := 26) (oi := ⟨_, _, _, _, _, _⟩) (v := ?_) rfl (by kernel_rfl) (by kernel_rfl) (by kernel_rfl) (fun _ _ _ h => h) (Or.inl ⟨by rfl, ?_⟩) hH ?_
  rotate_left
  · (intro w hSw; (try dsimp only at hSw); go_simp; try (with_reducible rfl))
  simp only [Act.put, List.setIfInBounds_toArray, List.set_cons_zero, List.set_cons_succ]
  refine wpAnyH_take (i := 27) (oi := ⟨_, _, _, _, _, _⟩) (v := ?_) rfl (by kernel_rfl) (by kernel_rfl) (by kernel_rfl) (fun _ _ _ h => h) (Or.inl ⟨by rfl, ?_⟩) hH ?_
  rotate_left
  · (intro w hSw; (try dsimp only at hSw); go_simp; try (with_reducible rfl))
  simp only [Act.put, List.setIfInBounds_toArray, List.set_cons_zero, List.set_cons_succ]
  refine wpAnyH_done (by kernel_rfl) ?_ _
  clear hH HK I1 I2 I3 I4 I5
  replace kx := kx.next hB
  replace hb0 := bnext hb0 hB
  replace HX := Lib.hid (fun V (hV : Below V5.heap.size V5 V) => HX.out V (bnext hB hV))
  clear hB
  go_wp2_with fail
  generalize V5 = W9 at *
  go_loopw [3, 4] (fun v u wr => ∃ (k : Nat) (L : List UInt8), k ≤ xln ∧ v = .string ⟨L.toArray⟩ ∧ u = .int .i64 k ∧ Hid (L = z9 ++ linksT (xls.take k)) ∧ Below W9.heap.size W9 wr ∧ L.length ≤ 200000 + 301260 * k) (fun _ u _ => xln - (intOf u).toNat)
  case atStart => exact ⟨0, z9, by omega, rfl, rfl, by simp [Hid, linksT], Below.refl _ _, by omega⟩
  case round =>
    obtain ⟨k, L, hk, rfl, rfl, HE, hb, hLl⟩ := hrel
    have kr := kx.next hb
    obtain ⟨q0, q1, q2', q3, q4, q5⟩ := kr.cells6
    by_cases hlt : k < xln
    · obtain ⟨b1, off, x, vs, rfl, hbl, hd, hk1, hR, hc⟩ := (HX.out wr hb).get hlt
      have hvd := HV.out x (List.mem_of_getElem? hd)
      obtain ⟨lv1, lv2, lv3, lv4, lv5, lv6, lv7⟩ := lk_parts hvd hN4
      obtain ⟨t1, t2, t3, t4⟩ := linkT_len hvd hN4
      have hTv := boxV_all lv2
      have HE1 : Hid (z9 ++ linksT (xls.take (k + 1)) = L ++ lineT stepW [x.h] ++ lineT tubeW (endsL x.tube) ++ setT x.e ++ rowsT [118] x.v) := by
        unfold Hid
        rw [HE.out, linksT_take hd]
        simp [linkT]
      obtain ⟨Hh, hm, hq, TA, tn, tc, A2, n2, c2, B2, m2, d2, C2, p2, q2, V2, vn, vc, rfl, r1, r2, r3, r4, r5, r6⟩ := hR
      obtain ⟨⟨hn, hl, hx⟩, tube, fe, vv⟩ := x
      dsimp only at r1 r2 r3 r4 r5 r6 hc lv1 lv2 lv3 lv4 lv5 lv6 lv7 t1 t2 t3 t4 hTv HE1
      have e2 := r2.len
      have e6 := r6.len
      have hb1 := ballo wr (.cells #[.bool hn, .slice Hh hm hq, .int .i64 hx, .slice TA tn tc, .slice A2 n2 c2, .slice B2 m2 d2, .slice C2 p2 q2, .slice V2 vn vc] 98)
      have kl := Blk.new wr 98 #[.bool hn, .slice Hh hm hq, .int .i64 hx, .slice TA tn tc, .slice A2 n2 c2, .slice B2 m2 d2, .slice C2 p2 q2, .slice V2 vn vc]
      have HH := Lib.hid (fun W (hB : Below (wr.alloc (.cells #[.bool hn, .slice Hh hm hq, .int .i64 hx, .slice TA tn tc, .slice A2 n2 c2, .slice B2 m2 d2, .slice C2 p2 q2, .slice V2 vn vc] 98)).heap.size (wr.alloc (.cells #[.bool hn, .slice Hh hm hq, .int .i64 hx, .slice TA tn tc, .slice A2 n2 c2, .slice B2 m2 d2, .slice C2 p2 q2, .slice V2 vn vc] 98)) W) => r1.below (bnext hb1 hB))
      have H1 := Lib.hid (fun W A (hs : Sl 3 RD W A 1 1 [⟨hn, hl, hx⟩]) => xnumbers_any stepW A 1 1 [⟨hn, hl, hx⟩] W hs (by simpa using lv1) (by simp [stepW]) (by omega))
      have H2 := Lib.hid (fun W (hB : Below (wr.alloc (.cells #[.bool hn, .slice Hh hm hq, .int .i64 hx, .slice TA tn tc, .slice A2 n2 c2, .slice B2 m2 d2, .slice C2 p2 q2, .slice V2 vn vc] 98)).heap.size (wr.alloc (.cells #[.bool hn, .slice Hh hm hq, .int .i64 hx, .slice TA tn tc, .slice A2 n2 c2, .slice B2 m2 d2, .slice C2 p2 q2, .slice V2 vn vc] 98)) W) => xintervals_any tubeW TA tn tc tube W (r2.next lasts_RI (bnext hb1 hB)) (fun y hy => ivV_lo (hTv y hy).1 (hTv y hy).2) (by simp [tubeW]) (by omega))
      have H3 := Lib.hid (fun W (hB : Below (wr.alloc (.cells #[.bool hn, .slice Hh hm hq, .int .i64 hx, .slice TA tn tc, .slice A2 n2 c2, .slice B2 m2 d2, .slice C2 p2 q2, .slice V2 vn vc] 98)).heap.size (wr.alloc (.cells #[.bool hn, .slice Hh hm hq, .int .i64 hx, .slice TA tn tc, .slice A2 n2 c2, .slice B2 m2 d2, .slice C2 p2 q2, .slice V2 vn vc] 98)) W) => xlines_any _ fe W (lasts_RF _ _ _ _ ⟨A2, n2, c2, B2, m2, d2, C2, p2, q2, rfl, r3, r4, r5⟩ (bnext hb1 hB)) lv4)
      have H4 := Lib.hid (fun W (hB : Below (wr.alloc (.cells #[.bool hn, .slice Hh hm hq, .int .i64 hx, .slice TA tn tc, .slice A2 n2 c2, .slice B2 m2 d2, .slice C2 p2 q2, .slice V2 vn vc] 98)).heap.size (wr.alloc (.cells #[.bool hn, .slice Hh hm hq, .int .i64 hx, .slice TA tn tc, .slice A2 n2 c2, .slice B2 m2 d2, .slice C2 p2 q2, .slice V2 vn vc] 98)) W) => xrows_any [118] V2 vn vc vv W (r6.next lasts_RM (bnext hb1 hB)) lv5 (by simp) (by omega) lv6)
      have p0 := hc 0 _ rfl
      have p1 := hc 1 _ rfl
      have p2' := hc 2 _ rfl
      have p3 := hc 3 _ rfl
      have p4 := hc 4 _ rfl
      have p5 := hc 5 _ rfl
      have p6 := hc 6 _ rfl
      have p7 := hc 7 _ rfl
      rw [Nat.add_zero] at p0
      (try dsimp only at p0 p1 p2' p3 p4 p5 p6 p7)
      clear hc hk1 hd hvd HE r1 r2 r3 r4 r5 r6 e2 e6 lv1 lv2 lv3 lv4 lv5 lv6 lv7 hTv
      dsimp only [stepW, tubeW] at H1 H2
      rw [show lineT stepW = lineT [115, 116, 101, 112] from rfl, show lineT tubeW = lineT [116, 117, 98, 101] from rfl] at HE1
      rw [show lineT stepW = lineT [115, 116, 101, 112] from rfl] at t1
      rw [show lineT tubeW = lineT [116, 117, 98, 101] from rfl] at t2
      generalize lineT [115, 116, 101, 112] [⟨hn, hl, hx⟩] = s1 at *
      generalize lineT [116, 117, 98, 101] (endsL tube) = s2 at *
      generalize setT fe = s3 at *
      generalize rowsT [118] vv = s4 at *
      obtain ⟨u1, E1, cu1, yu1, nu1⟩ := cat_ex L s1 (200000 + 301260 * k) 1260 (by omega) (by omega) (by omega)
      obtain ⟨u2, E2, cu2, yu2, nu2⟩ := cat_ex u1 s2 (201260 + 301260 * k) 30000 (by omega) (by omega) (by omega)
      obtain ⟨u3, E3, cu3, yu3, nu3⟩ := cat_ex u2 s3 (231260 + 301260 * k) 140000 (by omega) (by omega) (by omega)
      obtain ⟨u4, E4, cu4, yu4, nu4⟩ := cat_ex u3 s4 (371260 + 301260 * k) 130000 (by omega) (by omega) (by omega)
      have HE2 : Hid (u4 = z9 ++ linksT (xls.take (k + 1))) := by unfold Hid; rw [HE1.out, E4.out, E3.out, E2.out, E1.out]
      clear HE1 E1 E2 E3 E4
      have nf : u4.length ≤ 200000 + 301260 * (k + 1) := len_step nu4
      go_wp2_with fail
      clear p0 p1 p2' p3 p4 p5 p6 p7 q0 q1 q2' q3 q4 q5
      generalize (wr.alloc (.cells #[.bool hn, .slice Hh hm hq, .int .i64 hx, .slice TA tn tc, .slice A2 n2 c2, .slice B2 m2 d2, .slice C2 p2 q2, .slice V2 vn vc] 98)) = W1 at *
      have HK6 : Hid (∀ V, Below W1.heap.size W1 V → (fun V => (V.cell? ⟨wr.heap.size, 0, none⟩ = some (.bool hn) ∧ V.cell? ⟨wr.heap.size, 1, none⟩ = some (.slice Hh hm hq) ∧ V.cell? ⟨wr.heap.size, 2, none⟩ = some (.int .i64 hx) ∧ V.cell? ⟨wr.heap.size, 3, none⟩ = some (.slice TA tn tc) ∧ V.cell? ⟨wr.heap.size, 4, none⟩ = some (.slice A2 n2 c2) ∧ V.cell? ⟨wr.heap.size, 5, none⟩ = some (.slice B2 m2 d2) ∧ V.cell? ⟨wr.heap.size, 6, none⟩ = some (.slice C2 p2 q2) ∧ V.cell? ⟨wr.heap.size, 7, none⟩ = some (.slice V2 vn vc)) ∧ Below W1.heap.size W1 V) V) := fun V hV => ⟨(kl.next hV).cells8, hV⟩
      have hB := bdrew W1
      clear kl kr
      refine wp_region_held_drew (S := (fun V => (V.cell? ⟨wr.heap.size, 0, none⟩ = some (.bool hn) ∧ V.cell? ⟨wr.heap.size, 1, none⟩ = some (.slice Hh hm hq) ∧ V.cell? ⟨wr.heap.size, 2, none⟩ = some (.int .i64 hx) ∧ V.cell? ⟨wr.heap.size, 3, none⟩ = some (.slice TA tn tc) ∧ V.cell? ⟨wr.heap.size, 4, none⟩ = some (.slice A2 n2 c2) ∧ V.cell? ⟨wr.heap.size, 5, none⟩ = some (.slice B2 m2 d2) ∧ V.cell? ⟨wr.heap.size, 6, none⟩ = some (.slice C2 p2 q2) ∧ V.cell? ⟨wr.heap.size, 7, none⟩ = some (.slice V2 vn vc)) ∧ Below W1.heap.size W1 V)) (by kernel_rfl) (HK6.out _ hB) (fun hH => ?_)
      refine wpAnyH_take (i := 0) (oi := ⟨_, _, _, _, _, _⟩) (v := ?_) rfl (by kernel_rfl) (by kernel_rfl) (by kernel_rfl) (fun _ _ _ h => h) (Or.inl ⟨by rfl, ?_⟩) hH ?_
      rotate_left
      · (intro w hSw; (try dsimp only at hSw); go_simp; try (with_reducible rfl))
      simp only [Act.put, List.setIfInBounds_toArray, List.set_cons_zero, List.set_cons_succ]
      refine wpAnyH_take (i := 1) (oi := ⟨_, _, _, _, _, _⟩) (v := ?_) rfl (by kernel_rfl) (by kernel_rfl) (by kernel_rfl) (fun _ _ _ h => h) (Or.inl ⟨by rfl, ?_⟩) hH ?_
      rotate_left
      · (intro w hSw; (try dsimp only at hSw); go_simp; try (with_reducible rfl))
      simp only [Act.put, List.setIfInBounds_toArray, List.set_cons_zero, List.set_cons_succ]
      refine wpAnyH_take (i := 2) (oi := ⟨_, _, _, _, _, _⟩) (v := ?_) rfl (by kernel_rfl) (by kernel_rfl) (by kernel_rfl) (fun _ _ _ h => h) (Or.inl ⟨by rfl, ?_⟩) hH ?_
      rotate_left
      · (intro w hSw; (try dsimp only at hSw); go_simp; try (with_reducible rfl))
      simp only [Act.put, List.setIfInBounds_toArray, List.set_cons_zero, List.set_cons_succ]
      refine wpAnyH_take (i := 6) (oi := ⟨_, _, _, _, _, _⟩) (v := ?_) rfl (by kernel_rfl) (by kernel_rfl) (by kernel_rfl) (fun _ _ _ h => h) (Or.inl ⟨by rfl, ?_⟩) hH ?_
      rotate_left
      · (intro w hSw; (try dsimp only at hSw); go_simp; try (with_reducible rfl))
      simp only [Act.put, List.setIfInBounds_toArray, List.set_cons_zero, List.set_cons_succ]
      refine wpAnyH_take (i := 7) (oi := ⟨_, _, _, _, _, _⟩) (v := ?_) rfl (by kernel_rfl) (by kernel_rfl) (by kernel_rfl) (fun _ _ _ h => h) (Or.inl ⟨by rfl, ?_⟩) hH ?_
      rotate_left
      · (intro w hSw; (try dsimp only at hSw); go_simp; try (with_reducible rfl))
      simp only [Act.put, List.setIfInBounds_toArray, List.set_cons_zero, List.set_cons_succ]
      refine wpAnyH_take (i := 10) (oi := ⟨_, _, _, _, _, _⟩) (v := ?_) rfl (by kernel_rfl) (by kernel_rfl) (by kernel_rfl) (fun _ _ _ h => h) (Or.inl ⟨by rfl, ?_⟩) hH ?_
      rotate_left
      · (intro w hSw; (try dsimp only at hSw); go_simp; try (with_reducible rfl))
      simp only [Act.put, List.setIfInBounds_toArray, List.set_cons_zero, List.set_cons_succ]
      refine wpAnyH_take (i := 11) (oi := ⟨_, _, _, _, _, _⟩) (v := ?_) rfl (by kernel_rfl) (by kernel_rfl) (by kernel_rfl) (fun _ _ _ h => h) (Or.inl ⟨by rfl, ?_⟩) hH ?_
      rotate_left
      · (intro w hSw; (try dsimp only at hSw); go_simp; try (with_reducible rfl))
      simp only [Act.put, List.setIfInBounds_toArray, List.set_cons_zero, List.set_cons_succ]
      refine wpAnyH_take (i := 14) (oi := ⟨_, _, _, _, _, _⟩) (v := ?_) rfl (by kernel_rfl) (by kernel_rfl) (by kernel_rfl) (fun _ _ _ h => h) (Or.inl ⟨by rfl, ?_⟩) hH ?_
      rotate_left
      · (intro w hSw; (try dsimp only at hSw); go_simp; try (with_reducible rfl))
      simp only [Act.put, List.setIfInBounds_toArray, List.set_cons_zero, List.set_cons_succ]
      refine wpAnyH_take (i := 15) (oi := ⟨_, _, _, _, _, _⟩) (v := ?_) rfl (by kernel_rfl) (by kernel_rfl) (by kernel_rfl) (fun _ _ _ h => h) (Or.inl ⟨by rfl, ?_⟩) hH ?_
      rotate_left
      · (intro w hSw; (try dsimp only at hSw); go_simp; try (with_reducible rfl))
      simp only [Act.put, List.setIfInBounds_toArray, List.set_cons_zero, List.set_cons_succ]
      refine wpAnyH_ready (rs := [3]) (by kernel_rfl) (by simp) ?_
      refine AllReadyH.cons (o := ⟨_, _, _, _, _, _⟩) rfl (fun K hK => ?_) AllReadyH.nil
      go_simp
      clear hB
      have hB : Below W1.heap.size W1 (W1.alloc (.cells #[.bool hn, .slice Hh hm hq, .int .i64 hx] 25)).drew := bnext (ballo W1 _) (bdrew _)
      have hsd : Sl 3 RD (W1.alloc (.cells #[.bool hn, .slice Hh hm hq, .int .i64 hx] 25)).drew (some ⟨W1.heap.size, 0, none⟩) 1 1 [⟨hn, hl, hx⟩] := Sl.singleK (cs := [.bool hn, .slice Hh hm hq, .int .i64 hx]) (Blk.newAt W1 _ _ (g := W1.heap.size) rfl).drew rfl ⟨_, _, _, rfl, HH.out _ hB⟩
      generalize (W1.alloc (.cells #[.bool hn, .slice Hh hm hq, .int .i64 hx] 25)).drew = W2 at *
      refine hK.out _ _ (HK6.out _ hB) (fun hH => ?_)
      clear hK K
      refine wpAnyH_ready (rs := [4]) (by kernel_rfl) (by simp) ?_
      refine AllReadyH.cons (o := ⟨_, _, _, _, _, _⟩) rfl (fun K hK => ?_) AllReadyH.nil
      go_simp
      refine (H1.out _ _ hsd).mono ?_
      rintro e V2 ⟨rfl, hc⟩
      replace hB := bnext hB hc
      clear hc hsd
      go_wp2_with fail
      refine hK.out _ _ (HK6.out _ hB) (fun hH => ?_)
      clear hK K
      refine wpAnyH_take (i := 5) (oi := ⟨_, _, _, _, _, _⟩) (v := ?_) rfl (by kernel_rfl) (by kernel_rfl) (by kernel_rfl) (fun _ _ _ h => h) (Or.inl ⟨by rfl, ?_⟩) hH ?_
      rotate_left
      · (intro w hSw; (try dsimp only at hSw); go_simp; try (with_reducible rfl))
      simp only [Act.put, List.setIfInBounds_toArray, List.set_cons_zero, List.set_cons_succ]
      refine wpAnyH_ready (rs := [8]) (by kernel_rfl) (by simp) ?_
      refine AllReadyH.cons (o := ⟨_, _, _, _, _, _⟩) rfl (fun K hK => ?_) AllReadyH.nil
      go_simp
      refine (H2.out _ hB).mono ?_
      rintro e V3 ⟨rfl, hc⟩
      replace hB := bnext hB hc
      clear hc
      go_wp2_with fail
      refine hK.out _ _ (HK6.out _ hB) (fun hH => ?_)
      clear hK K
      refine wpAnyH_take (i := 9) (oi := ⟨_, _, _, _, _, _⟩) (v := ?_) rfl (by kernel_rfl) (by kernel_rfl) (by kernel_rfl) (fun _ _ _ h => h) (Or.inl ⟨by rfl, ?_⟩) hH ?_
      rotate_left
      · (intro w hSw; (try dsimp only at hSw); go_simp; try (with_reducible rfl))
      simp only [Act.put, List.setIfInBounds_toArray, List.set_cons_zero, List.set_cons_succ]
      refine wpAnyH_ready (rs := [12]) (by kernel_rfl) (by simp) ?_
      refine AllReadyH.cons (o := ⟨_, _, _, _, _, _⟩) rfl (fun K hK => ?_) AllReadyH.nil
      go_simp
      refine (H3.out _ hB).mono ?_
      rintro e V4 ⟨rfl, hc⟩
      replace hB := bnext hB hc
      clear hc
      go_wp2_with fail
      refine hK.out _ _ (HK6.out _ hB) (fun hH => ?_)
      clear hK K
      refine wpAnyH_take (i := 13) (oi := ⟨_, _, _, _, _, _⟩) (v := ?_) rfl (by kernel_rfl) (by kernel_rfl) (by kernel_rfl) (fun _ _ _ h => h) (Or.inl ⟨by rfl, ?_⟩) hH ?_
      rotate_left
      · (intro w hSw; (try dsimp only at hSw); go_simp; try (with_reducible rfl))
      simp only [Act.put, List.setIfInBounds_toArray, List.set_cons_zero, List.set_cons_succ]
      refine wpAnyH_ready (rs := [16]) (by kernel_rfl) (by simp) ?_
      refine AllReadyH.cons (o := ⟨_, _, _, _, _, _⟩) rfl (fun K hK => ?_) AllReadyH.nil
      go_simp
      refine (H4.out _ hB).mono ?_
      rintro e V5 ⟨rfl, hc⟩
      replace hB := bnext hB hc
      clear hc
      go_wp2_with fail
      refine hK.out _ _ (HK6.out _ hB) (fun hH => ?_)
      clear hK K
      refine wpAnyH_take (i := 17) (oi := ⟨_, _, _, _, _, _⟩) (v := ?_) rfl (by kernel_rfl) (by kernel_rfl) (by kernel_rfl) (fun _ _ _ h => h) (Or.inl ⟨by rfl, ?_⟩) hH ?_
      rotate_left
      · (intro w hSw; (try dsimp only at hSw); go_simp; try (with_reducible rfl))
      simp only [Act.put, List.setIfInBounds_toArray, List.set_cons_zero, List.set_cons_succ]
      refine wpAnyH_take (i := 18) (oi := ⟨_, _, _, _, _, _⟩) (v := ?_) rfl (by kernel_rfl) (by kernel_rfl) (by kernel_rfl) (fun _ _ _ h => h) (Or.inl ⟨by rfl, ?_⟩) hH ?_
      rotate_left
      · (intro w hSw; (try dsimp only at hSw); go_simp; try (with_reducible rfl))
      simp only [Act.put, List.setIfInBounds_toArray, List.set_cons_zero, List.set_cons_succ]
      refine wpAnyH_done (by kernel_rfl) ?_ _
      clear hH HK6 H1 H2 H3 H4 HH
      replace hb := bnext hb (bnext hb1 hB)
      clear hB hb1
      go_wp2_with fail
      go_roundw
      case rel => exact ⟨k + 1, u4, by omega, rfl, by go_num, HE2, hb, nf⟩
      case measure => simp [intOf]; omega
    · obtain rfl : k = xln := by omega
      have HE2 : Hid (z9 ++ linksT xls = L) := by
        unfold Hid
        rw [HE.out, List.take_of_length_le (by rw [HLn.out]; exact Nat.le_refl _)]
      obtain ⟨u1, E1, cu1, yu1, nu1⟩ := cat_ex L [101, 110, 100, 10] (200000 + 301260 * k) 4 (by omega) (by simp) (by omega)
      simp only [List.length_cons, List.length_nil, Nat.zero_add, Nat.reduceAdd] at yu1
      have HE3 : Hid (textC ⟨xpr, xod, xst, xls⟩ = u1) := by
        unfold Hid
        rw [E1.out, ← HE2.out, HZ.out]
        rfl
      clear HE HE2 E1
      go_wp2_with fail
      go_ret
      exact ⟨by rw [HE3.out]; rfl, bnext hb0 hb⟩

end Go.Proofs.YtekajoifgdpmlaaGreatDoor
