/- The law DyadicInts: its walk. (Printed by gen_l10.py.) -/
import Derived.Test.YtjhokljoomeilaaDoorVar
import Derived.Deep.DeepCutAuto
import Derived.Laws.EntriesVeiled
namespace Go.Proofs.YtjhokljoomeilaaDoor
open Go.RowKit Pl Go.Shelf

theorem intD_any (n : Int) (w : World) (h1 : -9223372036854775808 ≤ n) (h2 : n < 9223372036854775808) (ht : Tabs w) : Calls Tryd.prog 34 #[.int .i64 n] w (RetD (intD n) w) := by
  by_cases h : 0 ≤ n
  · obtain ⟨k, rfl⟩ := Int.eq_ofNat_of_zero_le h
    exact intD_nonneg k w (by omega) ht
  · obtain ⟨k, rfl⟩ : ∃ k : Nat, n = -(k : Int) := ⟨n.natAbs, by omega⟩
    exact intD_neg k w (by omega) (by omega) ht
theorem shl_small {a : Int} {n : Nat} (h1 : -2147483648 ≤ a) (h2 : a ≤ 2147483647) (hn : n < 30) : (a * 2 ^ n).natAbs ≤ 2305843009213693952 := by
  have hp : (2 : Nat) ^ n ≤ 2 ^ 30 := Nat.pow_le_pow_right (by omega) (by omega)
  rw [Int.natAbs_mul, show ((2 : Int) ^ n).natAbs = 2 ^ n by rw [Int.natAbs_pow]; rfl]
  exact Nat.mul_le_mul (show a.natAbs ≤ 2147483648 by omega) hp

structure IntsAt (w : World) (gx gy gf : Nat) (xn : Bool) (xA : Option Addr) (xs xc : Nat) (xl : List Nat) (xe : Int) (yn : Bool) (yA : Option Addr) (ys yc : Nat) (yl : List Nat) (ye p q : Int) (W : World) : Prop where
  vx : Var W gx xn xA xs xc xl xe
  vy : Var W gy yn yA ys yc yl ye
  kf : Blk W gf 50 #[.func (.func 30) #[] #[], .int .i64 (p + q), .func (.func 32) #[] #[], .int .i64 (p - q), .func (.func 31) #[] #[], .int .i64 (p * q)]
  ht : Tabs W
  hbw : Below w.heap.size w W

set_option maxRecDepth 100000 in
set_option maxHeartbeats 16000000 in
theorem lints_any (p q k : Int) (w : World) (hp1 : -2147483648 ≤ p) (hp2 : p ≤ 2147483647) (hq1 : -2147483648 ≤ q) (hq2 : q ≤ 2147483647) (hk1 : 0 ≤ k) (hk2 : k ≤ 255) (ht : Tabs w) :
    Calls Tryd.prog 9 #[.int .i32 p, .int .i32 q, .int .u8 k] w fun e w' => e = .returned (.bool true) ∧ Below w.heap.size w w' := by
  obtain ⟨n, hn, hmod⟩ : ∃ n : Nat, n < 30 ∧ k % 30 = (n : Int) := ⟨(k % 30).toNat, by omega, by omega⟩
  have hn64 : (n : Int) ≤ 64 := by omega
  have hwp : IntKind.i64.wrap p = p := IntWalk.i64_in _ (by omega)
  have hwq : IntKind.i64.wrap q = q := IntWalk.i64_in _ (by omega)
  have hwa : IntKind.i64.wrap (p + q) = p + q := IntWalk.i64_in _ (by omega)
  have hws : IntKind.i64.wrap (p - q) = p - q := IntWalk.i64_in _ (by omega)
  have hpq := mul_small hp1 hp2 hq1 hq2
  have hwm : IntKind.i64.wrap (p * q) = p * q := IntWalk.i64_in _ (by omega)
  have hpn := shl_small hp1 hp2 hn
  have hwn : IntKind.i64.wrap (p * 2 ^ n) = p * 2 ^ n := IntWalk.i64_in _ (by omega)
  have HPQ := Lib.hid hpq
  have HPN := Lib.hid hpn
  clear hpq hpn
  have HT := Lib.hid ht
  clear ht
  have hbw := Below.refl w.heap.size w
  go_enter Tryd.func9, Tryd.ntmps9
  go_wp2_with fail
  refine (awake_any _ HT.out).mono ?_
  rintro e w1 ⟨rfl, hb1⟩
  replace hbw := bnext hbw hb1
  replace HT := Lib.hid (HT.out.next hb1)
  clear hb1
  obtain ⟨⟨xn, xl, xe⟩, hx⟩ : ∃ d, d = intD p := ⟨_, rfl⟩
  have hvx : vld ⟨xn, xl, xe⟩ = true := by rw [hx]; exact vld_int (by omega)
  have hLx : xl.length ≤ 256 := vld_short hvx
  have Hx := Lib.hid hx
  have HVx := Lib.hid hvx
  clear hx hvx
  obtain ⟨⟨yn, yl, ye⟩, hy⟩ : ∃ d, d = intD q := ⟨_, rfl⟩
  have hvy : vld ⟨yn, yl, ye⟩ = true := by rw [hy]; exact vld_int (by omega)
  have hLy : yl.length ≤ 256 := vld_short hvy
  have Hy := Lib.hid hy
  have HVy := Lib.hid hvy
  clear hy hvy
  skip
  go_wp2_with fail
  refine (intD_any p _ (by omega) (by omega) HT.out).mono ?_
  rw [← Hx.out]
  rintro e w2 ⟨xA, xs, xc, rfl, hsx, hfx, hbx⟩
  dsimp only at hsx
  clear hfx
  replace hbw := bnext hbw hbx
  replace HT := Lib.hid (HT.out.next hbx)
  clear hbx
  have hmx : xs ≤ 300 := by rw [← hsx.len]; omega
  go_wp2_with fail
  refine (intD_any q _ (by omega) (by omega) HT.out).mono ?_
  rw [← Hy.out]
  rintro e w3 ⟨yA, ys, yc, rfl, hsy, hfy, hby⟩
  dsimp only at hsy
  clear hfy
  replace hsx := hsx.below hby
  replace hbw := bnext hbw hby
  replace HT := Lib.hid (HT.out.next hby)
  clear hby
  have hmy : ys ≤ 300 := by rw [← hsy.len]; omega
  have hbl := bnext (ballo w3 (.cells #[.bool xn, .slice xA xs xc, .int .i64 xe] 27)) (ballo (w3.alloc (.cells #[.bool xn, .slice xA xs xc, .int .i64 xe] 27)) (.cells #[.bool yn, .slice yA ys yc, .int .i64 ye] 27))
  have vx := (Var.new w3 xn xe hsx).next (ballo (w3.alloc (.cells #[.bool xn, .slice xA xs xc, .int .i64 xe] 27)) (.cells #[.bool yn, .slice yA ys yc, .int .i64 ye] 27))
  have vy := Var.newAt (w3.alloc (.cells #[.bool xn, .slice xA xs xc, .int .i64 xe] 27)) yn ye (g := w3.heap.size + 1) (by simp) (hsy.below (ballo w3 (.cells #[.bool xn, .slice xA xs xc, .int .i64 xe] 27)))
  replace hbw := bnext hbw hbl
  replace HT := Lib.hid (HT.out.next hbl)
  clear hbl hsx hsy
  go_wp2_with fail
  have kf := Blk.newAt ((w3.alloc (.cells #[.bool xn, .slice xA xs xc, .int .i64 xe] 27)).alloc (.cells #[.bool yn, .slice yA ys yc, .int .i64 ye] 27)) 50 #[.func (.func 30) #[] #[], .int .i64 (p + q), .func (.func 32) #[] #[], .int .i64 (p - q), .func (.func 31) #[] #[], .int .i64 (p * q)] (g := w3.heap.size + 1 + 1) (by simp)
  have hbl := ballo ((w3.alloc (.cells #[.bool xn, .slice xA xs xc, .int .i64 xe] 27)).alloc (.cells #[.bool yn, .slice yA ys yc, .int .i64 ye] 27)) (.cells #[.func (.func 30) #[] #[], .int .i64 (p + q), .func (.func 32) #[] #[], .int .i64 (p - q), .func (.func 31) #[] #[], .int .i64 (p * q)] 50)
  replace vx := vx.next hbl
  replace vy := vy.next hbl
  replace hbw := bnext hbw hbl
  replace HT := Lib.hid (HT.out.next hbl)
  clear hbl
  generalize ((w3.alloc (.cells #[.bool xn, .slice xA xs xc, .int .i64 xe] 27)).alloc (.cells #[.bool yn, .slice yA ys yc, .int .i64 ye] 27)).alloc (.cells #[.func (.func 30) #[] #[], .int .i64 (p + q), .func (.func 32) #[] #[], .int .i64 (p - q), .func (.func 31) #[] #[], .int .i64 (p * q)] 50) = WL at *
  generalize hgf : w3.heap.size + 1 + 1 = gf at *
  generalize hgy : w3.heap.size + 1 = gy at *
  generalize hgx : w3.heap.size = gx at *
  clear hgf hgy hgx
  go_loopw [45] (fun i wr => ∃ j : Nat, j ≤ 3 ∧ i = .int .i64 j ∧ IntsAt w gx gy gf xn xA xs xc xl xe yn yA ys yc yl ye p q wr) (fun i _ => 3 - (intOf i).toNat)
  case atStart => exact ⟨0, by omega, rfl, vx, vy, kf, HT.out, hbw⟩
  case round =>
    obtain ⟨j, hj, rfl, vx, vy, kf, ht, hbw⟩ := hrel
    have HT := Lib.hid ht
    clear ht
    have h3 : j = 0 ∨ j = 1 ∨ j = 2 ∨ j = 3 := by omega
    rcases h3 with rfl | rfl | rfl | rfl
    · obtain ⟨⟨rn, rl, re⟩, hr⟩ : ∃ d, d = intD (p + q) := ⟨_, rfl⟩
      have HR : Hid (addD ⟨xn, xl, xe⟩ ⟨yn, yl, ye⟩ = (⟨rn, rl, re⟩, 0)) := by unfold Hid; rw [Hx.out, Hy.out, hr]; exact int_add hp1 hp2 hq1 hq2
      have hLr : rl.length ≤ 256 := vld_short (d := ⟨rn, rl, re⟩) (by rw [hr]; exact vld_int (by have := HPQ.out; omega))
      have HI := Lib.hid hr
      clear hr
      have kf0 := kf.cell 0
      have kf1 := kf.cell 1
      simp at kf0 kf1
      have kc := Blk.new wr 50 #[.func (.func 30) #[] #[], .int .i64 (p + q)]
      have hbl := ballo wr (.cells #[.func (.func 30) #[] #[], .int .i64 (p + q)] 50)
      replace vx := vx.next hbl
      replace vy := vy.next hbl
      replace kf := kf.below hbl kf.lt
      replace hbw := bnext hbw hbl
      replace HT := Lib.hid (HT.out.next hbl)
      obtain ⟨xq0, xq1, xq2⟩ := vx.cells
      obtain ⟨yq0, yq1, yq2⟩ := vy.cells
      go_wp2_with fail
      clear xq0 xq1 xq2 yq0 yq1 yq2
      clear hbl kf0 kf1
      generalize wr.alloc (.cells #[.func (.func 30) #[] #[], .int .i64 (p + q)] 50) = Wc at *
      generalize wr.heap.size = gc at *
      refine (addD_any xn yn xA yA xs xc ys yc xl yl xe ye _ vx.sl vy.sl HT.out (by omega) (by omega)).mono ?_
      rw [HR.out]
      rintro e w4 ⟨rA, rs, rc, rfl, hsr, hfr, hbr⟩
      dsimp only at hsr
      clear hfr
      have hbr2 := bnext hbr (ballo w4 (.cells #[.bool rn, .slice rA rs rc, .int .i64 re] 27))
      have vr := Var.new w4 rn re hsr
      have hmr : rs ≤ 300 := by rw [← hsr.len]; omega
      replace vx := vx.next hbr2
      replace vy := vy.next hbr2
      replace kf := kf.below hbr2 kf.lt
      replace kc := kc.below hbr2 kc.lt
      replace hbw := bnext hbw hbr2
      replace HT := Lib.hid (HT.out.next hbr2)
      clear hbr hbr2 hsr
      go_wp2_with fail
      generalize w4.alloc (.cells #[.bool rn, .slice rA rs rc, .int .i64 re] 27) = W4 at *
      generalize w4.heap.size = gr at *
      have HK : Hid (∀ V, Below W4.heap.size W4 V → (fun V => (V.cell? ⟨gr, 0, none⟩ = some (.bool rn) ∧ V.cell? ⟨gr, 1, none⟩ = some (.slice rA rs rc) ∧ V.cell? ⟨gr, 2, none⟩ = some (.int .i64 re)) ∧ V.cell? ⟨gc, 1, none⟩ = some (.int .i64 (p + q)) ∧ Below W4.heap.size W4 V) V) := fun V hV => ⟨vr.keep V hV, ((kc.below hV kc.lt).cell 1).trans rfl, hV⟩
      have hB := bdrew W4
      refine wp_region_held_drew (S := (fun V => (V.cell? ⟨gr, 0, none⟩ = some (.bool rn) ∧ V.cell? ⟨gr, 1, none⟩ = some (.slice rA rs rc) ∧ V.cell? ⟨gr, 2, none⟩ = some (.int .i64 re)) ∧ V.cell? ⟨gc, 1, none⟩ = some (.int .i64 (p + q)) ∧ Below W4.heap.size W4 V)) (by kernel_rfl) (HK.out _ hB) (fun hH => ?_)
      refine wpAnyH_take (i := 0) (oi := ⟨_, _, _, _, _, _⟩) (v := ?_) rfl (by kernel_rfl) (by kernel_rfl) (by kernel_rfl) (fun _ _ _ h => h) (Or.inl ⟨by rfl, ?_⟩) hH ?_
      rotate_left
      · (intro w hSw; (try dsimp only at hSw); go_simp; try (with_reducible rfl))
      simp only [Act.put, List.setIfInBounds_toArray, List.set_cons_zero, List.set_cons_succ]
      refine wpAnyH_take (i := 1) (oi := ⟨_, _, _, _, _, _⟩) (v := ?_) rfl (by kernel_rfl) (by kernel_rfl) (by kernel_rfl) (fun _ _ _ h => h) (Or.inl ⟨by rfl, ?_⟩) hH ?_
      rotate_left
      · (intro w hSw; (try dsimp only at hSw); go_simp; try (with_reducible rfl))
      simp only [Act.put, List.setIfInBounds_toArray, List.set_cons_zero, List.set_cons_succ]
      refine wpAnyH_take (i := 2) (oi := ⟨_, _, _, _, _, _⟩) (v := ?_) rfl (by kernel_rfl) (by kernel_rfl) (by kernel_rfl) (fun _ _ _ h => h) (Or.inl ⟨by rfl, ?_⟩) hH ?_
      rotate_left
      · (intro w hSw; (try dsimp only at hSw); go_simp; try (with_reducible rfl))
      simp only [Act.put, List.setIfInBounds_toArray, List.set_cons_zero, List.set_cons_succ]
      refine wpAnyH_take (i := 3) (oi := ⟨_, _, _, _, _, _⟩) (v := ?_) rfl (by kernel_rfl) (by kernel_rfl) (by kernel_rfl) (fun _ _ _ h => h) (Or.inl ⟨by rfl, ?_⟩) hH ?_
      rotate_left
      · (intro w hSw; (try dsimp only at hSw); go_simp; try (with_reducible rfl))
      simp only [Act.put, List.setIfInBounds_toArray, List.set_cons_zero, List.set_cons_succ]
      refine wpAnyH_take (i := 4) (oi := ⟨_, _, _, _, _, _⟩) (v := ?_) rfl (by kernel_rfl) (by kernel_rfl) (by kernel_rfl) (fun _ _ _ h => h) (Or.inl ⟨by rfl, ?_⟩) hH ?_
      rotate_left
      · (intro w hSw; (try dsimp only at hSw); go_simp; try (with_reducible rfl))
      simp only [Act.put, List.setIfInBounds_toArray, List.set_cons_zero, List.set_cons_succ]
      refine wpAnyH_take (i := 5) (oi := ⟨_, _, _, _, _, _⟩) (v := ?_) rfl (by kernel_rfl) (by kernel_rfl) (by kernel_rfl) (fun _ _ _ h => h) (Or.inl ⟨by rfl, ?_⟩) hH ?_
      rotate_left
      · (intro w hSw; (try dsimp only at hSw); go_simp; try (with_reducible rfl))
      simp only [Act.put, List.setIfInBounds_toArray, List.set_cons_zero, List.set_cons_succ]
      refine wpAnyH_ready (rs := [6]) (by kernel_rfl) (by simp) ?_
      refine AllReadyH.cons (o := ⟨_, _, _, _, _, _⟩) rfl (fun K hK => ?_) AllReadyH.nil
      go_simp
      refine (intD_any (p + q) _ (by have := HPQ.out; omega) (by have := HPQ.out; omega) (HT.out.next hB)).mono ?_
      rw [← HI.out]
      rintro e w5 ⟨iA, is, ic, rfl, his, hif, hc⟩
      replace hB := bnext hB hc
      clear hc
      go_wp2_with fail
      refine hK.out _ _ (HK.out _ hB) (fun hH => ?_)
      clear hK K
      refine wpAnyH_ready (rs := [7]) (by kernel_rfl) (by simp) ?_
      refine AllReadyH.cons (o := ⟨_, _, _, _, _, _⟩) rfl (fun K hK => ?_) AllReadyH.nil
      go_simp
      refine (requal_any rn rn rA iA rs rc is ic rl rl re re _ (vr.sl.below hB) his).mono ?_
      rw [eqD_self]
      rintro e w6 ⟨rfl, hc⟩
      replace hB := bnext hB hc
      clear hc
      go_wp2_with fail
      refine hK.out _ _ (HK.out _ hB) (fun hH => ?_)
      clear hK K
      refine wpAnyH_take (i := 8) (oi := ⟨_, _, _, _, _, _⟩) (v := ?_) rfl (by kernel_rfl) (by kernel_rfl) (by kernel_rfl) (fun _ _ _ h => h) (Or.inl ⟨by rfl, ?_⟩) hH ?_
      rotate_left
      · (intro w hSw; (try dsimp only at hSw); go_simp; try (with_reducible rfl))
      simp only [Act.put, List.setIfInBounds_toArray, List.set_cons_zero, List.set_cons_succ]
      refine wpAnyH_take (i := 9) (oi := ⟨_, _, _, _, _, _⟩) (v := ?_) rfl (by kernel_rfl) (by kernel_rfl) (by kernel_rfl) (fun _ _ _ h => h) (Or.inl ⟨by rfl, ?_⟩) hH ?_
      rotate_left
      · (intro w hSw; (try dsimp only at hSw); go_simp; try (with_reducible rfl))
      simp only [Act.put, List.setIfInBounds_toArray, List.set_cons_zero, List.set_cons_succ]
      refine wpAnyH_done (by kernel_rfl) ?_ _
      clear hH HK
      replace vx := vx.next hB
      replace vy := vy.next hB
      replace vr := vr.next hB
      replace kf := kf.below hB kf.lt
      replace kc := kc.below hB kc.lt
      replace hbw := bnext hbw hB
      replace HT := Lib.hid (HT.out.next hB)
      clear hB
      go_wp2_with fail
      go_roundw
      case rel => exact ⟨0 + 1, by omega, by go_num, vx, vy, kf, HT.out, hbw⟩
      case measure => simp [intOf]
    · obtain ⟨⟨rn, rl, re⟩, hr⟩ : ∃ d, d = intD (p - q) := ⟨_, rfl⟩
      have HR : Hid (subD ⟨xn, xl, xe⟩ ⟨yn, yl, ye⟩ = (⟨rn, rl, re⟩, 0)) := by unfold Hid; rw [Hx.out, Hy.out, hr]; exact int_sub hp1 hp2 hq1 hq2
      have hLr : rl.length ≤ 256 := vld_short (d := ⟨rn, rl, re⟩) (by rw [hr]; exact vld_int (by have := HPQ.out; omega))
      have HI := Lib.hid hr
      clear hr
      have kf0 := kf.cell 2
      have kf1 := kf.cell 3
      simp at kf0 kf1
      have kc := Blk.new wr 50 #[.func (.func 32) #[] #[], .int .i64 (p - q)]
      have hbl := ballo wr (.cells #[.func (.func 32) #[] #[], .int .i64 (p - q)] 50)
      replace vx := vx.next hbl
      replace vy := vy.next hbl
      replace kf := kf.below hbl kf.lt
      replace hbw := bnext hbw hbl
      replace HT := Lib.hid (HT.out.next hbl)
      obtain ⟨xq0, xq1, xq2⟩ := vx.cells
      obtain ⟨yq0, yq1, yq2⟩ := vy.cells
      go_wp2_with fail
      clear xq0 xq1 xq2 yq0 yq1 yq2
      clear hbl kf0 kf1
      generalize wr.alloc (.cells #[.func (.func 32) #[] #[], .int .i64 (p - q)] 50) = Wc at *
      generalize wr.heap.size = gc at *
      refine (subD_any xn yn xA yA xs xc ys yc xl yl xe ye _ vx.sl vy.sl HT.out (by omega) (by omega)).mono ?_
      rw [HR.out]
      rintro e w4 ⟨rA, rs, rc, rfl, hsr, hfr, hbr⟩
      dsimp only at hsr
      clear hfr
      have hbr2 := bnext hbr (ballo w4 (.cells #[.bool rn, .slice rA rs rc, .int .i64 re] 27))
      have vr := Var.new w4 rn re hsr
      have hmr : rs ≤ 300 := by rw [← hsr.len]; omega
      replace vx := vx.next hbr2
      replace vy := vy.next hbr2
      replace kf := kf.below hbr2 kf.lt
      replace kc := kc.below hbr2 kc.lt
      replace hbw := bnext hbw hbr2
      replace HT := Lib.hid (HT.out.next hbr2)
      clear hbr hbr2 hsr
      go_wp2_with fail
      generalize w4.alloc (.cells #[.bool rn, .slice rA rs rc, .int .i64 re] 27) = W4 at *
      generalize w4.heap.size = gr at *
      have HK : Hid (∀ V, Below W4.heap.size W4 V → (fun V => (V.cell? ⟨gr, 0, none⟩ = some (.bool rn) ∧ V.cell? ⟨gr, 1, none⟩ = some (.slice rA rs rc) ∧ V.cell? ⟨gr, 2, none⟩ = some (.int .i64 re)) ∧ V.cell? ⟨gc, 1, none⟩ = some (.int .i64 (p - q)) ∧ Below W4.heap.size W4 V) V) := fun V hV => ⟨vr.keep V hV, ((kc.below hV kc.lt).cell 1).trans rfl, hV⟩
      have hB := bdrew W4
      refine wp_region_held_drew (S := (fun V => (V.cell? ⟨gr, 0, none⟩ = some (.bool rn) ∧ V.cell? ⟨gr, 1, none⟩ = some (.slice rA rs rc) ∧ V.cell? ⟨gr, 2, none⟩ = some (.int .i64 re)) ∧ V.cell? ⟨gc, 1, none⟩ = some (.int .i64 (p - q)) ∧ Below W4.heap.size W4 V)) (by kernel_rfl) (HK.out _ hB) (fun hH => ?_)
      refine wpAnyH_take (i := 0) (oi := ⟨_, _, _, _, _, _⟩) (v := ?_) rfl (by kernel_rfl) (by kernel_rfl) (by kernel_rfl) (fun _ _ _ h => h) (Or.inl ⟨by rfl, ?_⟩) hH ?_
      rotate_left
      · (intro w hSw; (try dsimp only at hSw); go_simp; try (with_reducible rfl))
      simp only [Act.put, List.setIfInBounds_toArray, List.set_cons_zero, List.set_cons_succ]
      refine wpAnyH_take (i := 1) (oi := ⟨_, _, _, _, _, _⟩) (v := ?_) rfl (by kernel_rfl) (by kernel_rfl) (by kernel_rfl) (fun _ _ _ h => h) (Or.inl ⟨by rfl, ?_⟩) hH ?_
      rotate_left
      · (intro w hSw; (try dsimp only at hSw); go_simp; try (with_reducible rfl))
      simp only [Act.put, List.setIfInBounds_toArray, List.set_cons_zero, List.set_cons_succ]
      refine wpAnyH_take (i := 2) (oi := ⟨_, _, _, _, _, _⟩) (v := ?_) rfl (by kernel_rfl) (by kernel_rfl) (by kernel_rfl) (fun _ _ _ h => h) (Or.inl ⟨by rfl, ?_⟩) hH ?_
      rotate_left
      · (intro w hSw; (try dsimp only at hSw); go_simp; try (with_reducible rfl))
      simp only [Act.put, List.setIfInBounds_toArray, List.set_cons_zero, List.set_cons_succ]
      refine wpAnyH_take (i := 3) (oi := ⟨_, _, _, _, _, _⟩) (v := ?_) rfl (by kernel_rfl) (by kernel_rfl) (by kernel_rfl) (fun _ _ _ h => h) (Or.inl ⟨by rfl, ?_⟩) hH ?_
      rotate_left
      · (intro w hSw; (try dsimp only at hSw); go_simp; try (with_reducible rfl))
      simp only [Act.put, List.setIfInBounds_toArray, List.set_cons_zero, List.set_cons_succ]
      refine wpAnyH_take (i := 4) (oi := ⟨_, _, _, _, _, _⟩) (v := ?_) rfl (by kernel_rfl) (by kernel_rfl) (by kernel_rfl) (fun _ _ _ h => h) (Or.inl ⟨by rfl, ?_⟩) hH ?_
      rotate_left
      · (intro w hSw; (try dsimp only at hSw); go_simp; try (with_reducible rfl))
      simp only [Act.put, List.setIfInBounds_toArray, List.set_cons_zero, List.set_cons_succ]
      refine wpAnyH_take (i := 5) (oi := ⟨_, _, _, _, _, _⟩) (v := ?_) rfl (by kernel_rfl) (by kernel_rfl) (by kernel_rfl) (fun _ _ _ h => h) (Or.inl ⟨by rfl, ?_⟩) hH ?_
      rotate_left
      · (intro w hSw; (try dsimp only at hSw); go_simp; try (with_reducible rfl))
      simp only [Act.put, List.setIfInBounds_toArray, List.set_cons_zero, List.set_cons_succ]
      refine wpAnyH_ready (rs := [6]) (by kernel_rfl) (by simp) ?_
      refine AllReadyH.cons (o := ⟨_, _, _, _, _, _⟩) rfl (fun K hK => ?_) AllReadyH.nil
      go_simp
      refine (intD_any (p - q) _ (by have := HPQ.out; omega) (by have := HPQ.out; omega) (HT.out.next hB)).mono ?_
      rw [← HI.out]
      rintro e w5 ⟨iA, is, ic, rfl, his, hif, hc⟩
      replace hB := bnext hB hc
      clear hc
      go_wp2_with fail
      refine hK.out _ _ (HK.out _ hB) (fun hH => ?_)
      clear hK K
      refine wpAnyH_ready (rs := [7]) (by kernel_rfl) (by simp) ?_
      refine AllReadyH.cons (o := ⟨_, _, _, _, _, _⟩) rfl (fun K hK => ?_) AllReadyH.nil
      go_simp
      refine (requal_any rn rn rA iA rs rc is ic rl rl re re _ (vr.sl.below hB) his).mono ?_
      rw [eqD_self]
      rintro e w6 ⟨rfl, hc⟩
      replace hB := bnext hB hc
      clear hc
      go_wp2_with fail
      refine hK.out _ _ (HK.out _ hB) (fun hH => ?_)
      clear hK K
      refine wpAnyH_take (i := 8) (oi := ⟨_, _, _, _, _, _⟩) (v := ?_) rfl (by kernel_rfl) (by kernel_rfl) (by kernel_rfl) (fun _ _ _ h => h) (Or.inl ⟨by rfl, ?_⟩) hH ?_
      rotate_left
      · (intro w hSw; (try dsimp only at hSw); go_simp; try (with_reducible rfl))
      simp only [Act.put, List.setIfInBounds_toArray, List.set_cons_zero, List.set_cons_succ]
      refine wpAnyH_take (i := 9) (oi := ⟨_, _, _, _, _, _⟩) (v := ?_) rfl (by kernel_rfl) (by kernel_rfl) (by kernel_rfl) (fun _ _ _ h => h) (Or.inl ⟨by rfl, ?_⟩) hH ?_
      rotate_left
      · (intro w hSw; (try dsimp only at hSw); go_simp; try (with_reducible rfl))
      simp only [Act.put, List.setIfInBounds_toArray, List.set_cons_zero, List.set_cons_succ]
      refine wpAnyH_done (by kernel_rfl) ?_ _
      clear hH HK
      replace vx := vx.next hB
      replace vy := vy.next hB
      replace vr := vr.next hB
      replace kf := kf.below hB kf.lt
      replace kc := kc.below hB kc.lt
      replace hbw := bnext hbw hB
      replace HT := Lib.hid (HT.out.next hB)
      clear hB
      go_wp2_with fail
      go_roundw
      case rel => exact ⟨1 + 1, by omega, by go_num, vx, vy, kf, HT.out, hbw⟩
      case measure => simp [intOf]
    · obtain ⟨⟨rn, rl, re⟩, hr⟩ : ∃ d, d = intD (p * q) := ⟨_, rfl⟩
      have HR : Hid (mulD ⟨xn, xl, xe⟩ ⟨yn, yl, ye⟩ = (⟨rn, rl, re⟩, 0)) := by unfold Hid; rw [Hx.out, Hy.out, hr]; exact int_mul hp1 hp2 hq1 hq2
      have hLr : rl.length ≤ 256 := vld_short (d := ⟨rn, rl, re⟩) (by rw [hr]; exact vld_int (by have := HPQ.out; omega))
      have HI := Lib.hid hr
      clear hr
      have kf0 := kf.cell 4
      have kf1 := kf.cell 5
      simp at kf0 kf1
      have kc := Blk.new wr 50 #[.func (.func 31) #[] #[], .int .i64 (p * q)]
      have hbl := ballo wr (.cells #[.func (.func 31) #[] #[], .int .i64 (p * q)] 50)
      replace vx := vx.next hbl
      replace vy := vy.next hbl
      replace kf := kf.below hbl kf.lt
      replace hbw := bnext hbw hbl
      replace HT := Lib.hid (HT.out.next hbl)
      obtain ⟨xq0, xq1, xq2⟩ := vx.cells
      obtain ⟨yq0, yq1, yq2⟩ := vy.cells
      go_wp2_with fail
      clear xq0 xq1 xq2 yq0 yq1 yq2
      clear hbl kf0 kf1
      generalize wr.alloc (.cells #[.func (.func 31) #[] #[], .int .i64 (p * q)] 50) = Wc at *
      generalize wr.heap.size = gc at *
      refine (mulD_any xn yn xA yA xs xc ys yc xl yl xe ye _ vx.sl vy.sl HT.out (by omega) (by omega)).mono ?_
      rw [HR.out]
      rintro e w4 ⟨rA, rs, rc, rfl, hsr, hfr, hbr⟩
      dsimp only at hsr
      clear hfr
      have hbr2 := bnext hbr (ballo w4 (.cells #[.bool rn, .slice rA rs rc, .int .i64 re] 27))
      have vr := Var.new w4 rn re hsr
      have hmr : rs ≤ 300 := by rw [← hsr.len]; omega
      replace vx := vx.next hbr2
      replace vy := vy.next hbr2
      replace kf := kf.below hbr2 kf.lt
      replace kc := kc.below hbr2 kc.lt
      replace hbw := bnext hbw hbr2
      replace HT := Lib.hid (HT.out.next hbr2)
      clear hbr hbr2 hsr
      go_wp2_with fail
      generalize w4.alloc (.cells #[.bool rn, .slice rA rs rc, .int .i64 re] 27) = W4 at *
      generalize w4.heap.size = gr at *
      have HK : Hid (∀ V, Below W4.heap.size W4 V → (fun V => (V.cell? ⟨gr, 0, none⟩ = some (.bool rn) ∧ V.cell? ⟨gr, 1, none⟩ = some (.slice rA rs rc) ∧ V.cell? ⟨gr, 2, none⟩ = some (.int .i64 re)) ∧ V.cell? ⟨gc, 1, none⟩ = some (.int .i64 (p * q)) ∧ Below W4.heap.size W4 V) V) := fun V hV => ⟨vr.keep V hV, ((kc.below hV kc.lt).cell 1).trans rfl, hV⟩
      have hB := bdrew W4
      refine wp_region_held_drew (S := (fun V => (V.cell? ⟨gr, 0, none⟩ = some (.bool rn) ∧ V.cell? ⟨gr, 1, none⟩ = some (.slice rA rs rc) ∧ V.cell? ⟨gr, 2, none⟩ = some (.int .i64 re)) ∧ V.cell? ⟨gc, 1, none⟩ = some (.int .i64 (p * q)) ∧ Below W4.heap.size W4 V)) (by kernel_rfl) (HK.out _ hB) (fun hH => ?_)
      refine wpAnyH_take (i := 0) (oi := ⟨_, _, _, _, _, _⟩) (v := ?_) rfl (by kernel_rfl) (by kernel_rfl) (by kernel_rfl) (fun _ _ _ h => h) (Or.inl ⟨by rfl, ?_⟩) hH ?_
      rotate_left
      · (intro w hSw; (try dsimp only at hSw); go_simp; try (with_reducible rfl))
      simp only [Act.put, List.setIfInBounds_toArray, List.set_cons_zero, List.set_cons_succ]
      refine wpAnyH_take (i := 1) (oi := ⟨_, _, _, _, _, _⟩) (v := ?_) rfl (by kernel_rfl) (by kernel_rfl) (by kernel_rfl) (fun _ _ _ h => h) (Or.inl ⟨by rfl, ?_⟩) hH ?_
      rotate_left
      · (intro w hSw; (try dsimp only at hSw); go_simp; try (with_reducible rfl))
      simp only [Act.put, List.setIfInBounds_toArray, List.set_cons_zero, List.set_cons_succ]
      refine wpAnyH_take (i := 2) (oi := ⟨_, _, _, _, _, _⟩) (v := ?_) rfl (by kernel_rfl) (by kernel_rfl) (by kernel_rfl) (fun _ _ _ h => h) (Or.inl ⟨by rfl, ?_⟩) hH ?_
      rotate_left
      · (intro w hSw; (try dsimp only at hSw); go_simp; try (with_reducible rfl))
      simp only [Act.put, List.setIfInBounds_toArray, List.set_cons_zero, List.set_cons_succ]
      refine wpAnyH_take (i := 3) (oi := ⟨_, _, _, _, _, _⟩) (v := ?_) rfl (by kernel_rfl) (by kernel_rfl) (by kernel_rfl) (fun _ _ _ h => h) (Or.inl ⟨by rfl, ?_⟩) hH ?_
      rotate_left
      · (intro w hSw; (try dsimp only at hSw); go_simp; try (with_reducible rfl))
      simp only [Act.put, List.setIfInBounds_toArray, List.set_cons_zero, List.set_cons_succ]
      refine wpAnyH_take (i := 4) (oi := ⟨_, _, _, _, _, _⟩) (v := ?_) rfl (by kernel_rfl) (by kernel_rfl) (by kernel_rfl) (fun _ _ _ h => h) (Or.inl ⟨by rfl, ?_⟩) hH ?_
      rotate_left
      · (intro w hSw; (try dsimp only at hSw); go_simp; try (with_reducible rfl))
      simp only [Act.put, List.setIfInBounds_toArray, List.set_cons_zero, List.set_cons_succ]
      refine wpAnyH_take (i := 5) (oi := ⟨_, _, _, _, _, _⟩) (v := ?_) rfl (by kernel_rfl) (by kernel_rfl) (by kernel_rfl) (fun _ _ _ h => h) (Or.inl ⟨by rfl, ?_⟩) hH ?_
      rotate_left
      · (intro w hSw; (try dsimp only at hSw); go_simp; try (with_reducible rfl))
      simp only [Act.put, List.setIfInBounds_toArray, List.set_cons_zero, List.set_cons_succ]
      refine wpAnyH_ready (rs := [6]) (by kernel_rfl) (by simp) ?_
      refine AllReadyH.cons (o := ⟨_, _, _, _, _, _⟩) rfl (fun K hK => ?_) AllReadyH.nil
      go_simp
      refine (intD_any (p * q) _ (by have := HPQ.out; omega) (by have := HPQ.out; omega) (HT.out.next hB)).mono ?_
      rw [← HI.out]
      rintro e w5 ⟨iA, is, ic, rfl, his, hif, hc⟩
      replace hB := bnext hB hc
      clear hc
      go_wp2_with fail
      refine hK.out _ _ (HK.out _ hB) (fun hH => ?_)
      clear hK K
      refine wpAnyH_ready (rs := [7]) (by kernel_rfl) (by simp) ?_
      refine AllReadyH.cons (o := ⟨_, _, _, _, _, _⟩) rfl (fun K hK => ?_) AllReadyH.nil
      go_simp
      refine (requal_any rn rn rA iA rs rc is ic rl rl re re _ (vr.sl.below hB) his).mono ?_
      rw [eqD_self]
      rintro e w6 ⟨rfl, hc⟩
      replace hB := bnext hB hc
      clear hc
      go_wp2_with fail
      refine hK.out _ _ (HK.out _ hB) (fun hH => ?_)
      clear hK K
      refine wpAnyH_take (i := 8) (oi := ⟨_, _, _, _, _, _⟩) (v := ?_) rfl (by kernel_rfl) (by kernel_rfl) (by kernel_rfl) (fun _ _ _ h => h) (Or.inl ⟨by rfl, ?_⟩) hH ?_
      rotate_left
      · (intro w hSw; (try dsimp only at hSw); go_simp; try (with_reducible rfl))
      simp only [Act.put, List.setIfInBounds_toArray, List.set_cons_zero, List.set_cons_succ]
      refine wpAnyH_take (i := 9) (oi := ⟨_, _, _, _, _, _⟩) (v := ?_) rfl (by kernel_rfl) (by kernel_rfl) (by kernel_rfl) (fun _ _ _ h => h) (Or.inl ⟨by rfl, ?_⟩) hH ?_
      rotate_left
      · (intro w hSw; (try dsimp only at hSw); go_simp; try (with_reducible rfl))
      simp only [Act.put, List.setIfInBounds_toArray, List.set_cons_zero, List.set_cons_succ]
      refine wpAnyH_done (by kernel_rfl) ?_ _
      clear hH HK
      replace vx := vx.next hB
      replace vy := vy.next hB
      replace vr := vr.next hB
      replace kf := kf.below hB kf.lt
      replace kc := kc.below hB kc.lt
      replace hbw := bnext hbw hB
      replace HT := Lib.hid (HT.out.next hB)
      clear hB
      go_wp2_with fail
      go_roundw
      case rel => exact ⟨2 + 1, by omega, by go_num, vx, vy, kf, HT.out, hbw⟩
      case measure => simp [intOf]
    · obtain ⟨⟨zn, zl, ze⟩, hz⟩ : ∃ d, d = intD (p * 2 ^ n) := ⟨_, rfl⟩
      have HZ : Hid (scaleD ⟨xn, xl, xe⟩ (n : Int) = (⟨zn, zl, ze⟩, 0)) := by unfold Hid; rw [Hx.out, hz]; exact int_scale hp1 hp2 hn
      have hLz : zl.length ≤ 256 := vld_short (d := ⟨zn, zl, ze⟩) (by rw [hz]; exact vld_int (by have := HPN.out; omega))
      have HI := Lib.hid hz
      clear hz
      have HC : Hid (cmpD ⟨xn, xl, xe⟩ ⟨yn, yl, ye⟩ = cmpI p q) := by unfold Hid; rw [Hx.out, Hy.out]; exact int_cmp hp1 hp2 hq1 hq2
      obtain ⟨xq0, xq1, xq2⟩ := vx.cells
      go_wp2_with fail
      clear xq0 xq1 xq2
      refine (scaleD_any xn xA xs xc xl xe n _ vx.sl HT.out (by omega)).mono ?_
      rw [HZ.out]
      rintro e w4 ⟨zA, zs, zc, rfl, hsz, hfz, hbz⟩
      dsimp only at hsz
      clear hfz
      have hbz2 := bnext hbz (ballo w4 (.cells #[.bool zn, .slice zA zs zc, .int .i64 ze] 27))
      have vz := Var.new w4 zn ze hsz
      have hmz : zs ≤ 300 := by rw [← hsz.len]; omega
      replace vx := vx.next hbz2
      replace vy := vy.next hbz2
      replace kf := kf.below hbz2 kf.lt
      replace hbw := bnext hbw hbz2
      replace HT := Lib.hid (HT.out.next hbz2)
      clear hbz hbz2 hsz
      rcases cmpI_cases p q with ⟨hlt, hc⟩ | ⟨hlt, hc⟩ | ⟨hlt, hc⟩
      · rw [hc] at HC
        clear hc
        go_wp2_with fail
        generalize w4.alloc (.cells #[.bool zn, .slice zA zs zc, .int .i64 ze] 27) = W4 at *
        generalize w4.heap.size = gz at *
        have HK : Hid (∀ V, Below W4.heap.size W4 V → (fun V => (V.cell? ⟨gx, 0, none⟩ = some (.bool xn) ∧ V.cell? ⟨gx, 1, none⟩ = some (.slice xA xs xc) ∧ V.cell? ⟨gx, 2, none⟩ = some (.int .i64 xe)) ∧ (V.cell? ⟨gy, 0, none⟩ = some (.bool yn) ∧ V.cell? ⟨gy, 1, none⟩ = some (.slice yA ys yc) ∧ V.cell? ⟨gy, 2, none⟩ = some (.int .i64 ye)) ∧ (V.cell? ⟨gz, 0, none⟩ = some (.bool zn) ∧ V.cell? ⟨gz, 1, none⟩ = some (.slice zA zs zc) ∧ V.cell? ⟨gz, 2, none⟩ = some (.int .i64 ze)) ∧ Below W4.heap.size W4 V) V) := fun V hV => ⟨vx.keep V hV, vy.keep V hV, vz.keep V hV, hV⟩
        have hB := bdrew W4
        refine wp_region_held_drew (S := (fun V => (V.cell? ⟨gx, 0, none⟩ = some (.bool xn) ∧ V.cell? ⟨gx, 1, none⟩ = some (.slice xA xs xc) ∧ V.cell? ⟨gx, 2, none⟩ = some (.int .i64 xe)) ∧ (V.cell? ⟨gy, 0, none⟩ = some (.bool yn) ∧ V.cell? ⟨gy, 1, none⟩ = some (.slice yA ys yc) ∧ V.cell? ⟨gy, 2, none⟩ = some (.int .i64 ye)) ∧ (V.cell? ⟨gz, 0, none⟩ = some (.bool zn) ∧ V.cell? ⟨gz, 1, none⟩ = some (.slice zA zs zc) ∧ V.cell? ⟨gz, 2, none⟩ = some (.int .i64 ze)) ∧ Below W4.heap.size W4 V)) (by kernel_rfl) (HK.out _ hB) (fun hH => ?_)
        refine wpAnyH_take (i := 0) (oi := ⟨_, _, _, _, _, _⟩) (v := ?_) rfl (by kernel_rfl) (by kernel_rfl) (by kernel_rfl) (fun _ _ _ h => h) (Or.inl ⟨by rfl, ?_⟩) hH ?_
        rotate_left
        · (intro w hSw; (try dsimp only at hSw); go_simp; try (with_reducible rfl))
        simp only [Act.put, List.setIfInBounds_toArray, List.set_cons_zero, List.set_cons_succ]
        refine wpAnyH_take (i := 1) (oi := ⟨_, _, _, _, _, _⟩) (v := ?_) rfl (by kernel_rfl) (by kernel_rfl) (by kernel_rfl) (fun _ _ _ h => h) (Or.inl ⟨by rfl, ?_⟩) hH ?_
        rotate_left
        · (intro w hSw; (try dsimp only at hSw); go_simp; try (with_reducible rfl))
        simp only [Act.put, List.setIfInBounds_toArray, List.set_cons_zero, List.set_cons_succ]
        refine wpAnyH_take (i := 2) (oi := ⟨_, _, _, _, _, _⟩) (v := ?_) rfl (by kernel_rfl) (by kernel_rfl) (by kernel_rfl) (fun _ _ _ h => h) (Or.inl ⟨by rfl, ?_⟩) hH ?_
        rotate_left
        · (intro w hSw; (try dsimp only at hSw); go_simp; try (with_reducible rfl))
        simp only [Act.put, List.setIfInBounds_toArray, List.set_cons_zero, List.set_cons_succ]
        refine wpAnyH_take (i := 3) (oi := ⟨_, _, _, _, _, _⟩) (v := ?_) rfl (by kernel_rfl) (by kernel_rfl) (by kernel_rfl) (fun _ _ _ h => h) (Or.inl ⟨by rfl, ?_⟩) hH ?_
        rotate_left
        · (intro w hSw; (try dsimp only at hSw); go_simp; try (with_reducible rfl))
        simp only [Act.put, List.setIfInBounds_toArray, List.set_cons_zero, List.set_cons_succ]
        refine wpAnyH_take (i := 4) (oi := ⟨_, _, _, _, _, _⟩) (v := ?_) rfl (by kernel_rfl) (by kernel_rfl) (by kernel_rfl) (fun _ _ _ h => h) (Or.inl ⟨by rfl, ?_⟩) hH ?_
        rotate_left
        · (intro w hSw; (try dsimp only at hSw); go_simp; try (with_reducible rfl))
        simp only [Act.put, List.setIfInBounds_toArray, List.set_cons_zero, List.set_cons_succ]
        refine wpAnyH_take (i := 5) (oi := ⟨_, _, _, _, _, _⟩) (v := ?_) rfl (by kernel_rfl) (by kernel_rfl) (by kernel_rfl) (fun _ _ _ h => h) (Or.inl ⟨by rfl, ?_⟩) hH ?_
        rotate_left
        · (intro w hSw; (try dsimp only at hSw); go_simp; try (with_reducible rfl))
        simp only [Act.put, List.setIfInBounds_toArray, List.set_cons_zero, List.set_cons_succ]
        refine wpAnyH_take (i := 6) (oi := ⟨_, _, _, _, _, _⟩) (v := ?_) rfl (by kernel_rfl) (by kernel_rfl) (by kernel_rfl) (fun _ _ _ h => h) (Or.inl ⟨by rfl, ?_⟩) hH ?_
        rotate_left
        · (intro w hSw; (try dsimp only at hSw); go_simp; try (with_reducible rfl))
        simp only [Act.put, List.setIfInBounds_toArray, List.set_cons_zero, List.set_cons_succ]
        refine wpAnyH_take (i := 7) (oi := ⟨_, _, _, _, _, _⟩) (v := ?_) rfl (by kernel_rfl) (by kernel_rfl) (by kernel_rfl) (fun _ _ _ h => h) (Or.inl ⟨by rfl, ?_⟩) hH ?_
        rotate_left
        · (intro w hSw; (try dsimp only at hSw); go_simp; try (with_reducible rfl))
        simp only [Act.put, List.setIfInBounds_toArray, List.set_cons_zero, List.set_cons_succ]
        refine wpAnyH_ready (rs := [8]) (by kernel_rfl) (by simp) ?_
        refine AllReadyH.cons (o := ⟨_, _, _, _, _, _⟩) rfl (fun K hK => ?_) AllReadyH.nil
        go_simp
        refine (intD_any (p * 2 ^ n) _ (by have := HPN.out; omega) (by have := HPN.out; omega) (HT.out.next hB)).mono ?_
        rw [← HI.out]
        rintro e w5 ⟨iA, is, ic, rfl, his, hif, hc⟩
        replace hB := bnext hB hc
        clear hc
        go_wp2_with fail
        refine hK.out _ _ (HK.out _ hB) (fun hH => ?_)
        clear hK K
        refine wpAnyH_ready (rs := [9]) (by kernel_rfl) (by simp) ?_
        refine AllReadyH.cons (o := ⟨_, _, _, _, _, _⟩) rfl (fun K hK => ?_) AllReadyH.nil
        go_simp
        refine (requal_any zn zn zA iA zs zc is ic zl zl ze ze _ (vz.sl.below hB) his).mono ?_
        rw [eqD_self]
        rintro e w6 ⟨rfl, hc⟩
        replace hB := bnext hB hc
        clear hc
        go_wp2_with fail
        refine hK.out _ _ (HK.out _ hB) (fun hH => ?_)
        clear hK K
        refine wpAnyH_take (i := 10) (oi := ⟨_, _, _, _, _, _⟩) (v := ?_) rfl (by kernel_rfl) (by kernel_rfl) (by kernel_rfl) (fun _ _ _ h => h) (Or.inl ⟨by rfl, ?_⟩) hH ?_
        rotate_left
        · (intro w hSw; (try dsimp only at hSw); go_simp; try (with_reducible rfl))
        simp only [Act.put, List.setIfInBounds_toArray, List.set_cons_zero, List.set_cons_succ]
        refine wpAnyH_take (i := 11) (oi := ⟨_, _, _, _, _, _⟩) (v := ?_) rfl (by kernel_rfl) (by kernel_rfl) (by kernel_rfl) (fun _ _ _ h => h) (Or.inl ⟨by rfl, ?_⟩) hH ?_
        rotate_left
        · (intro w hSw; (try dsimp only at hSw); go_simp; try (with_reducible rfl))
        simp only [Act.put, List.setIfInBounds_toArray, List.set_cons_zero, List.set_cons_succ]
        refine wpAnyH_take (i := 12) (oi := ⟨_, _, _, _, _, _⟩) (v := ?_) rfl (by kernel_rfl) (by kernel_rfl) (by kernel_rfl) (fun _ _ _ h => h) (Or.inl ⟨by rfl, ?_⟩) hH ?_
        rotate_left
        · (intro w hSw; (try dsimp only at hSw); go_simp; try (with_reducible rfl))
        simp only [Act.put, List.setIfInBounds_toArray, List.set_cons_zero, List.set_cons_succ]
        refine wpAnyH_take (i := 13) (oi := ⟨_, _, _, _, _, _⟩) (v := ?_) rfl (by kernel_rfl) (by kernel_rfl) (by kernel_rfl) (fun _ _ _ h => h) (Or.inl ⟨by rfl, ?_⟩) hH ?_
        rotate_left
        · (intro w hSw; (try dsimp only at hSw); go_simp; try (with_reducible rfl))
        simp only [Act.put, List.setIfInBounds_toArray, List.set_cons_zero, List.set_cons_succ]
        refine wpAnyH_take (i := 15) (oi := ⟨_, _, _, _, _, _⟩) (v := ?_) rfl (by kernel_rfl) (by kernel_rfl) (by kernel_rfl) (fun _ _ _ h => h) (Or.inl ⟨by rfl, ?_⟩) hH ?_
        rotate_left
        · (intro w hSw; (try dsimp only at hSw); go_simp; try (with_reducible rfl))
        simp only [Act.put, List.setIfInBounds_toArray, List.set_cons_zero, List.set_cons_succ]
        refine wpAnyH_ready (rs := [14]) (by kernel_rfl) (by simp) ?_
        refine AllReadyH.cons (o := ⟨_, _, _, _, _, _⟩) rfl (fun K hK => ?_) AllReadyH.nil
        go_simp
        refine (cmpD_any xn yn xA yA xs xc ys yc xl yl xe ye _ (vx.sl.below hB) (vy.sl.below hB) (by omega) (by omega)).mono ?_
        rw [HC.out]
        rintro e w7 ⟨rfl, hc⟩
        replace hB := bnext hB hc
        clear hc
        go_wp2_with fail
        refine hK.out _ _ (HK.out _ hB) (fun hH => ?_)
        clear hK K
        refine wpAnyH_take (i := 16) (oi := ⟨_, _, _, _, _, _⟩) (v := ?_) rfl (by kernel_rfl) (by kernel_rfl) (by kernel_rfl) (fun _ _ _ h => h) (Or.inl ⟨by rfl, ?_⟩) hH ?_
        rotate_left
        · (intro w hSw; (try dsimp only at hSw); go_simp; try (with_reducible rfl))
        simp only [Act.put, List.setIfInBounds_toArray, List.set_cons_zero, List.set_cons_succ]
        refine wpAnyH_take (i := 17) (oi := ⟨_, _, _, _, _, _⟩) (v := ?_) rfl (by kernel_rfl) (by kernel_rfl) (by kernel_rfl) (fun _ _ _ h => h) (Or.inl ⟨by rfl, ?_⟩) hH ?_
        rotate_left
        · (intro w hSw; (try dsimp only at hSw); go_simp; try (with_reducible rfl))
        simp only [Act.put, List.setIfInBounds_toArray, List.set_cons_zero, List.set_cons_succ]
        refine wpAnyH_take (i := 18) (oi := ⟨_, _, _, _, _, _⟩) (v := ?_) rfl (by kernel_rfl) (by kernel_rfl) (by kernel_rfl) (fun _ _ _ h => h) (Or.inl ⟨by rfl, ?_⟩) hH ?_
        rotate_left
        · (intro w hSw; (try dsimp only at hSw); go_simp; try (with_reducible rfl))
        simp only [Act.put, List.setIfInBounds_toArray, List.set_cons_zero, List.set_cons_succ]
        refine wpAnyH_done (by kernel_rfl) ?_ _
        clear hH HK
        replace vx := vx.next hB
        replace vy := vy.next hB
        replace vz := vz.next hB
        replace kf := kf.below hB kf.lt
        replace hbw := bnext hbw hB
        replace HT := Lib.hid (HT.out.next hB)
        clear hB
        go_wp2_with fail
        go_ret
        exact ⟨rfl, hbw⟩
      · rw [hc] at HC
        clear hc
        have hle : ¬ p < q := by omega
        go_wp2_with fail
        generalize w4.alloc (.cells #[.bool zn, .slice zA zs zc, .int .i64 ze] 27) = W4 at *
        generalize w4.heap.size = gz at *
        have HK : Hid (∀ V, Below W4.heap.size W4 V → (fun V => (V.cell? ⟨gx, 0, none⟩ = some (.bool xn) ∧ V.cell? ⟨gx, 1, none⟩ = some (.slice xA xs xc) ∧ V.cell? ⟨gx, 2, none⟩ = some (.int .i64 xe)) ∧ (V.cell? ⟨gy, 0, none⟩ = some (.bool yn) ∧ V.cell? ⟨gy, 1, none⟩ = some (.slice yA ys yc) ∧ V.cell? ⟨gy, 2, none⟩ = some (.int .i64 ye)) ∧ (V.cell? ⟨gz, 0, none⟩ = some (.bool zn) ∧ V.cell? ⟨gz, 1, none⟩ = some (.slice zA zs zc) ∧ V.cell? ⟨gz, 2, none⟩ = some (.int .i64 ze)) ∧ Below W4.heap.size W4 V) V) := fun V hV => ⟨vx.keep V hV, vy.keep V hV, vz.keep V hV, hV⟩
        have hB := bdrew W4
        refine wp_region_held_drew (S := (fun V => (V.cell? ⟨gx, 0, none⟩ = some (.bool xn) ∧ V.cell? ⟨gx, 1, none⟩ = some (.slice xA xs xc) ∧ V.cell? ⟨gx, 2, none⟩ = some (.int .i64 xe)) ∧ (V.cell? ⟨gy, 0, none⟩ = some (.bool yn) ∧ V.cell? ⟨gy, 1, none⟩ = some (.slice yA ys yc) ∧ V.cell? ⟨gy, 2, none⟩ = some (.int .i64 ye)) ∧ (V.cell? ⟨gz, 0, none⟩ = some (.bool zn) ∧ V.cell? ⟨gz, 1, none⟩ = some (.slice zA zs zc) ∧ V.cell? ⟨gz, 2, none⟩ = some (.int .i64 ze)) ∧ Below W4.heap.size W4 V)) (by kernel_rfl) (HK.out _ hB) (fun hH => ?_)
        refine wpAnyH_take (i := 0) (oi := ⟨_, _, _, _, _, _⟩) (v := ?_) rfl (by kernel_rfl) (by kernel_rfl) (by kernel_rfl) (fun _ _ _ h => h) (Or.inl ⟨by rfl, ?_⟩) hH ?_
        rotate_left
        · (intro w hSw; (try dsimp only at hSw); go_simp; try (with_reducible rfl))
        simp only [Act.put, List.setIfInBounds_toArray, List.set_cons_zero, List.set_cons_succ]
        refine wpAnyH_take (i := 1) (oi := ⟨_, _, _, _, _, _⟩) (v := ?_) rfl (by kernel_rfl) (by kernel_rfl) (by kernel_rfl) (fun _ _ _ h => h) (Or.inl ⟨by rfl, ?_⟩) hH ?_
        rotate_left
        · (intro w hSw; (try dsimp only at hSw); go_simp; try (with_reducible rfl))
        simp only [Act.put, List.setIfInBounds_toArray, List.set_cons_zero, List.set_cons_succ]
        refine wpAnyH_take (i := 2) (oi := ⟨_, _, _, _, _, _⟩) (v := ?_) rfl (by kernel_rfl) (by kernel_rfl) (by kernel_rfl) (fun _ _ _ h => h) (Or.inl ⟨by rfl, ?_⟩) hH ?_
        rotate_left
        · (intro w hSw; (try dsimp only at hSw); go_simp; try (with_reducible rfl))
        simp only [Act.put, List.setIfInBounds_toArray, List.set_cons_zero, List.set_cons_succ]
        refine wpAnyH_take (i := 3) (oi := ⟨_, _, _, _, _, _⟩) (v := ?_) rfl (by kernel_rfl) (by kernel_rfl) (by kernel_rfl) (fun _ _ _ h => h) (Or.inl ⟨by rfl, ?_⟩) hH ?_
        rotate_left
        · (intro w hSw; (try dsimp only at hSw); go_simp; try (with_reducible rfl))
        simp only [Act.put, List.setIfInBounds_toArray, List.set_cons_zero, List.set_cons_succ]
        refine wpAnyH_take (i := 4) (oi := ⟨_, _, _, _, _, _⟩) (v := ?_) rfl (by kernel_rfl) (by kernel_rfl) (by kernel_rfl) (fun _ _ _ h => h) (Or.inl ⟨by rfl, ?_⟩) hH ?_
        rotate_left
        · (intro w hSw; (try dsimp only at hSw); go_simp; try (with_reducible rfl))
        simp only [Act.put, List.setIfInBounds_toArray, List.set_cons_zero, List.set_cons_succ]
        refine wpAnyH_take (i := 5) (oi := ⟨_, _, _, _, _, _⟩) (v := ?_) rfl (by kernel_rfl) (by kernel_rfl) (by kernel_rfl) (fun _ _ _ h => h) (Or.inl ⟨by rfl, ?_⟩) hH ?_
        rotate_left
        · (intro w hSw; (try dsimp only at hSw); go_simp; try (with_reducible rfl))
        simp only [Act.put, List.setIfInBounds_toArray, List.set_cons_zero, List.set_cons_succ]
        refine wpAnyH_take (i := 6) (oi := ⟨_, _, _, _, _, _⟩) (v := ?_) rfl (by kernel_rfl) (by kernel_rfl) (by kernel_rfl) (fun _ _ _ h => h) (Or.inl ⟨by rfl, ?_⟩) hH ?_
        rotate_left
        · (intro w hSw; (try dsimp only at hSw); go_simp; try (with_reducible rfl))
        simp only [Act.put, List.setIfInBounds_toArray, List.set_cons_zero, List.set_cons_succ]
        refine wpAnyH_take (i := 7) (oi := ⟨_, _, _, _, _, _⟩) (v := ?_) rfl (by kernel_rfl) (by kernel_rfl) (by kernel_rfl) (fun _ _ _ h => h) (Or.inl ⟨by rfl, ?_⟩) hH ?_
        rotate_left
        · (intro w hSw; (try dsimp only at hSw); go_simp; try (with_reducible rfl))
        simp only [Act.put, List.setIfInBounds_toArray, List.set_cons_zero, List.set_cons_succ]
        refine wpAnyH_ready (rs := [8]) (by kernel_rfl) (by simp) ?_
        refine AllReadyH.cons (o := ⟨_, _, _, _, _, _⟩) rfl (fun K hK => ?_) AllReadyH.nil
        go_simp
        refine (intD_any (p * 2 ^ n) _ (by have := HPN.out; omega) (by have := HPN.out; omega) (HT.out.next hB)).mono ?_
        rw [← HI.out]
        rintro e w5 ⟨iA, is, ic, rfl, his, hif, hc⟩
        replace hB := bnext hB hc
        clear hc
        go_wp2_with fail
        refine hK.out _ _ (HK.out _ hB) (fun hH => ?_)
        clear hK K
        refine wpAnyH_ready (rs := [9]) (by kernel_rfl) (by simp) ?_
        refine AllReadyH.cons (o := ⟨_, _, _, _, _, _⟩) rfl (fun K hK => ?_) AllReadyH.nil
        go_simp
        refine (requal_any zn zn zA iA zs zc is ic zl zl ze ze _ (vz.sl.below hB) his).mono ?_
        rw [eqD_self]
        rintro e w6 ⟨rfl, hc⟩
        replace hB := bnext hB hc
        clear hc
        go_wp2_with fail
        refine hK.out _ _ (HK.out _ hB) (fun hH => ?_)
        clear hK K
        refine wpAnyH_take (i := 10) (oi := ⟨_, _, _, _, _, _⟩) (v := ?_) rfl (by kernel_rfl) (by kernel_rfl) (by kernel_rfl) (fun _ _ _ h => h) (Or.inl ⟨by rfl, ?_⟩) hH ?_
        rotate_left
        · (intro w hSw; (try dsimp only at hSw); go_simp; try (with_reducible rfl))
        simp only [Act.put, List.setIfInBounds_toArray, List.set_cons_zero, List.set_cons_succ]
        refine wpAnyH_take (i := 11) (oi := ⟨_, _, _, _, _, _⟩) (v := ?_) rfl (by kernel_rfl) (by kernel_rfl) (by kernel_rfl) (fun _ _ _ h => h) (Or.inl ⟨by rfl, ?_⟩) hH ?_
        rotate_left
        · (intro w hSw; (try dsimp only at hSw); go_simp; try (with_reducible rfl))
        simp only [Act.put, List.setIfInBounds_toArray, List.set_cons_zero, List.set_cons_succ]
        refine wpAnyH_take (i := 12) (oi := ⟨_, _, _, _, _, _⟩) (v := ?_) rfl (by kernel_rfl) (by kernel_rfl) (by kernel_rfl) (fun _ _ _ h => h) (Or.inl ⟨by rfl, ?_⟩) hH ?_
        rotate_left
        · (intro w hSw; (try dsimp only at hSw); go_simp; try (with_reducible rfl))
        simp only [Act.put, List.setIfInBounds_toArray, List.set_cons_zero, List.set_cons_succ]
        refine wpAnyH_take (i := 13) (oi := ⟨_, _, _, _, _, _⟩) (v := ?_) rfl (by kernel_rfl) (by kernel_rfl) (by kernel_rfl) (fun _ _ _ h => h) (Or.inl ⟨by rfl, ?_⟩) hH ?_
        rotate_left
        · (intro w hSw; (try dsimp only at hSw); go_simp; try (with_reducible rfl))
        simp only [Act.put, List.setIfInBounds_toArray, List.set_cons_zero, List.set_cons_succ]
        refine wpAnyH_take (i := 15) (oi := ⟨_, _, _, _, _, _⟩) (v := ?_) rfl (by kernel_rfl) (by kernel_rfl) (by kernel_rfl) (fun _ _ _ h => h) (Or.inl ⟨by rfl, ?_⟩) hH ?_
        rotate_left
        · (intro w hSw; (try dsimp only at hSw); go_simp; try (with_reducible rfl))
        simp only [Act.put, List.setIfInBounds_toArray, List.set_cons_zero, List.set_cons_succ]
        refine wpAnyH_ready (rs := [14]) (by kernel_rfl) (by simp) ?_
        refine AllReadyH.cons (o := ⟨_, _, _, _, _, _⟩) rfl (fun K hK => ?_) AllReadyH.nil
        go_simp
        refine (cmpD_any xn yn xA yA xs xc ys yc xl yl xe ye _ (vx.sl.below hB) (vy.sl.below hB) (by omega) (by omega)).mono ?_
        rw [HC.out]
        rintro e w7 ⟨rfl, hc⟩
        replace hB := bnext hB hc
        clear hc
        go_wp2_with fail
        refine hK.out _ _ (HK.out _ hB) (fun hH => ?_)
        clear hK K
        refine wpAnyH_take (i := 16) (oi := ⟨_, _, _, _, _, _⟩) (v := ?_) rfl (by kernel_rfl) (by kernel_rfl) (by kernel_rfl) (fun _ _ _ h => h) (Or.inl ⟨by rfl, ?_⟩) hH ?_
        rotate_left
        · (intro w hSw; (try dsimp only at hSw); go_simp; try (with_reducible rfl))
        simp only [Act.put, List.setIfInBounds_toArray, List.set_cons_zero, List.set_cons_succ]
        refine wpAnyH_take (i := 17) (oi := ⟨_, _, _, _, _, _⟩) (v := ?_) rfl (by kernel_rfl) (by kernel_rfl) (by kernel_rfl) (fun _ _ _ h => h) (Or.inl ⟨by rfl, ?_⟩) hH ?_
        rotate_left
        · (intro w hSw; (try dsimp only at hSw); go_simp; try (with_reducible rfl))
        simp only [Act.put, List.setIfInBounds_toArray, List.set_cons_zero, List.set_cons_succ]
        refine wpAnyH_take (i := 18) (oi := ⟨_, _, _, _, _, _⟩) (v := ?_) rfl (by kernel_rfl) (by kernel_rfl) (by kernel_rfl) (fun _ _ _ h => h) (Or.inl ⟨by rfl, ?_⟩) hH ?_
        rotate_left
        · (intro w hSw; (try dsimp only at hSw); go_simp; try (with_reducible rfl))
        simp only [Act.put, List.setIfInBounds_toArray, List.set_cons_zero, List.set_cons_succ]
        refine wpAnyH_done (by kernel_rfl) ?_ _
        clear hH HK
        replace vx := vx.next hB
        replace vy := vy.next hB
        replace vz := vz.next hB
        replace kf := kf.below hB kf.lt
        replace hbw := bnext hbw hB
        replace HT := Lib.hid (HT.out.next hB)
        clear hB
        go_wp2_with fail
        go_ret
        exact ⟨rfl, hbw⟩
      · rw [hc] at HC
        clear hc
        have hl1 : ¬ p < q := by omega
        have hl2 : ¬ q < p := by omega
        clear hlt
        go_wp2_with fail
        generalize w4.alloc (.cells #[.bool zn, .slice zA zs zc, .int .i64 ze] 27) = W4 at *
        generalize w4.heap.size = gz at *
        have HK : Hid (∀ V, Below W4.heap.size W4 V → (fun V => (V.cell? ⟨gx, 0, none⟩ = some (.bool xn) ∧ V.cell? ⟨gx, 1, none⟩ = some (.slice xA xs xc) ∧ V.cell? ⟨gx, 2, none⟩ = some (.int .i64 xe)) ∧ (V.cell? ⟨gy, 0, none⟩ = some (.bool yn) ∧ V.cell? ⟨gy, 1, none⟩ = some (.slice yA ys yc) ∧ V.cell? ⟨gy, 2, none⟩ = some (.int .i64 ye)) ∧ (V.cell? ⟨gz, 0, none⟩ = some (.bool zn) ∧ V.cell? ⟨gz, 1, none⟩ = some (.slice zA zs zc) ∧ V.cell? ⟨gz, 2, none⟩ = some (.int .i64 ze)) ∧ Below W4.heap.size W4 V) V) := fun V hV => ⟨vx.keep V hV, vy.keep V hV, vz.keep V hV, hV⟩
        have hB := bdrew W4
        refine wp_region_held_drew (S := (fun V => (V.cell? ⟨gx, 0, none⟩ = some (.bool xn) ∧ V.cell? ⟨gx, 1, none⟩ = some (.slice xA xs xc) ∧ V.cell? ⟨gx, 2, none⟩ = some (.int .i64 xe)) ∧ (V.cell? ⟨gy, 0, none⟩ = some (.bool yn) ∧ V.cell? ⟨gy, 1, none⟩ = some (.slice yA ys yc) ∧ V.cell? ⟨gy, 2, none⟩ = some (.int .i64 ye)) ∧ (V.cell? ⟨gz, 0, none⟩ = some (.bool zn) ∧ V.cell? ⟨gz, 1, none⟩ = some (.slice zA zs zc) ∧ V.cell? ⟨gz, 2, none⟩ = some (.int .i64 ze)) ∧ Below W4.heap.size W4 V)) (by kernel_rfl) (HK.out _ hB) (fun hH => ?_)
        refine wpAnyH_take (i := 0) (oi := ⟨_, _, _, _, _, _⟩) (v := ?_) rfl (by kernel_rfl) (by kernel_rfl) (by kernel_rfl) (fun _ _ _ h => h) (Or.inl ⟨by rfl, ?_⟩) hH ?_
        rotate_left
        · (intro w hSw; (try dsimp only at hSw); go_simp; try (with_reducible rfl))
        simp only [Act.put, List.setIfInBounds_toArray, List.set_cons_zero, List.set_cons_succ]
        refine wpAnyH_take (i := 1) (oi := ⟨_, _, _, _, _, _⟩) (v := ?_) rfl (by kernel_rfl) (by kernel_rfl) (by kernel_rfl) (fun _ _ _ h => h) (Or.inl ⟨by rfl, ?_⟩) hH ?_
        rotate_left
        · (intro w hSw; (try dsimp only at hSw); go_simp; try (with_reducible rfl))
        simp only [Act.put, List.setIfInBounds_toArray, List.set_cons_zero, List.set_cons_succ]
        refine wpAnyH_take (i := 2) (oi := ⟨_, _, _, _, _, _⟩) (v := ?_) rfl (by kernel_rfl) (by kernel_rfl) (by kernel_rfl) (fun _ _ _ h => h) (Or.inl ⟨by rfl, ?_⟩) hH ?_
        rotate_left
        · (intro w hSw; (try dsimp only at hSw); go_simp; try (with_reducible rfl))
        simp only [Act.put, List.setIfInBounds_toArray, List.set_cons_zero, List.set_cons_succ]
        refine wpAnyH_take (i := 3) (oi := ⟨_, _, _, _, _, _⟩) (v := ?_) rfl (by kernel_rfl) (by kernel_rfl) (by kernel_rfl) (fun _ _ _ h => h) (Or.inl ⟨by rfl, ?_⟩) hH ?_
        rotate_left
        · (intro w hSw; (try dsimp only at hSw); go_simp; try (with_reducible rfl))
        simp only [Act.put, List.setIfInBounds_toArray, List.set_cons_zero, List.set_cons_succ]
        refine wpAnyH_take (i := 4) (oi := ⟨_, _, _, _, _, _⟩) (v := ?_) rfl (by kernel_rfl) (by kernel_rfl) (by kernel_rfl) (fun _ _ _ h => h) (Or.inl ⟨by rfl, ?_⟩) hH ?_
        rotate_left
        · (intro w hSw; (try dsimp only at hSw); go_simp; try (with_reducible rfl))
        simp only [Act.put, List.setIfInBounds_toArray, List.set_cons_zero, List.set_cons_succ]
        refine wpAnyH_take (i := 5) (oi := ⟨_, _, _, _, _, _⟩) (v := ?_) rfl (by kernel_rfl) (by kernel_rfl) (by kernel_rfl) (fun _ _ _ h => h) (Or.inl ⟨by rfl, ?_⟩) hH ?_
        rotate_left
        · (intro w hSw; (try dsimp only at hSw); go_simp; try (with_reducible rfl))
        simp only [Act.put, List.setIfInBounds_toArray, List.set_cons_zero, List.set_cons_succ]
        refine wpAnyH_take (i := 6) (oi := ⟨_, _, _, _, _, _⟩) (v := ?_) rfl (by kernel_rfl) (by kernel_rfl) (by kernel_rfl) (fun _ _ _ h => h) (Or.inl ⟨by rfl, ?_⟩) hH ?_
        rotate_left
        · (intro w hSw; (try dsimp only at hSw); go_simp; try (with_reducible rfl))
        simp only [Act.put, List.setIfInBounds_toArray, List.set_cons_zero, List.set_cons_succ]
        refine wpAnyH_take (i := 7) (oi := ⟨_, _, _, _, _, _⟩) (v := ?_) rfl (by kernel_rfl) (by kernel_rfl) (by kernel_rfl) (fun _ _ _ h => h) (Or.inl ⟨by rfl, ?_⟩) hH ?_
        rotate_left
        · (intro w hSw; (try dsimp only at hSw); go_simp; try (with_reducible rfl))
        simp only [Act.put, List.setIfInBounds_toArray, List.set_cons_zero, List.set_cons_succ]
        refine wpAnyH_ready (rs := [8]) (by kernel_rfl) (by simp) ?_
        refine AllReadyH.cons (o := ⟨_, _, _, _, _, _⟩) rfl (fun K hK => ?_) AllReadyH.nil
        go_simp
        refine (intD_any (p * 2 ^ n) _ (by have := HPN.out; omega) (by have := HPN.out; omega) (HT.out.next hB)).mono ?_
        rw [← HI.out]
        rintro e w5 ⟨iA, is, ic, rfl, his, hif, hc⟩
        replace hB := bnext hB hc
        clear hc
        go_wp2_with fail
        refine hK.out _ _ (HK.out _ hB) (fun hH => ?_)
        clear hK K
        refine wpAnyH_ready (rs := [9]) (by kernel_rfl) (by simp) ?_
        refine AllReadyH.cons (o := ⟨_, _, _, _, _, _⟩) rfl (fun K hK => ?_) AllReadyH.nil
        go_simp
        refine (requal_any zn zn zA iA zs zc is ic zl zl ze ze _ (vz.sl.below hB) his).mono ?_
        rw [eqD_self]
        rintro e w6 ⟨rfl, hc⟩
        replace hB := bnext hB hc
        clear hc
        go_wp2_with fail
        refine hK.out _ _ (HK.out _ hB) (fun hH => ?_)
        clear hK K
        refine wpAnyH_take (i := 10) (oi := ⟨_, _, _, _, _, _⟩) (v := ?_) rfl (by kernel_rfl) (by kernel_rfl) (by kernel_rfl) (fun _ _ _ h => h) (Or.inl ⟨by rfl, ?_⟩) hH ?_
        rotate_left
        · (intro w hSw; (try dsimp only at hSw); go_simp; try (with_reducible rfl))
        simp only [Act.put, List.setIfInBounds_toArray, List.set_cons_zero, List.set_cons_succ]
        refine wpAnyH_take (i := 11) (oi := ⟨_, _, _, _, _, _⟩) (v := ?_) rfl (by kernel_rfl) (by kernel_rfl) (by kernel_rfl) (fun _ _ _ h => h) (Or.inl ⟨by rfl, ?_⟩) hH ?_
        rotate_left
        · (intro w hSw; (try dsimp only at hSw); go_simp; try (with_reducible rfl))
        simp only [Act.put, List.setIfInBounds_toArray, List.set_cons_zero, List.set_cons_succ]
        refine wpAnyH_take (i := 12) (oi := ⟨_, _, _, _, _, _⟩) (v := ?_) rfl (by kernel_rfl) (by kernel_rfl) (by kernel_rfl) (fun _ _ _ h => h) (Or.inl ⟨by rfl, ?_⟩) hH ?_
        rotate_left
        · (intro w hSw; (try dsimp only at hSw); go_simp; try (with_reducible rfl))
        simp only [Act.put, List.setIfInBounds_toArray, List.set_cons_zero, List.set_cons_succ]
        refine wpAnyH_take (i := 13) (oi := ⟨_, _, _, _, _, _⟩) (v := ?_) rfl (by kernel_rfl) (by kernel_rfl) (by kernel_rfl) (fun _ _ _ h => h) (Or.inl ⟨by rfl, ?_⟩) hH ?_
        rotate_left
        · (intro w hSw; (try dsimp only at hSw); go_simp; try (with_reducible rfl))
        simp only [Act.put, List.setIfInBounds_toArray, List.set_cons_zero, List.set_cons_succ]
        refine wpAnyH_take (i := 15) (oi := ⟨_, _, _, _, _, _⟩) (v := ?_) rfl (by kernel_rfl) (by kernel_rfl) (by kernel_rfl) (fun _ _ _ h => h) (Or.inl ⟨by rfl, ?_⟩) hH ?_
        rotate_left
        · (intro w hSw; (try dsimp only at hSw); go_simp; try (with_reducible rfl))
        simp only [Act.put, List.setIfInBounds_toArray, List.set_cons_zero, List.set_cons_succ]
        refine wpAnyH_ready (rs := [14]) (by kernel_rfl) (by simp) ?_
        refine AllReadyH.cons (o := ⟨_, _, _, _, _, _⟩) rfl (fun K hK => ?_) AllReadyH.nil
        go_simp
        refine (cmpD_any xn yn xA yA xs xc ys yc xl yl xe ye _ (vx.sl.below hB) (vy.sl.below hB) (by omega) (by omega)).mono ?_
        rw [HC.out]
        rintro e w7 ⟨rfl, hc⟩
        replace hB := bnext hB hc
        clear hc
        go_wp2_with fail
        refine hK.out _ _ (HK.out _ hB) (fun hH => ?_)
        clear hK K
        refine wpAnyH_take (i := 16) (oi := ⟨_, _, _, _, _, _⟩) (v := ?_) rfl (by kernel_rfl) (by kernel_rfl) (by kernel_rfl) (fun _ _ _ h => h) (Or.inl ⟨by rfl, ?_⟩) hH ?_
        rotate_left
        · (intro w hSw; (try dsimp only at hSw); go_simp; try (with_reducible rfl))
        simp only [Act.put, List.setIfInBounds_toArray, List.set_cons_zero, List.set_cons_succ]
        refine wpAnyH_take (i := 17) (oi := ⟨_, _, _, _, _, _⟩) (v := ?_) rfl (by kernel_rfl) (by kernel_rfl) (by kernel_rfl) (fun _ _ _ h => h) (Or.inl ⟨by rfl, ?_⟩) hH ?_
        rotate_left
        · (intro w hSw; (try dsimp only at hSw); go_simp; try (with_reducible rfl))
        simp only [Act.put, List.setIfInBounds_toArray, List.set_cons_zero, List.set_cons_succ]
        refine wpAnyH_take (i := 18) (oi := ⟨_, _, _, _, _, _⟩) (v := ?_) rfl (by kernel_rfl) (by kernel_rfl) (by kernel_rfl) (fun _ _ _ h => h) (Or.inl ⟨by rfl, ?_⟩) hH ?_
        rotate_left
        · (intro w hSw; (try dsimp only at hSw); go_simp; try (with_reducible rfl))
        simp only [Act.put, List.setIfInBounds_toArray, List.set_cons_zero, List.set_cons_succ]
        refine wpAnyH_done (by kernel_rfl) ?_ _
        clear hH HK
        replace vx := vx.next hB
        replace vy := vy.next hB
        replace vz := vz.next hB
        replace kf := kf.below hB kf.lt
        replace hbw := bnext hbw hB
        replace HT := Lib.hid (HT.out.next hB)
        clear hB
        go_wp2_with fail
        go_ret
        exact ⟨rfl, hbw⟩

end Go.Proofs.YtjhokljoomeilaaDoor
