/- The law DyadicOrder: its walk. (Printed by gen_l9.py.) -/
import Derived.Test.YtjhokljoomeilaaDoorVar
namespace Go.Proofs.YtjhokljoomeilaaDoor
open Go.RowKit Pl Go.Shelf

set_option maxRecDepth 100000 in
set_option maxHeartbeats 16000000 in
theorem lorder_any (an : Bool) (aA : Option Addr) (aS ac : Nat) (al : List Nat) (ae : Int) (bn : Bool) (bA : Option Addr) (bs bc : Nat) (bl : List Nat) (be : Int) (cn : Bool) (cA : Option Addr) (cs cc : Nat) (cl : List Nat) (ce : Int) (w : World) (ha : SL w aA aS ac al) (hb : SL w bA bs bc bl) (hc : SL w cA cs cc cl) (ht : Tabs w) :
    Calls Tryd.prog 8 #[.agg #[.bool an, .slice aA aS ac, .int .i64 ae], .agg #[.bool bn, .slice bA bs bc, .int .i64 be], .agg #[.bool cn, .slice cA cs cc, .int .i64 ce]] w fun e w' => e = .returned (.bool true) ∧ Below w.heap.size w w' := by
  have HT := Lib.hid ht
  clear ht
  go_enter Tryd.func8, Tryd.ntmps8
  go_wp2_with fail
  have hbw := bnext (bnext (ballo w (.cells #[.bool an, .slice aA aS ac, .int .i64 ae] 27)) (ballo (w.alloc (.cells #[.bool an, .slice aA aS ac, .int .i64 ae] 27)) (.cells #[.bool bn, .slice bA bs bc, .int .i64 be] 27))) (ballo ((w.alloc (.cells #[.bool an, .slice aA aS ac, .int .i64 ae] 27)).alloc (.cells #[.bool bn, .slice bA bs bc, .int .i64 be] 27)) (.cells #[.bool cn, .slice cA cs cc, .int .i64 ce] 27))
  have va := ((Var.new w an ae ha).next (ballo (w.alloc (.cells #[.bool an, .slice aA aS ac, .int .i64 ae] 27)) (.cells #[.bool bn, .slice bA bs bc, .int .i64 be] 27))).next (ballo ((w.alloc (.cells #[.bool an, .slice aA aS ac, .int .i64 ae] 27)).alloc (.cells #[.bool bn, .slice bA bs bc, .int .i64 be] 27)) (.cells #[.bool cn, .slice cA cs cc, .int .i64 ce] 27))
  have vb := (Var.newAt (w.alloc (.cells #[.bool an, .slice aA aS ac, .int .i64 ae] 27)) bn be (g := w.heap.size + 1) (by simp) (hb.below (ballo w (.cells #[.bool an, .slice aA aS ac, .int .i64 ae] 27)))).next (ballo ((w.alloc (.cells #[.bool an, .slice aA aS ac, .int .i64 ae] 27)).alloc (.cells #[.bool bn, .slice bA bs bc, .int .i64 be] 27)) (.cells #[.bool cn, .slice cA cs cc, .int .i64 ce] 27))
  have vc := Var.newAt ((w.alloc (.cells #[.bool an, .slice aA aS ac, .int .i64 ae] 27)).alloc (.cells #[.bool bn, .slice bA bs bc, .int .i64 be] 27)) cn ce (g := w.heap.size + 1 + 1) (by simp) (hc.below (bnext (ballo w (.cells #[.bool an, .slice aA aS ac, .int .i64 ae] 27)) (ballo (w.alloc (.cells #[.bool an, .slice aA aS ac, .int .i64 ae] 27)) (.cells #[.bool bn, .slice bA bs bc, .int .i64 be] 27))))
  replace HT := Lib.hid (HT.out.next hbw)
  generalize ((w.alloc (.cells #[.bool an, .slice aA aS ac, .int .i64 ae] 27)).alloc (.cells #[.bool bn, .slice bA bs bc, .int .i64 be] 27)).alloc (.cells #[.bool cn, .slice cA cs cc, .int .i64 ce] 27) = W0 at *
  go_wp2_with fail
  refine (awake_any _ HT.out).mono ?_
  rintro e w1 ⟨rfl, hb1⟩
  replace va := va.next hb1
  replace vb := vb.next hb1
  replace vc := vc.next hb1
  replace hbw := bnext hbw hb1
  replace HT := Lib.hid (HT.out.next hb1)
  clear hb1
  obtain ⟨aq0, aq1, aq2⟩ := va.cells
  obtain ⟨bq0, bq1, bq2⟩ := vb.cells
  obtain ⟨cq0, cq1, cq2⟩ := vc.cells
  have kL := Blk.new w1 27 #[.bool an, .slice aA aS ac, .int .i64 ae, .bool bn, .slice bA bs bc, .int .i64 be, .bool cn, .slice cA cs cc, .int .i64 ce]
  have hbl := ballo w1 (.cells #[.bool an, .slice aA aS ac, .int .i64 ae, .bool bn, .slice bA bs bc, .int .i64 be, .bool cn, .slice cA cs cc, .int .i64 ce] 27)
  go_wp2_with fail
  replace va := va.next hbl
  replace vb := vb.next hbl
  replace vc := vc.next hbl
  replace hbw := bnext hbw hbl
  replace HT := Lib.hid (HT.out.next hbl)
  generalize w1.alloc (.cells #[.bool an, .slice aA aS ac, .int .i64 ae, .bool bn, .slice bA bs bc, .int .i64 be, .bool cn, .slice cA cs cc, .int .i64 ce] 27) = WL at *
  refine (dlong_three _ ⟨an, aA, aS, ac, ae⟩ ⟨bn, bA, bs, bc, be⟩ ⟨cn, cA, cs, cc, ce⟩ _ _ kL).mono ?_
  rintro e wl ⟨rfl, hbl2⟩
  dsimp only
  clear aq0 aq1 aq2 bq0 bq1 bq2 cq0 cq1 cq2
  replace va := va.next hbl2
  replace vb := vb.next hbl2
  replace vc := vc.next hbl2
  replace hbw := bnext hbw hbl2
  replace HT := Lib.hid (HT.out.next hbl2)
  clear hbl hbl2 kL
  by_cases hlong : 300 < aS ∨ 300 < bs ∨ 300 < cs
  · rw [decide_eq_true hlong]
    go_wp2_with fail
    refine (awake_any _ HT.out).mono ?_
    rintro e w2 ⟨rfl, hb2⟩
    replace va := va.next hb2
    replace vb := vb.next hb2
    replace vc := vc.next hb2
    replace hbw := bnext hbw hb2
    replace HT := Lib.hid (HT.out.next hb2)
    clear hb2
    go_wp2_with fail
    go_ret
    exact ⟨rfl, hbw⟩
  rw [decide_eq_false hlong]
  have hma : aS ≤ 300 := by omega
  have hmb : bs ≤ 300 := by omega
  have hmc : cs ≤ 300 := by omega
  clear hlong
  obtain ⟨k, hk⟩ : ∃ k, k = cmpD ⟨an, al, ae⟩ ⟨bn, bl, be⟩ := ⟨_, rfl⟩
  have han := cmp_anti ⟨an, al, ae⟩ ⟨bn, bl, be⟩
  rw [← hk] at han
  obtain ⟨han, hk1, hk2⟩ := han
  have HBA : Hid (cmpD ⟨bn, bl, be⟩ ⟨an, al, ae⟩ = -k) := by unfold Hid; omega
  clear han
  have HK0 := Lib.hid hk
  clear hk
  obtain ⟨aq0, aq1, aq2⟩ := va.cells
  obtain ⟨bq0, bq1, bq2⟩ := vb.cells
  go_wp2_with fail
  refine (cmpD_any an bn aA bA aS ac bs bc al bl ae be _ va.sl vb.sl (by omega) (by omega)).mono ?_
  rw [← HK0.out]
  rintro e w3 ⟨rfl, hb3⟩
  clear aq0 aq1 aq2 bq0 bq1 bq2
  replace va := va.next hb3
  replace vb := vb.next hb3
  replace vc := vc.next hb3
  replace hbw := bnext hbw hb3
  replace HT := Lib.hid (HT.out.next hb3)
  clear hb3
  obtain ⟨bq0, bq1, bq2⟩ := vb.cells
  obtain ⟨aq0, aq1, aq2⟩ := va.cells
  go_wp2_with fail
  refine (cmpD_any bn an bA aA bs bc aS ac bl al be ae _ vb.sl va.sl (by omega) (by omega)).mono ?_
  rw [HBA.out]
  rintro e w4 ⟨rfl, hb4⟩
  clear bq0 bq1 bq2 aq0 aq1 aq2
  replace va := va.next hb4
  replace vb := vb.next hb4
  replace vc := vc.next hb4
  replace hbw := bnext hbw hb4
  replace HT := Lib.hid (HT.out.next hb4)
  clear hb4
  have hwk : IntKind.i64.wrap k = k := IntWalk.i64_in _ (by omega)
  obtain ⟨aq0, aq1, aq2⟩ := va.cells
  go_wp2_with fail
  refine (rvalid_any an aA aS ac al ae _ va.sl (by omega)).mono ?_
  rintro e w5 ⟨rfl, hb5⟩
  clear aq0 aq1 aq2
  replace va := va.next hb5
  replace vb := vb.next hb5
  replace vc := vc.next hb5
  replace hbw := bnext hbw hb5
  replace HT := Lib.hid (HT.out.next hb5)
  clear hb5
  cases hva : vld ⟨an, al, ae⟩
  · have k0 : k = 0 := by rw [HK0.out]; exact cmp_bad (.inl hva)
    subst k0
    go_wp2_with fail
    go_ret
    exact ⟨rfl, hbw⟩
  have HVA := Lib.hid hva
  clear hva
  obtain ⟨bq0, bq1, bq2⟩ := vb.cells
  go_wp2_with fail
  refine (rvalid_any bn bA bs bc bl be _ vb.sl (by omega)).mono ?_
  rintro e w6 ⟨rfl, hb6⟩
  clear bq0 bq1 bq2
  replace va := va.next hb6
  replace vb := vb.next hb6
  replace vc := vc.next hb6
  replace hbw := bnext hbw hb6
  replace HT := Lib.hid (HT.out.next hb6)
  clear hb6
  cases hvb : vld ⟨bn, bl, be⟩
  · have k0 : k = 0 := by rw [HK0.out]; exact cmp_bad (.inr hvb)
    subst k0
    go_wp2_with fail
    go_ret
    exact ⟨rfl, hbw⟩
  have HVB := Lib.hid hvb
  clear hvb
  have HSA : Hid (sgnD ⟨an, al, ae⟩ = cmpD ⟨an, al, ae⟩ ⟨false, [], 0⟩) := (cmp_zero HVA.out).symm
  have HEQ : Hid (eqD ⟨an, al, ae⟩ ⟨bn, bl, be⟩ = (k == 0)) := by unfold Hid; rw [HK0.out]; exact (cmp_eq ha.lt hb.lt HVA.out HVB.out).symm
  obtain ⟨⟨⟨dn, dl, de⟩, dk⟩, hd⟩ : ∃ r, r = subD ⟨an, al, ae⟩ ⟨bn, bl, be⟩ := ⟨_, rfl⟩
  have Hd := Lib.hid hd
  have HSD : Hid (dk = 0 → sgnD ⟨dn, dl, de⟩ = k) := by unfold Hid; intro h0; subst h0; rw [HK0.out]; exact cmp_sub ha.lt hb.lt hd.symm
  have hod := (sub_out ha.lt hb.lt hd).1
  dsimp only at hod
  clear hd
  obtain ⟨aq0, aq1, aq2⟩ := va.cells
  obtain ⟨bq0, bq1, bq2⟩ := vb.cells
  go_wp2_with fail
  refine (subD_any an bn aA bA aS ac bs bc al bl ae be _ va.sl vb.sl HT.out (by omega) (by omega)).mono ?_
  rw [← Hd.out]
  rintro e w7 ⟨dA, ds, dc, rfl, hsd, hfd, hbd⟩
  dsimp only at hsd
  clear hfd
  clear aq0 aq1 aq2 bq0 bq1 bq2
  have hbd2 := bnext hbd (ballo w7 (.cells #[.bool dn, .slice dA ds dc, .int .i64 de] 27))
  have vd := Var.new w7 dn de hsd
  have hmd : ds ≤ 300 := by rw [← hsd.len]; omega
  replace va := va.next hbd2
  replace vb := vb.next hbd2
  replace vc := vc.next hbd2
  replace hbw := bnext hbw hbd2
  replace HT := Lib.hid (HT.out.next hbd2)
  clear hbd hbd2 hsd hod
  go_wp2_with fail
  generalize w7.alloc (.cells #[.bool dn, .slice dA ds dc, .int .i64 de] 27) = W7 at *
  generalize w7.heap.size = gd at *
  by_cases hdk : dk = 0
  · subst hdk
    have HK : Hid (∀ V, Below W7.heap.size W7 V → (fun V => (V.cell? ⟨w.heap.size, 0, none⟩ = some (.bool an) ∧ V.cell? ⟨w.heap.size, 1, none⟩ = some (.slice aA aS ac) ∧ V.cell? ⟨w.heap.size, 2, none⟩ = some (.int .i64 ae)) ∧ (V.cell? ⟨(w.heap.size + 1), 0, none⟩ = some (.bool bn) ∧ V.cell? ⟨(w.heap.size + 1), 1, none⟩ = some (.slice bA bs bc) ∧ V.cell? ⟨(w.heap.size + 1), 2, none⟩ = some (.int .i64 be)) ∧ (V.cell? ⟨gd, 0, none⟩ = some (.bool dn) ∧ V.cell? ⟨gd, 1, none⟩ = some (.slice dA ds dc) ∧ V.cell? ⟨gd, 2, none⟩ = some (.int .i64 de)) ∧ Below W7.heap.size W7 V) V) := fun V hV => ⟨va.keep V hV, vb.keep V hV, vd.keep V hV, hV⟩
    have hB := bdrew W7
    refine wp_region_held_drew (S := (fun V => (V.cell? ⟨w.heap.size, 0, none⟩ = some (.bool an) ∧ V.cell? ⟨w.heap.size, 1, none⟩ = some (.slice aA aS ac) ∧ V.cell? ⟨w.heap.size, 2, none⟩ = some (.int .i64 ae)) ∧ (V.cell? ⟨(w.heap.size + 1), 0, none⟩ = some (.bool bn) ∧ V.cell? ⟨(w.heap.size + 1), 1, none⟩ = some (.slice bA bs bc) ∧ V.cell? ⟨(w.heap.size + 1), 2, none⟩ = some (.int .i64 be)) ∧ (V.cell? ⟨gd, 0, none⟩ = some (.bool dn) ∧ V.cell? ⟨gd, 1, none⟩ = some (.slice dA ds dc) ∧ V.cell? ⟨gd, 2, none⟩ = some (.int .i64 de)) ∧ Below W7.heap.size W7 V)) (by kernel_rfl) (HK.out _ hB) (fun hH => ?_)
    refine wpAnyH_take (i := 0) (oi := ⟨_, _, _, _, _, _⟩) (v := ?_) rfl (by kernel_rfl) (by kernel_rfl) (by kernel_rfl) (fun _ _ _ h => h) (Or.inl ⟨by rfl, ?_⟩) hH ?_
    rotate_left
    · (intro w hSw; (try dsimp only at hSw); go_simp; try (with_reducible rfl))
    simp only [Act.put, List.setIfInBounds_toArray, List.set_cons_zero, List.set_cons_succ]
    refine wpAnyH_take (i := 1) (oi := ⟨_, _, _, _, _, _⟩) (v := ?_) rfl (by kernel_rfl) (by kernel_rfl) (by kernel_rfl) (fun _ _ _ h => h) (Or.inl ⟨by rfl, ?_⟩) hH ?_
    rotate_left
    · (intro w hSw; (try dsimp only at hSw); go_simp; try (with_reducible rfl))
    simp only [Act.put, List.setIfInBounds_toArray, List.set_cons_zero, List.set_cons_succ]
    refine wpAnyH_take (i := 2) (oi := ⟨_, _, _, _, _, _⟩) (v := ?_) rfl (by kernel_rfl) (by kernel_rfl) (by kernel_rfl) (fun _ _ _ h => h) (Or.inl ⟨by rfl, ?_⟩) hH ?_
    rotate_left
    · (intro w hSw; (try dsimp only at hSw); go_simp; try (with_reducible rfl))
    simp only [Act.put, List.setIfInBounds_toArray, List.set_cons_zero, List.set_cons_succ]
    refine wpAnyH_take (i := 3) (oi := ⟨_, _, _, _, _, _⟩) (v := ?_) rfl (by kernel_rfl) (by kernel_rfl) (by kernel_rfl) (fun _ _ _ h => h) (Or.inl ⟨by rfl, ?_⟩) hH ?_
    rotate_left
    · (intro w hSw; (try dsimp only at hSw); go_simp; try (with_reducible rfl))
    simp only [Act.put, List.setIfInBounds_toArray, List.set_cons_zero, List.set_cons_succ]
    refine wpAnyH_take (i := 5) (oi := ⟨_, _, _, _, _, _⟩) (v := ?_) rfl (by kernel_rfl) (by kernel_rfl) (by kernel_rfl) (fun _ _ _ h => h) (Or.inl ⟨by rfl, ?_⟩) hH ?_
    rotate_left
    · (intro w hSw; (try dsimp only at hSw); go_simp; try (with_reducible rfl))
    simp only [Act.put, List.setIfInBounds_toArray, List.set_cons_zero, List.set_cons_succ]
    refine wpAnyH_ready (rs := [4]) (by kernel_rfl) (by simp) ?_
    refine AllReadyH.cons (o := ⟨_, _, _, _, _, _⟩) rfl (fun K hK => ?_) AllReadyH.nil
    go_simp
    refine (signD_any dn dA ds dc dl de _ (vd.sl.below hB) (by omega)).mono ?_
    rw [HSD.out (by simp)]
    rintro e w8 ⟨rfl, hc⟩
    replace hB := bnext hB hc
    clear hc
    go_wp2_with fail
    refine hK.out _ _ (HK.out _ hB) (fun hH => ?_)
    clear hK K
    refine wpAnyH_take (i := 6) (oi := ⟨_, _, _, _, _, _⟩) (v := ?_) rfl (by kernel_rfl) (by kernel_rfl) (by kernel_rfl) (fun _ _ _ h => h) (Or.inl ⟨by rfl, ?_⟩) hH ?_
    rotate_left
    · (intro w hSw; (try dsimp only at hSw); go_simp; try (with_reducible rfl))
    simp only [Act.put, List.setIfInBounds_toArray, List.set_cons_zero, List.set_cons_succ]
    refine wpAnyH_take (i := 7) (oi := ⟨_, _, _, _, _, _⟩) (v := ?_) rfl (by kernel_rfl) (by kernel_rfl) (by kernel_rfl) (fun _ _ _ h => h) (Or.inl ⟨by rfl, ?_⟩) hH ?_
    rotate_left
    · (intro w hSw; (try dsimp only at hSw); go_simp; try (with_reducible rfl))
    simp only [Act.put, List.setIfInBounds_toArray, List.set_cons_zero, List.set_cons_succ]
    refine wpAnyH_take (i := 8) (oi := ⟨_, _, _, _, _, _⟩) (v := ?_) rfl (by kernel_rfl) (by kernel_rfl) (by kernel_rfl) (fun _ _ _ h => h) (Or.inl ⟨by rfl, ?_⟩) hH ?_
    rotate_left
    · (intro w hSw; (try dsimp only at hSw); go_simp; try (with_reducible rfl))
    simp only [Act.put, List.setIfInBounds_toArray, List.set_cons_zero, List.set_cons_succ]
    refine wpAnyH_take (i := 9) (oi := ⟨_, _, _, _, _, _⟩) (v := ?_) rfl (by kernel_rfl) (by kernel_rfl) (by kernel_rfl) (fun _ _ _ h => h) (Or.inl ⟨by rfl, ?_⟩) hH ?_
    rotate_left
    · (intro w hSw; (try dsimp only at hSw); go_simp; try (with_reducible rfl))
    simp only [Act.put, List.setIfInBounds_toArray, List.set_cons_zero, List.set_cons_succ]
    refine wpAnyH_take (i := 10) (oi := ⟨_, _, _, _, _, _⟩) (v := ?_) rfl (by kernel_rfl) (by kernel_rfl) (by kernel_rfl) (fun _ _ _ h => h) (Or.inl ⟨by rfl, ?_⟩) hH ?_
    rotate_left
    · (intro w hSw; (try dsimp only at hSw); go_simp; try (with_reducible rfl))
    simp only [Act.put, List.setIfInBounds_toArray, List.set_cons_zero, List.set_cons_succ]
    refine wpAnyH_take (i := 11) (oi := ⟨_, _, _, _, _, _⟩) (v := ?_) rfl (by kernel_rfl) (by kernel_rfl) (by kernel_rfl) (fun _ _ _ h => h) (Or.inl ⟨by rfl, ?_⟩) hH ?_
    rotate_left
    · (intro w hSw; (try dsimp only at hSw); go_simp; try (with_reducible rfl))
    simp only [Act.put, List.setIfInBounds_toArray, List.set_cons_zero, List.set_cons_succ]
    refine wpAnyH_take (i := 12) (oi := ⟨_, _, _, _, _, _⟩) (v := ?_) rfl (by kernel_rfl) (by kernel_rfl) (by kernel_rfl) (fun _ _ _ h => h) (Or.inl ⟨by rfl, ?_⟩) hH ?_
    rotate_left
    · (intro w hSw; (try dsimp only at hSw); go_simp; try (with_reducible rfl))
    simp only [Act.put, List.setIfInBounds_toArray, List.set_cons_zero, List.set_cons_succ]
    refine wpAnyH_ready (rs := [13]) (by kernel_rfl) (by simp) ?_
    refine AllReadyH.cons (o := ⟨_, _, _, _, _, _⟩) rfl (fun K hK => ?_) AllReadyH.nil
    go_simp
    refine (requal_any an bn aA bA aS ac bs bc al bl ae be _ (va.sl.below hB) (vb.sl.below hB)).mono ?_
    rw [HEQ.out]
    rintro e w9 ⟨rfl, hc⟩
    replace hB := bnext hB hc
    clear hc
    go_wp2_with fail
    refine hK.out _ _ (HK.out _ hB) (fun hH => ?_)
    clear hK K
    refine wpAnyH_take (i := 14) (oi := ⟨_, _, _, _, _, _⟩) (v := ?_) rfl (by kernel_rfl) (by kernel_rfl) (by kernel_rfl) (fun _ _ _ h => h) (Or.inl ⟨by rfl, ?_⟩) hH ?_
    rotate_left
    · (intro w hSw; (try dsimp only at hSw); go_simp; try (with_reducible rfl))
    simp only [Act.put, List.setIfInBounds_toArray, List.set_cons_zero, List.set_cons_succ]
    refine wpAnyH_take (i := 15) (oi := ⟨_, _, _, _, _, _⟩) (v := ?_) rfl (by kernel_rfl) (by kernel_rfl) (by kernel_rfl) (fun _ _ _ h => h) (Or.inl ⟨by rfl, ?_⟩) hH ?_
    rotate_left
    · (intro w hSw; (try dsimp only at hSw); go_simp; try (with_reducible rfl))
    simp only [Act.put, List.setIfInBounds_toArray, List.set_cons_zero, List.set_cons_succ]
    refine wpAnyH_take (i := 16) (oi := ⟨_, _, _, _, _, _⟩) (v := ?_) rfl (by kernel_rfl) (by kernel_rfl) (by kernel_rfl) (fun _ _ _ h => h) (Or.inl ⟨by rfl, ?_⟩) hH ?_
    rotate_left
    · (intro w hSw; (try dsimp only at hSw); go_simp; try (with_reducible rfl))
    simp only [Act.put, List.setIfInBounds_toArray, List.set_cons_zero, List.set_cons_succ]
    refine wpAnyH_take (i := 17) (oi := ⟨_, _, _, _, _, _⟩) (v := ?_) rfl (by kernel_rfl) (by kernel_rfl) (by kernel_rfl) (fun _ _ _ h => h) (Or.inl ⟨by rfl, ?_⟩) hH ?_
    rotate_left
    · (intro w hSw; (try dsimp only at hSw); go_simp; try (with_reducible rfl))
    simp only [Act.put, List.setIfInBounds_toArray, List.set_cons_zero, List.set_cons_succ]
    refine wpAnyH_take (i := 18) (oi := ⟨_, _, _, _, _, _⟩) (v := ?_) rfl (by kernel_rfl) (by kernel_rfl) (by kernel_rfl) (fun _ _ _ h => h) (Or.inl ⟨by rfl, ?_⟩) hH ?_
    rotate_left
    · (intro w hSw; (try dsimp only at hSw); go_simp; try (with_reducible rfl))
    simp only [Act.put, List.setIfInBounds_toArray, List.set_cons_zero, List.set_cons_succ]
    refine wpAnyH_take (i := 20) (oi := ⟨_, _, _, _, _, _⟩) (v := ?_) rfl (by kernel_rfl) (by kernel_rfl) (by kernel_rfl) (fun _ _ _ h => h) (Or.inl ⟨by rfl, ?_⟩) hH ?_
    rotate_left
    · (intro w hSw; (try dsimp only at hSw); go_simp; try (with_reducible rfl))
    simp only [Act.put, List.setIfInBounds_toArray, List.set_cons_zero, List.set_cons_succ]
    refine wpAnyH_ready (rs := [19]) (by kernel_rfl) (by simp) ?_
    refine AllReadyH.cons (o := ⟨_, _, _, _, _, _⟩) rfl (fun K hK => ?_) AllReadyH.nil
    go_simp
    refine (cmpD_any an false aA none aS ac 0 0 al [] ae 0 _ (va.sl.below hB) (SL.nil _) (by omega) (by omega)).mono ?_
    rw [← HSA.out]
    rintro e w10 ⟨rfl, hc⟩
    replace hB := bnext hB hc
    clear hc
    go_wp2_with fail
    refine hK.out _ _ (HK.out _ hB) (fun hH => ?_)
    clear hK K
    refine wpAnyH_ready (rs := [21]) (by kernel_rfl) (by simp) ?_
    refine AllReadyH.cons (o := ⟨_, _, _, _, _, _⟩) rfl (fun K hK => ?_) AllReadyH.nil
    go_simp
    refine (signD_any an aA aS ac al ae _ (va.sl.below hB) (by omega)).mono ?_
    rintro e w11 ⟨rfl, hc⟩
    replace hB := bnext hB hc
    clear hc
    go_wp2_with fail
    refine hK.out _ _ (HK.out _ hB) (fun hH => ?_)
    clear hK K
    refine wpAnyH_take (i := 22) (oi := ⟨_, _, _, _, _, _⟩) (v := ?_) rfl (by kernel_rfl) (by kernel_rfl) (by kernel_rfl) (fun _ _ _ h => h) (Or.inl ⟨by rfl, ?_⟩) hH ?_
    rotate_left
    · (intro w hSw; (try dsimp only at hSw); go_simp; try (with_reducible rfl))
    simp only [Act.put, List.setIfInBounds_toArray, List.set_cons_zero, List.set_cons_succ]
    refine wpAnyH_take (i := 23) (oi := ⟨_, _, _, _, _, _⟩) (v := ?_) rfl (by kernel_rfl) (by kernel_rfl) (by kernel_rfl) (fun _ _ _ h => h) (Or.inl ⟨by rfl, ?_⟩) hH ?_
    rotate_left
    · (intro w hSw; (try dsimp only at hSw); go_simp; try (with_reducible rfl))
    simp only [Act.put, List.setIfInBounds_toArray, List.set_cons_zero, List.set_cons_succ]
    refine wpAnyH_done (by kernel_rfl) ?_ _
    clear hH HK
    replace va := va.next hB
    replace vb := vb.next hB
    replace vc := vc.next hB
    replace vd := vd.next hB
    replace hbw := bnext hbw hB
    replace HT := Lib.hid (HT.out.next hB)
    clear hB
    obtain ⟨⟨⟨xn, xl, xe⟩, xk⟩, hx⟩ : ∃ r, r = addD ⟨an, al, ae⟩ ⟨cn, cl, ce⟩ := ⟨_, rfl⟩
    have Hx := Lib.hid hx
    have hx0 := hx
    have hox := (add_out ha.lt hc.lt hx).1
    dsimp only at hox
    clear hx
    obtain ⟨aq0, aq1, aq2⟩ := va.cells
    obtain ⟨cq0, cq1, cq2⟩ := vc.cells
    go_wp2_with fail
    refine (addD_any an cn aA cA aS ac cs cc al cl ae ce _ va.sl vc.sl HT.out (by omega) (by omega)).mono ?_
    rw [← Hx.out]
    rintro e w12 ⟨xA, xs, xc, rfl, hsx, hfx, hbx⟩
    dsimp only at hsx
    clear hfx
    clear aq0 aq1 aq2 cq0 cq1 cq2
    have hbx2 := bnext hbx (ballo w12 (.cells #[.bool xn, .slice xA xs xc, .int .i64 xe] 27))
    have vx := Var.new w12 xn xe hsx
    have hmx : xs ≤ 300 := by rw [← hsx.len]; omega
    replace va := va.next hbx2
    replace vb := vb.next hbx2
    replace vc := vc.next hbx2
    replace vd := vd.next hbx2
    replace hbw := bnext hbw hbx2
    replace HT := Lib.hid (HT.out.next hbx2)
    clear hbx hbx2 hsx hox
    have HX0 := Lib.hid hx0
    clear hx0
    obtain ⟨⟨⟨yn, yl, ye⟩, yk⟩, hy⟩ : ∃ r, r = addD ⟨bn, bl, be⟩ ⟨cn, cl, ce⟩ := ⟨_, rfl⟩
    have Hy := Lib.hid hy
    have HXY : Hid (xk = 0 → yk = 0 → cmpD ⟨xn, xl, xe⟩ ⟨yn, yl, ye⟩ = k) := by unfold Hid; intro h0 h1; subst h0 h1; rw [HK0.out]; exact cmp_add ha.lt hb.lt hc.lt HX0.out.symm hy.symm
    have hoy := (add_out hb.lt hc.lt hy).1
    dsimp only at hoy
    clear hy
    obtain ⟨bq0, bq1, bq2⟩ := vb.cells
    obtain ⟨cq0, cq1, cq2⟩ := vc.cells
    go_wp2_with fail
    generalize w12.alloc (.cells #[.bool xn, .slice xA xs xc, .int .i64 xe] 27) = W12 at *
    generalize w12.heap.size = gx at *
    refine (addD_any bn cn bA cA bs bc cs cc bl cl be ce _ vb.sl vc.sl HT.out (by omega) (by omega)).mono ?_
    rw [← Hy.out]
    rintro e w13 ⟨yA, ys, yc, rfl, hsy, hfy, hby⟩
    dsimp only at hsy
    clear hfy
    clear bq0 bq1 bq2 cq0 cq1 cq2
    have hby2 := bnext hby (ballo w13 (.cells #[.bool yn, .slice yA ys yc, .int .i64 ye] 27))
    have vy := Var.new w13 yn ye hsy
    have hmy : ys ≤ 300 := by rw [← hsy.len]; omega
    replace va := va.next hby2
    replace vb := vb.next hby2
    replace vc := vc.next hby2
    replace vd := vd.next hby2
    replace vx := vx.next hby2
    replace hbw := bnext hbw hby2
    replace HT := Lib.hid (HT.out.next hby2)
    clear hby hby2 hsy hoy
    obtain ⟨xq0, xq1, xq2⟩ := vx.cells
    obtain ⟨yq0, yq1, yq2⟩ := vy.cells
    obtain ⟨cq0, cq1, cq2⟩ := vc.cells
    by_cases hxk : xk = 0
    · subst hxk
      by_cases hyk : yk = 0
      · subst hyk
        clear xq0 xq1 xq2 yq0 yq1 yq2 cq0 cq1 cq2
        obtain ⟨xq0, xq1, xq2⟩ := vx.cells
        obtain ⟨yq0, yq1, yq2⟩ := vy.cells
        obtain ⟨cq0, cq1, cq2⟩ := vc.cells
        go_wp2_with fail
        generalize w13.alloc (.cells #[.bool yn, .slice yA ys yc, .int .i64 ye] 27) = W13 at *
        generalize w13.heap.size = gy at *
        refine (cmpD_any xn yn xA yA xs xc ys yc xl yl xe ye _ vx.sl vy.sl (by omega) (by omega)).mono ?_
        rw [HXY.out (by simp) (by simp)]
        rintro e w14 ⟨rfl, hb14⟩
        clear xq0 xq1 xq2 yq0 yq1 yq2 cq0 cq1 cq2
        replace va := va.next hb14
        replace vb := vb.next hb14
        replace vc := vc.next hb14
        replace vd := vd.next hb14
        replace vx := vx.next hb14
        replace vy := vy.next hb14
        replace hbw := bnext hbw hb14
        replace HT := Lib.hid (HT.out.next hb14)
        clear hb14
        obtain ⟨cq0, cq1, cq2⟩ := vc.cells
        go_wp2_with fail
        refine (rvalid_any cn cA cs cc cl ce _ vc.sl (by omega)).mono ?_
        rintro e w15 ⟨rfl, hb15⟩
        clear cq0 cq1 cq2
        replace va := va.next hb15
        replace vb := vb.next hb15
        replace vc := vc.next hb15
        replace vd := vd.next hb15
        replace vx := vx.next hb15
        replace vy := vy.next hb15
        replace hbw := bnext hbw hb15
        replace HT := Lib.hid (HT.out.next hb15)
        clear hb15
        cases hvc : vld ⟨cn, cl, ce⟩
        · go_wp2_with fail
          go_ret
          exact ⟨rfl, hbw⟩
        have htr := cmp_trans HVA.out HVB.out hvc
        rw [← HK0.out] at htr
        clear hvc
        by_cases hk0 : 0 < k
        · clear htr
          go_wp2_with fail
          go_ret
          exact ⟨rfl, hbw⟩
        replace htr := htr.resolve_left hk0
        obtain ⟨m, hm⟩ : ∃ m, m = cmpD ⟨bn, bl, be⟩ ⟨cn, cl, ce⟩ := ⟨_, rfl⟩
        have hmb2 := (cmp_anti ⟨bn, bl, be⟩ ⟨cn, cl, ce⟩).2
        rw [← hm] at htr hmb2
        have HM := Lib.hid hm
        clear hm
        obtain ⟨j, hj⟩ : ∃ j, j = cmpD ⟨an, al, ae⟩ ⟨cn, cl, ce⟩ := ⟨_, rfl⟩
        rw [← hj] at htr
        have HJ := Lib.hid hj
        clear hj
        have HTR := Lib.hid htr
        clear htr
        obtain ⟨bq0, bq1, bq2⟩ := vb.cells
        obtain ⟨cq0, cq1, cq2⟩ := vc.cells
        go_wp2_with fail
        refine (cmpD_any bn cn bA cA bs bc cs cc bl cl be ce _ vb.sl vc.sl (by omega) (by omega)).mono ?_
        rw [← HM.out]
        rintro e w16 ⟨rfl, hb16⟩
        clear bq0 bq1 bq2 cq0 cq1 cq2
        replace va := va.next hb16
        replace vb := vb.next hb16
        replace vc := vc.next hb16
        replace vd := vd.next hb16
        replace vx := vx.next hb16
        replace vy := vy.next hb16
        replace hbw := bnext hbw hb16
        replace HT := Lib.hid (HT.out.next hb16)
        clear hb16
        by_cases hm0 : 0 < m
        · go_wp2_with fail
          go_ret
          exact ⟨rfl, hbw⟩
        have hj0 : j ≤ 0 := HTR.out.resolve_left hm0
        obtain ⟨aq0, aq1, aq2⟩ := va.cells
        obtain ⟨cq0, cq1, cq2⟩ := vc.cells
        go_wp2_with fail
        refine (cmpD_any an cn aA cA aS ac cs cc al cl ae ce _ va.sl vc.sl (by omega) (by omega)).mono ?_
        rw [← HJ.out]
        rintro e w17 ⟨rfl, hb17⟩
        clear aq0 aq1 aq2 cq0 cq1 cq2
        replace va := va.next hb17
        replace vb := vb.next hb17
        replace vc := vc.next hb17
        replace vd := vd.next hb17
        replace vx := vx.next hb17
        replace vy := vy.next hb17
        replace hbw := bnext hbw hb17
        replace HT := Lib.hid (HT.out.next hb17)
        clear hb17
        go_wp2_with fail
        go_ret
        exact ⟨by first | rfl | (simp; omega), hbw⟩
      · have hyk' : (yk == 0) = false := by simp; omega
        clear xq0 xq1 xq2 yq0 yq1 yq2 cq0 cq1 cq2
        obtain ⟨cq0, cq1, cq2⟩ := vc.cells
        go_wp2_with fail
        generalize w13.alloc (.cells #[.bool yn, .slice yA ys yc, .int .i64 ye] 27) = W13 at *
        generalize w13.heap.size = gy at *
        refine (rvalid_any cn cA cs cc cl ce _ vc.sl (by omega)).mono ?_
        rintro e w14 ⟨rfl, hb14⟩
        clear cq0 cq1 cq2
        replace va := va.next hb14
        replace vb := vb.next hb14
        replace vc := vc.next hb14
        replace vd := vd.next hb14
        replace vx := vx.next hb14
        replace vy := vy.next hb14
        replace hbw := bnext hbw hb14
        replace HT := Lib.hid (HT.out.next hb14)
        clear hb14
        cases hvc : vld ⟨cn, cl, ce⟩
        · go_wp2_with fail
          go_ret
          exact ⟨rfl, hbw⟩
        have htr := cmp_trans HVA.out HVB.out hvc
        rw [← HK0.out] at htr
        clear hvc
        by_cases hk0 : 0 < k
        · clear htr
          go_wp2_with fail
          go_ret
          exact ⟨rfl, hbw⟩
        replace htr := htr.resolve_left hk0
        obtain ⟨m, hm⟩ : ∃ m, m = cmpD ⟨bn, bl, be⟩ ⟨cn, cl, ce⟩ := ⟨_, rfl⟩
        have hmb2 := (cmp_anti ⟨bn, bl, be⟩ ⟨cn, cl, ce⟩).2
        rw [← hm] at htr hmb2
        have HM := Lib.hid hm
        clear hm
        obtain ⟨j, hj⟩ : ∃ j, j = cmpD ⟨an, al, ae⟩ ⟨cn, cl, ce⟩ := ⟨_, rfl⟩
        rw [← hj] at htr
        have HJ := Lib.hid hj
        clear hj
        have HTR := Lib.hid htr
        clear htr
        obtain ⟨bq0, bq1, bq2⟩ := vb.cells
        obtain ⟨cq0, cq1, cq2⟩ := vc.cells
        go_wp2_with fail
        refine (cmpD_any bn cn bA cA bs bc cs cc bl cl be ce _ vb.sl vc.sl (by omega) (by omega)).mono ?_
        rw [← HM.out]
        rintro e w15 ⟨rfl, hb15⟩
        clear bq0 bq1 bq2 cq0 cq1 cq2
        replace va := va.next hb15
        replace vb := vb.next hb15
        replace vc := vc.next hb15
        replace vd := vd.next hb15
        replace vx := vx.next hb15
        replace vy := vy.next hb15
        replace hbw := bnext hbw hb15
        replace HT := Lib.hid (HT.out.next hb15)
        clear hb15
        by_cases hm0 : 0 < m
        · go_wp2_with fail
          go_ret
          exact ⟨rfl, hbw⟩
        have hj0 : j ≤ 0 := HTR.out.resolve_left hm0
        obtain ⟨aq0, aq1, aq2⟩ := va.cells
        obtain ⟨cq0, cq1, cq2⟩ := vc.cells
        go_wp2_with fail
        refine (cmpD_any an cn aA cA aS ac cs cc al cl ae ce _ va.sl vc.sl (by omega) (by omega)).mono ?_
        rw [← HJ.out]
        rintro e w16 ⟨rfl, hb16⟩
        clear aq0 aq1 aq2 cq0 cq1 cq2
        replace va := va.next hb16
        replace vb := vb.next hb16
        replace vc := vc.next hb16
        replace vd := vd.next hb16
        replace vx := vx.next hb16
        replace vy := vy.next hb16
        replace hbw := bnext hbw hb16
        replace HT := Lib.hid (HT.out.next hb16)
        clear hb16
        go_wp2_with fail
        go_ret
        exact ⟨by first | rfl | (simp; omega), hbw⟩
    · have hxk' : (xk == 0) = false := by simp; omega
      clear xq0 xq1 xq2 yq0 yq1 yq2 cq0 cq1 cq2
      obtain ⟨cq0, cq1, cq2⟩ := vc.cells
      go_wp2_with fail
      generalize w13.alloc (.cells #[.bool yn, .slice yA ys yc, .int .i64 ye] 27) = W13 at *
      generalize w13.heap.size = gy at *
      refine (rvalid_any cn cA cs cc cl ce _ vc.sl (by omega)).mono ?_
      rintro e w14 ⟨rfl, hb14⟩
      clear cq0 cq1 cq2
      replace va := va.next hb14
      replace vb := vb.next hb14
      replace vc := vc.next hb14
      replace vd := vd.next hb14
      replace vx := vx.next hb14
      replace vy := vy.next hb14
      replace hbw := bnext hbw hb14
      replace HT := Lib.hid (HT.out.next hb14)
      clear hb14
      cases hvc : vld ⟨cn, cl, ce⟩
      · go_wp2_with fail
        go_ret
        exact ⟨rfl, hbw⟩
      have htr := cmp_trans HVA.out HVB.out hvc
      rw [← HK0.out] at htr
      clear hvc
      by_cases hk0 : 0 < k
      · clear htr
        go_wp2_with fail
        go_ret
        exact ⟨rfl, hbw⟩
      replace htr := htr.resolve_left hk0
      obtain ⟨m, hm⟩ : ∃ m, m = cmpD ⟨bn, bl, be⟩ ⟨cn, cl, ce⟩ := ⟨_, rfl⟩
      have hmb2 := (cmp_anti ⟨bn, bl, be⟩ ⟨cn, cl, ce⟩).2
      rw [← hm] at htr hmb2
      have HM := Lib.hid hm
      clear hm
      obtain ⟨j, hj⟩ : ∃ j, j = cmpD ⟨an, al, ae⟩ ⟨cn, cl, ce⟩ := ⟨_, rfl⟩
      rw [← hj] at htr
      have HJ := Lib.hid hj
      clear hj
      have HTR := Lib.hid htr
      clear htr
      obtain ⟨bq0, bq1, bq2⟩ := vb.cells
      obtain ⟨cq0, cq1, cq2⟩ := vc.cells
      go_wp2_with fail
      refine (cmpD_any bn cn bA cA bs bc cs cc bl cl be ce _ vb.sl vc.sl (by omega) (by omega)).mono ?_
      rw [← HM.out]
      rintro e w15 ⟨rfl, hb15⟩
      clear bq0 bq1 bq2 cq0 cq1 cq2
      replace va := va.next hb15
      replace vb := vb.next hb15
      replace vc := vc.next hb15
      replace vd := vd.next hb15
      replace vx := vx.next hb15
      replace vy := vy.next hb15
      replace hbw := bnext hbw hb15
      replace HT := Lib.hid (HT.out.next hb15)
      clear hb15
      by_cases hm0 : 0 < m
      · go_wp2_with fail
        go_ret
        exact ⟨rfl, hbw⟩
      have hj0 : j ≤ 0 := HTR.out.resolve_left hm0
      obtain ⟨aq0, aq1, aq2⟩ := va.cells
      obtain ⟨cq0, cq1, cq2⟩ := vc.cells
      go_wp2_with fail
      refine (cmpD_any an cn aA cA aS ac cs cc al cl ae ce _ va.sl vc.sl (by omega) (by omega)).mono ?_
      rw [← HJ.out]
      rintro e w16 ⟨rfl, hb16⟩
      clear aq0 aq1 aq2 cq0 cq1 cq2
      replace va := va.next hb16
      replace vb := vb.next hb16
      replace vc := vc.next hb16
      replace vd := vd.next hb16
      replace vx := vx.next hb16
      replace vy := vy.next hb16
      replace hbw := bnext hbw hb16
      replace HT := Lib.hid (HT.out.next hb16)
      clear hb16
      go_wp2_with fail
      go_ret
      exact ⟨by first | rfl | (simp; omega), hbw⟩
  · have hdk' : (dk == 0) = false := by simp; omega
    have HK : Hid (∀ V, Below W7.heap.size W7 V → (fun V => (V.cell? ⟨w.heap.size, 0, none⟩ = some (.bool an) ∧ V.cell? ⟨w.heap.size, 1, none⟩ = some (.slice aA aS ac) ∧ V.cell? ⟨w.heap.size, 2, none⟩ = some (.int .i64 ae)) ∧ (V.cell? ⟨(w.heap.size + 1), 0, none⟩ = some (.bool bn) ∧ V.cell? ⟨(w.heap.size + 1), 1, none⟩ = some (.slice bA bs bc) ∧ V.cell? ⟨(w.heap.size + 1), 2, none⟩ = some (.int .i64 be)) ∧ (V.cell? ⟨gd, 0, none⟩ = some (.bool dn) ∧ V.cell? ⟨gd, 1, none⟩ = some (.slice dA ds dc) ∧ V.cell? ⟨gd, 2, none⟩ = some (.int .i64 de)) ∧ Below W7.heap.size W7 V) V) := fun V hV => ⟨va.keep V hV, vb.keep V hV, vd.keep V hV, hV⟩
    have hB := bdrew W7
    refine wp_region_held_drew (S := (fun V => (V.cell? ⟨w.heap.size, 0, none⟩ = some (.bool an) ∧ V.cell? ⟨w.heap.size, 1, none⟩ = some (.slice aA aS ac) ∧ V.cell? ⟨w.heap.size, 2, none⟩ = some (.int .i64 ae)) ∧ (V.cell? ⟨(w.heap.size + 1), 0, none⟩ = some (.bool bn) ∧ V.cell? ⟨(w.heap.size + 1), 1, none⟩ = some (.slice bA bs bc) ∧ V.cell? ⟨(w.heap.size + 1), 2, none⟩ = some (.int .i64 be)) ∧ (V.cell? ⟨gd, 0, none⟩ = some (.bool dn) ∧ V.cell? ⟨gd, 1, none⟩ = some (.slice dA ds dc) ∧ V.cell? ⟨gd, 2, none⟩ = some (.int .i64 de)) ∧ Below W7.heap.size W7 V)) (by kernel_rfl) (HK.out _ hB) (fun hH => ?_)
    refine wpAnyH_take (i := 0) (oi := ⟨_, _, _, _, _, _⟩) (v := ?_) rfl (by kernel_rfl) (by kernel_rfl) (by kernel_rfl) (fun _ _ _ h => h) (Or.inl ⟨by rfl, ?_⟩) hH ?_
    rotate_left
    · (intro w hSw; (try dsimp only at hSw); go_simp; try (with_reducible rfl))
    simp only [Act.put, List.setIfInBounds_toArray, List.set_cons_zero, List.set_cons_succ]
    refine wpAnyH_take (i := 1) (oi := ⟨_, _, _, _, _, _⟩) (v := ?_) rfl (by kernel_rfl) (by kernel_rfl) (by kernel_rfl) (fun _ _ _ h => h) (Or.inl ⟨by rfl, ?_⟩) hH ?_
    rotate_left
    · (intro w hSw; (try dsimp only at hSw); go_simp; try (with_reducible rfl))
    simp only [Act.put, List.setIfInBounds_toArray, List.set_cons_zero, List.set_cons_succ]
    refine wpAnyH_take (i := 2) (oi := ⟨_, _, _, _, _, _⟩) (v := ?_) rfl (by kernel_rfl) (by kernel_rfl) (by kernel_rfl) (fun _ _ _ h => h) (Or.inl ⟨by rfl, ?_⟩) hH ?_
    rotate_left
    · (intro w hSw; (try dsimp only at hSw); go_simp; try (with_reducible rfl))
    simp only [Act.put, List.setIfInBounds_toArray, List.set_cons_zero, List.set_cons_succ]
    refine wpAnyH_take (i := 3) (oi := ⟨_, _, _, _, _, _⟩) (v := undef) rfl (by kernel_rfl) (by kernel_rfl) (by kernel_rfl) (fun _ _ _ h => h) (Or.inr ⟨by rfl, rfl⟩) hH ?_
    simp only [Act.put, List.setIfInBounds_toArray, List.set_cons_zero, List.set_cons_succ]
    refine wpAnyH_take (i := 4) (oi := ⟨_, _, _, _, _, _⟩) (v := undef) rfl (by kernel_rfl) (by kernel_rfl) (by kernel_rfl) (fun _ _ _ h => h) (Or.inr ⟨by rfl, rfl⟩) hH ?_
    simp only [Act.put, List.setIfInBounds_toArray, List.set_cons_zero, List.set_cons_succ]
    refine wpAnyH_take (i := 5) (oi := ⟨_, _, _, _, _, _⟩) (v := undef) rfl (by kernel_rfl) (by kernel_rfl) (by kernel_rfl) (fun _ _ _ h => h) (Or.inr ⟨by rfl, rfl⟩) hH ?_
    simp only [Act.put, List.setIfInBounds_toArray, List.set_cons_zero, List.set_cons_succ]
    refine wpAnyH_take (i := 6) (oi := ⟨_, _, _, _, _, _⟩) (v := undef) rfl (by kernel_rfl) (by kernel_rfl) (by kernel_rfl) (fun _ _ _ h => h) (Or.inr ⟨by rfl, rfl⟩) hH ?_
    simp only [Act.put, List.setIfInBounds_toArray, List.set_cons_zero, List.set_cons_succ]
    refine wpAnyH_take (i := 7) (oi := ⟨_, _, _, _, _, _⟩) (v := ?_) rfl (by kernel_rfl) (by kernel_rfl) (by kernel_rfl) (fun _ _ _ h => h) (Or.inl ⟨by rfl, ?_⟩) hH ?_
    rotate_left
    · (intro w hSw; (try dsimp only at hSw); go_simp; try (with_reducible rfl))
    simp only [Act.put, List.setIfInBounds_toArray, List.set_cons_zero, List.set_cons_succ]
    refine wpAnyH_take (i := 8) (oi := ⟨_, _, _, _, _, _⟩) (v := ?_) rfl (by kernel_rfl) (by kernel_rfl) (by kernel_rfl) (fun _ _ _ h => h) (Or.inl ⟨by rfl, ?_⟩) hH ?_
    rotate_left
    · (intro w hSw; (try dsimp only at hSw); go_simp; try (with_reducible rfl))
    simp only [Act.put, List.setIfInBounds_toArray, List.set_cons_zero, List.set_cons_succ]
    refine wpAnyH_take (i := 9) (oi := ⟨_, _, _, _, _, _⟩) (v := ?_) rfl (by kernel_rfl) (by kernel_rfl) (by kernel_rfl) (fun _ _ _ h => h) (Or.inl ⟨by rfl, ?_⟩) hH ?_
    rotate_left
    · (intro w hSw; (try dsimp only at hSw); go_simp; try (with_reducible rfl))
    simp only [Act.put, List.setIfInBounds_toArray, List.set_cons_zero, List.set_cons_succ]
    refine wpAnyH_take (i := 10) (oi := ⟨_, _, _, _, _, _⟩) (v := ?_) rfl (by kernel_rfl) (by kernel_rfl) (by kernel_rfl) (fun _ _ _ h => h) (Or.inl ⟨by rfl, ?_⟩) hH ?_
    rotate_left
    · (intro w hSw; (try dsimp only at hSw); go_simp; try (with_reducible rfl))
    simp only [Act.put, List.setIfInBounds_toArray, List.set_cons_zero, List.set_cons_succ]
    refine wpAnyH_take (i := 11) (oi := ⟨_, _, _, _, _, _⟩) (v := ?_) rfl (by kernel_rfl) (by kernel_rfl) (by kernel_rfl) (fun _ _ _ h => h) (Or.inl ⟨by rfl, ?_⟩) hH ?_
    rotate_left
    · (intro w hSw; (try dsimp only at hSw); go_simp; try (with_reducible rfl))
    simp only [Act.put, List.setIfInBounds_toArray, List.set_cons_zero, List.set_cons_succ]
    refine wpAnyH_take (i := 12) (oi := ⟨_, _, _, _, _, _⟩) (v := ?_) rfl (by kernel_rfl) (by kernel_rfl) (by kernel_rfl) (fun _ _ _ h => h) (Or.inl ⟨by rfl, ?_⟩) hH ?_
    rotate_left
    · (intro w hSw; (try dsimp only at hSw); go_simp; try (with_reducible rfl))
    simp only [Act.put, List.setIfInBounds_toArray, List.set_cons_zero, List.set_cons_succ]
    refine wpAnyH_ready (rs := [13]) (by kernel_rfl) (by simp) ?_
    refine AllReadyH.cons (o := ⟨_, _, _, _, _, _⟩) rfl (fun K hK => ?_) AllReadyH.nil
    go_simp
    refine (requal_any an bn aA bA aS ac bs bc al bl ae be _ (va.sl.below hB) (vb.sl.below hB)).mono ?_
    rw [HEQ.out]
    rintro e w8 ⟨rfl, hc⟩
    replace hB := bnext hB hc
    clear hc
    go_wp2_with fail
    refine hK.out _ _ (HK.out _ hB) (fun hH => ?_)
    clear hK K
    refine wpAnyH_take (i := 14) (oi := ⟨_, _, _, _, _, _⟩) (v := ?_) rfl (by kernel_rfl) (by kernel_rfl) (by kernel_rfl) (fun _ _ _ h => h) (Or.inl ⟨by rfl, ?_⟩) hH ?_
    rotate_left
    · (intro w hSw; (try dsimp only at hSw); go_simp; try (with_reducible rfl))
    simp only [Act.put, List.setIfInBounds_toArray, List.set_cons_zero, List.set_cons_succ]
    refine wpAnyH_take (i := 15) (oi := ⟨_, _, _, _, _, _⟩) (v := ?_) rfl (by kernel_rfl) (by kernel_rfl) (by kernel_rfl) (fun _ _ _ h => h) (Or.inl ⟨by rfl, ?_⟩) hH ?_
    rotate_left
    · (intro w hSw; (try dsimp only at hSw); go_simp; try (with_reducible rfl))
    simp only [Act.put, List.setIfInBounds_toArray, List.set_cons_zero, List.set_cons_succ]
    refine wpAnyH_take (i := 16) (oi := ⟨_, _, _, _, _, _⟩) (v := ?_) rfl (by kernel_rfl) (by kernel_rfl) (by kernel_rfl) (fun _ _ _ h => h) (Or.inl ⟨by rfl, ?_⟩) hH ?_
    rotate_left
    · (intro w hSw; (try dsimp only at hSw); go_simp; try (with_reducible rfl))
    simp only [Act.put, List.setIfInBounds_toArray, List.set_cons_zero, List.set_cons_succ]
    refine wpAnyH_take (i := 17) (oi := ⟨_, _, _, _, _, _⟩) (v := ?_) rfl (by kernel_rfl) (by kernel_rfl) (by kernel_rfl) (fun _ _ _ h => h) (Or.inl ⟨by rfl, ?_⟩) hH ?_
    rotate_left
    · (intro w hSw; (try dsimp only at hSw); go_simp; try (with_reducible rfl))
    simp only [Act.put, List.setIfInBounds_toArray, List.set_cons_zero, List.set_cons_succ]
    refine wpAnyH_take (i := 18) (oi := ⟨_, _, _, _, _, _⟩) (v := ?_) rfl (by kernel_rfl) (by kernel_rfl) (by kernel_rfl) (fun _ _ _ h => h) (Or.inl ⟨by rfl, ?_⟩) hH ?_
    rotate_left
    · (intro w hSw; (try dsimp only at hSw); go_simp; try (with_reducible rfl))
    simp only [Act.put, List.setIfInBounds_toArray, List.set_cons_zero, List.set_cons_succ]
    refine wpAnyH_take (i := 20) (oi := ⟨_, _, _, _, _, _⟩) (v := ?_) rfl (by kernel_rfl) (by kernel_rfl) (by kernel_rfl) (fun _ _ _ h => h) (Or.inl ⟨by rfl, ?_⟩) hH ?_
    rotate_left
    · (intro w hSw; (try dsimp only at hSw); go_simp; try (with_reducible rfl))
    simp only [Act.put, List.setIfInBounds_toArray, List.set_cons_zero, List.set_cons_succ]
    refine wpAnyH_ready (rs := [19]) (by kernel_rfl) (by simp) ?_
    refine AllReadyH.cons (o := ⟨_, _, _, _, _, _⟩) rfl (fun K hK => ?_) AllReadyH.nil
    go_simp
    refine (cmpD_any an false aA none aS ac 0 0 al [] ae 0 _ (va.sl.below hB) (SL.nil _) (by omega) (by omega)).mono ?_
    rw [← HSA.out]
    rintro e w9 ⟨rfl, hc⟩
    replace hB := bnext hB hc
    clear hc
    go_wp2_with fail
    refine hK.out _ _ (HK.out _ hB) (fun hH => ?_)
    clear hK K
    refine wpAnyH_ready (rs := [21]) (by kernel_rfl) (by simp) ?_
    refine AllReadyH.cons (o := ⟨_, _, _, _, _, _⟩) rfl (fun K hK => ?_) AllReadyH.nil
    go_simp
    refine (signD_any an aA aS ac al ae _ (va.sl.below hB) (by omega)).mono ?_
    rintro e w10 ⟨rfl, hc⟩
    replace hB := bnext hB hc
    clear hc
    go_wp2_with fail
    refine hK.out _ _ (HK.out _ hB) (fun hH => ?_)
    clear hK K
    refine wpAnyH_take (i := 22) (oi := ⟨_, _, _, _, _, _⟩) (v := ?_) rfl (by kernel_rfl) (by kernel_rfl) (by kernel_rfl) (fun _ _ _ h => h) (Or.inl ⟨by rfl, ?_⟩) hH ?_
    rotate_left
    · (intro w hSw; (try dsimp only at hSw); go_simp; try (with_reducible rfl))
    simp only [Act.put, List.setIfInBounds_toArray, List.set_cons_zero, List.set_cons_succ]
    refine wpAnyH_take (i := 23) (oi := ⟨_, _, _, _, _, _⟩) (v := ?_) rfl (by kernel_rfl) (by kernel_rfl) (by kernel_rfl) (fun _ _ _ h => h) (Or.inl ⟨by rfl, ?_⟩) hH ?_
    rotate_left
    · (intro w hSw; (try dsimp only at hSw); go_simp; try (with_reducible rfl))
    simp only [Act.put, List.setIfInBounds_toArray, List.set_cons_zero, List.set_cons_succ]
    refine wpAnyH_done (by kernel_rfl) ?_ _
    clear hH HK
    replace va := va.next hB
    replace vb := vb.next hB
    replace vc := vc.next hB
    replace vd := vd.next hB
    replace hbw := bnext hbw hB
    replace HT := Lib.hid (HT.out.next hB)
    clear hB
    obtain ⟨⟨⟨xn, xl, xe⟩, xk⟩, hx⟩ : ∃ r, r = addD ⟨an, al, ae⟩ ⟨cn, cl, ce⟩ := ⟨_, rfl⟩
    have Hx := Lib.hid hx
    have hx0 := hx
    have hox := (add_out ha.lt hc.lt hx).1
    dsimp only at hox
    clear hx
    obtain ⟨aq0, aq1, aq2⟩ := va.cells
    obtain ⟨cq0, cq1, cq2⟩ := vc.cells
    go_wp2_with fail
    refine (addD_any an cn aA cA aS ac cs cc al cl ae ce _ va.sl vc.sl HT.out (by omega) (by omega)).mono ?_
    rw [← Hx.out]
    rintro e w11 ⟨xA, xs, xc, rfl, hsx, hfx, hbx⟩
    dsimp only at hsx
    clear hfx
    clear aq0 aq1 aq2 cq0 cq1 cq2
    have hbx2 := bnext hbx (ballo w11 (.cells #[.bool xn, .slice xA xs xc, .int .i64 xe] 27))
    have vx := Var.new w11 xn xe hsx
    have hmx : xs ≤ 300 := by rw [← hsx.len]; omega
    replace va := va.next hbx2
    replace vb := vb.next hbx2
    replace vc := vc.next hbx2
    replace vd := vd.next hbx2
    replace hbw := bnext hbw hbx2
    replace HT := Lib.hid (HT.out.next hbx2)
    clear hbx hbx2 hsx hox
    have HX0 := Lib.hid hx0
    clear hx0
    obtain ⟨⟨⟨yn, yl, ye⟩, yk⟩, hy⟩ : ∃ r, r = addD ⟨bn, bl, be⟩ ⟨cn, cl, ce⟩ := ⟨_, rfl⟩
    have Hy := Lib.hid hy
    have HXY : Hid (xk = 0 → yk = 0 → cmpD ⟨xn, xl, xe⟩ ⟨yn, yl, ye⟩ = k) := by unfold Hid; intro h0 h1; subst h0 h1; rw [HK0.out]; exact cmp_add ha.lt hb.lt hc.lt HX0.out.symm hy.symm
    have hoy := (add_out hb.lt hc.lt hy).1
    dsimp only at hoy
    clear hy
    obtain ⟨bq0, bq1, bq2⟩ := vb.cells
    obtain ⟨cq0, cq1, cq2⟩ := vc.cells
    go_wp2_with fail
    generalize w11.alloc (.cells #[.bool xn, .slice xA xs xc, .int .i64 xe] 27) = W11 at *
    generalize w11.heap.size = gx at *
    refine (addD_any bn cn bA cA bs bc cs cc bl cl be ce _ vb.sl vc.sl HT.out (by omega) (by omega)).mono ?_
    rw [← Hy.out]
    rintro e w12 ⟨yA, ys, yc, rfl, hsy, hfy, hby⟩
    dsimp only at hsy
    clear hfy
    clear bq0 bq1 bq2 cq0 cq1 cq2
    have hby2 := bnext hby (ballo w12 (.cells #[.bool yn, .slice yA ys yc, .int .i64 ye] 27))
    have vy := Var.new w12 yn ye hsy
    have hmy : ys ≤ 300 := by rw [← hsy.len]; omega
    replace va := va.next hby2
    replace vb := vb.next hby2
    replace vc := vc.next hby2
    replace vd := vd.next hby2
    replace vx := vx.next hby2
    replace hbw := bnext hbw hby2
    replace HT := Lib.hid (HT.out.next hby2)
    clear hby hby2 hsy hoy
    obtain ⟨xq0, xq1, xq2⟩ := vx.cells
    obtain ⟨yq0, yq1, yq2⟩ := vy.cells
    obtain ⟨cq0, cq1, cq2⟩ := vc.cells
    by_cases hxk : xk = 0
    · subst hxk
      by_cases hyk : yk = 0
      · subst hyk
        clear xq0 xq1 xq2 yq0 yq1 yq2 cq0 cq1 cq2
        obtain ⟨xq0, xq1, xq2⟩ := vx.cells
        obtain ⟨yq0, yq1, yq2⟩ := vy.cells
        obtain ⟨cq0, cq1, cq2⟩ := vc.cells
        go_wp2_with fail
        generalize w12.alloc (.cells #[.bool yn, .slice yA ys yc, .int .i64 ye] 27) = W12 at *
        generalize w12.heap.size = gy at *
        refine (cmpD_any xn yn xA yA xs xc ys yc xl yl xe ye _ vx.sl vy.sl (by omega) (by omega)).mono ?_
        rw [HXY.out (by simp) (by simp)]
        rintro e w13 ⟨rfl, hb13⟩
        clear xq0 xq1 xq2 yq0 yq1 yq2 cq0 cq1 cq2
        replace va := va.next hb13
        replace vb := vb.next hb13
        replace vc := vc.next hb13
        replace vd := vd.next hb13
        replace vx := vx.next hb13
        replace vy := vy.next hb13
        replace hbw := bnext hbw hb13
        replace HT := Lib.hid (HT.out.next hb13)
        clear hb13
        obtain ⟨cq0, cq1, cq2⟩ := vc.cells
        go_wp2_with fail
        refine (rvalid_any cn cA cs cc cl ce _ vc.sl (by omega)).mono ?_
        rintro e w14 ⟨rfl, hb14⟩
        clear cq0 cq1 cq2
        replace va := va.next hb14
        replace vb := vb.next hb14
        replace vc := vc.next hb14
        replace vd := vd.next hb14
        replace vx := vx.next hb14
        replace vy := vy.next hb14
        replace hbw := bnext hbw hb14
        replace HT := Lib.hid (HT.out.next hb14)
        clear hb14
        cases hvc : vld ⟨cn, cl, ce⟩
        · go_wp2_with fail
          go_ret
          exact ⟨rfl, hbw⟩
        have htr := cmp_trans HVA.out HVB.out hvc
        rw [← HK0.out] at htr
        clear hvc
        by_cases hk0 : 0 < k
        · clear htr
          go_wp2_with fail
          go_ret
          exact ⟨rfl, hbw⟩
        replace htr := htr.resolve_left hk0
        obtain ⟨m, hm⟩ : ∃ m, m = cmpD ⟨bn, bl, be⟩ ⟨cn, cl, ce⟩ := ⟨_, rfl⟩
        have hmb2 := (cmp_anti ⟨bn, bl, be⟩ ⟨cn, cl, ce⟩).2
        rw [← hm] at htr hmb2
        have HM := Lib.hid hm
        clear hm
        obtain ⟨j, hj⟩ : ∃ j, j = cmpD ⟨an, al, ae⟩ ⟨cn, cl, ce⟩ := ⟨_, rfl⟩
        rw [← hj] at htr
        have HJ := Lib.hid hj
        clear hj
        have HTR := Lib.hid htr
        clear htr
        obtain ⟨bq0, bq1, bq2⟩ := vb.cells
        obtain ⟨cq0, cq1, cq2⟩ := vc.cells
        go_wp2_with fail
        refine (cmpD_any bn cn bA cA bs bc cs cc bl cl be ce _ vb.sl vc.sl (by omega) (by omega)).mono ?_
        rw [← HM.out]
        rintro e w15 ⟨rfl, hb15⟩
        clear bq0 bq1 bq2 cq0 cq1 cq2
        replace va := va.next hb15
        replace vb := vb.next hb15
        replace vc := vc.next hb15
        replace vd := vd.next hb15
        replace vx := vx.next hb15
        replace vy := vy.next hb15
        replace hbw := bnext hbw hb15
        replace HT := Lib.hid (HT.out.next hb15)
        clear hb15
        by_cases hm0 : 0 < m
        · go_wp2_with fail
          go_ret
          exact ⟨rfl, hbw⟩
        have hj0 : j ≤ 0 := HTR.out.resolve_left hm0
        obtain ⟨aq0, aq1, aq2⟩ := va.cells
        obtain ⟨cq0, cq1, cq2⟩ := vc.cells
        go_wp2_with fail
        refine (cmpD_any an cn aA cA aS ac cs cc al cl ae ce _ va.sl vc.sl (by omega) (by omega)).mono ?_
        rw [← HJ.out]
        rintro e w16 ⟨rfl, hb16⟩
        clear aq0 aq1 aq2 cq0 cq1 cq2
        replace va := va.next hb16
        replace vb := vb.next hb16
        replace vc := vc.next hb16
        replace vd := vd.next hb16
        replace vx := vx.next hb16
        replace vy := vy.next hb16
        replace hbw := bnext hbw hb16
        replace HT := Lib.hid (HT.out.next hb16)
        clear hb16
        go_wp2_with fail
        go_ret
        exact ⟨by first | rfl | (simp; omega), hbw⟩
      · have hyk' : (yk == 0) = false := by simp; omega
        clear xq0 xq1 xq2 yq0 yq1 yq2 cq0 cq1 cq2
        obtain ⟨cq0, cq1, cq2⟩ := vc.cells
        go_wp2_with fail
        generalize w12.alloc (.cells #[.bool yn, .slice yA ys yc, .int .i64 ye] 27) = W12 at *
        generalize w12.heap.size = gy at *
        refine (rvalid_any cn cA cs cc cl ce _ vc.sl (by omega)).mono ?_
        rintro e w13 ⟨rfl, hb13⟩
        clear cq0 cq1 cq2
        replace va := va.next hb13
        replace vb := vb.next hb13
        replace vc := vc.next hb13
        replace vd := vd.next hb13
        replace vx := vx.next hb13
        replace vy := vy.next hb13
        replace hbw := bnext hbw hb13
        replace HT := Lib.hid (HT.out.next hb13)
        clear hb13
        cases hvc : vld ⟨cn, cl, ce⟩
        · go_wp2_with fail
          go_ret
          exact ⟨rfl, hbw⟩
        have htr := cmp_trans HVA.out HVB.out hvc
        rw [← HK0.out] at htr
        clear hvc
        by_cases hk0 : 0 < k
        · clear htr
          go_wp2_with fail
          go_ret
          exact ⟨rfl, hbw⟩
        replace htr := htr.resolve_left hk0
        obtain ⟨m, hm⟩ : ∃ m, m = cmpD ⟨bn, bl, be⟩ ⟨cn, cl, ce⟩ := ⟨_, rfl⟩
        have hmb2 := (cmp_anti ⟨bn, bl, be⟩ ⟨cn, cl, ce⟩).2
        rw [← hm] at htr hmb2
        have HM := Lib.hid hm
        clear hm
        obtain ⟨j, hj⟩ : ∃ j, j = cmpD ⟨an, al, ae⟩ ⟨cn, cl, ce⟩ := ⟨_, rfl⟩
        rw [← hj] at htr
        have HJ := Lib.hid hj
        clear hj
        have HTR := Lib.hid htr
        clear htr
        obtain ⟨bq0, bq1, bq2⟩ := vb.cells
        obtain ⟨cq0, cq1, cq2⟩ := vc.cells
        go_wp2_with fail
        refine (cmpD_any bn cn bA cA bs bc cs cc bl cl be ce _ vb.sl vc.sl (by omega) (by omega)).mono ?_
        rw [← HM.out]
        rintro e w14 ⟨rfl, hb14⟩
        clear bq0 bq1 bq2 cq0 cq1 cq2
        replace va := va.next hb14
        replace vb := vb.next hb14
        replace vc := vc.next hb14
        replace vd := vd.next hb14
        replace vx := vx.next hb14
        replace vy := vy.next hb14
        replace hbw := bnext hbw hb14
        replace HT := Lib.hid (HT.out.next hb14)
        clear hb14
        by_cases hm0 : 0 < m
        · go_wp2_with fail
          go_ret
          exact ⟨rfl, hbw⟩
        have hj0 : j ≤ 0 := HTR.out.resolve_left hm0
        obtain ⟨aq0, aq1, aq2⟩ := va.cells
        obtain ⟨cq0, cq1, cq2⟩ := vc.cells
        go_wp2_with fail
        refine (cmpD_any an cn aA cA aS ac cs cc al cl ae ce _ va.sl vc.sl (by omega) (by omega)).mono ?_
        rw [← HJ.out]
        rintro e w15 ⟨rfl, hb15⟩
        clear aq0 aq1 aq2 cq0 cq1 cq2
        replace va := va.next hb15
        replace vb := vb.next hb15
        replace vc := vc.next hb15
        replace vd := vd.next hb15
        replace vx := vx.next hb15
        replace vy := vy.next hb15
        replace hbw := bnext hbw hb15
        replace HT := Lib.hid (HT.out.next hb15)
        clear hb15
        go_wp2_with fail
        go_ret
        exact ⟨by first | rfl | (simp; omega), hbw⟩
    · have hxk' : (xk == 0) = false := by simp; omega
      clear xq0 xq1 xq2 yq0 yq1 yq2 cq0 cq1 cq2
      obtain ⟨cq0, cq1, cq2⟩ := vc.cells
      go_wp2_with fail
      generalize w12.alloc (.cells #[.bool yn, .slice yA ys yc, .int .i64 ye] 27) = W12 at *
      generalize w12.heap.size = gy at *
      refine (rvalid_any cn cA cs cc cl ce _ vc.sl (by omega)).mono ?_
      rintro e w13 ⟨rfl, hb13⟩
      clear cq0 cq1 cq2
      replace va := va.next hb13
      replace vb := vb.next hb13
      replace vc := vc.next hb13
      replace vd := vd.next hb13
      replace vx := vx.next hb13
      replace vy := vy.next hb13
      replace hbw := bnext hbw hb13
      replace HT := Lib.hid (HT.out.next hb13)
      clear hb13
      cases hvc : vld ⟨cn, cl, ce⟩
      · go_wp2_with fail
        go_ret
        exact ⟨rfl, hbw⟩
      have htr := cmp_trans HVA.out HVB.out hvc
      rw [← HK0.out] at htr
      clear hvc
      by_cases hk0 : 0 < k
      · clear htr
        go_wp2_with fail
        go_ret
        exact ⟨rfl, hbw⟩
      replace htr := htr.resolve_left hk0
      obtain ⟨m, hm⟩ : ∃ m, m = cmpD ⟨bn, bl, be⟩ ⟨cn, cl, ce⟩ := ⟨_, rfl⟩
      have hmb2 := (cmp_anti ⟨bn, bl, be⟩ ⟨cn, cl, ce⟩).2
      rw [← hm] at htr hmb2
      have HM := Lib.hid hm
      clear hm
      obtain ⟨j, hj⟩ : ∃ j, j = cmpD ⟨an, al, ae⟩ ⟨cn, cl, ce⟩ := ⟨_, rfl⟩
      rw [← hj] at htr
      have HJ := Lib.hid hj
      clear hj
      have HTR := Lib.hid htr
      clear htr
      obtain ⟨bq0, bq1, bq2⟩ := vb.cells
      obtain ⟨cq0, cq1, cq2⟩ := vc.cells
      go_wp2_with fail
      refine (cmpD_any bn cn bA cA bs bc cs cc bl cl be ce _ vb.sl vc.sl (by omega) (by omega)).mono ?_
      rw [← HM.out]
      rintro e w14 ⟨rfl, hb14⟩
      clear bq0 bq1 bq2 cq0 cq1 cq2
      replace va := va.next hb14
      replace vb := vb.next hb14
      replace vc := vc.next hb14
      replace vd := vd.next hb14
      replace vx := vx.next hb14
      replace vy := vy.next hb14
      replace hbw := bnext hbw hb14
      replace HT := Lib.hid (HT.out.next hb14)
      clear hb14
      by_cases hm0 : 0 < m
      · go_wp2_with fail
        go_ret
        exact ⟨rfl, hbw⟩
      have hj0 : j ≤ 0 := HTR.out.resolve_left hm0
      obtain ⟨aq0, aq1, aq2⟩ := va.cells
      obtain ⟨cq0, cq1, cq2⟩ := vc.cells
      go_wp2_with fail
      refine (cmpD_any an cn aA cA aS ac cs cc al cl ae ce _ va.sl vc.sl (by omega) (by omega)).mono ?_
      rw [← HJ.out]
      rintro e w15 ⟨rfl, hb15⟩
      clear aq0 aq1 aq2 cq0 cq1 cq2
      replace va := va.next hb15
      replace vb := vb.next hb15
      replace vc := vc.next hb15
      replace vd := vd.next hb15
      replace vx := vx.next hb15
      replace vy := vy.next hb15
      replace hbw := bnext hbw hb15
      replace HT := Lib.hid (HT.out.next hb15)
      clear hb15
      go_wp2_with fail
      go_ret
      exact ⟨by first | rfl | (simp; omega), hbw⟩

end Go.Proofs.YtjhokljoomeilaaDoor
