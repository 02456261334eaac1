/- Bundle 13: what the laws' walks stand on: C11, C12. -/
import Derived.Test.YtekajoifgdpmlaaGreatDoorZ12
/-! C11 -/
namespace Go.Proofs.YtekajoifgdpmlaaGreatDoor
open Go.RowKit Pl Go.Shelf

def uniC (i k : Nat) (d : Dy) : Bool := eqD d (if i = k then oneD else zeroD)
def uniRow (i : Nat) (l : List Dy) : Bool := allI (uniC i) 0 l
def uniM (m : List (List Dy)) : Bool := allI uniRow 0 m
theorem vld_oneD : vld oneD = true := by kernel_rfl
theorem limbs_one : Limbs oneD.l := by unfold oneD; exact Limbs.single (by omega)
theorem limbs_z : Limbs zeroD.l := by intro x hx; cases hx
theorem id_uni {m : List (List Dy)} (hv : ∀ l ∈ m, ∀ d ∈ l, vld d = true) (hL : ∀ l ∈ m, ∀ d ∈ l, Limbs d.l) : idM m = uniM m := by
  unfold idM uniM
  refine allI_eq _ _ m 0 (fun i l hl => ?_)
  unfold idRow uniRow
  refine allI_eq _ _ l 0 (fun k d hd => ?_)
  have h1 := hv l (List.mem_of_getElem? hl) d (List.mem_of_getElem? hd)
  have h2 := hL l (List.mem_of_getElem? hl) d (List.mem_of_getElem? hd)
  unfold idC uniC
  split
  · rw [← cmp_eq h2 limbs_one h1 vld_oneD]; rfl
  · rw [← cmp_eq h2 limbs_z h1 vld_zero]; rfl
theorem sl_limbs {W : World} {A : Option Addr} {n c : Nat} {l : List Dy} (h : Sl 3 RD W A n c l) : ∀ d ∈ l, Limbs d.l := by
  intro d hd
  obtain ⟨j, hj⟩ := List.getElem?_of_mem hd
  have hlt : j < n := by have := (List.getElem?_eq_some_iff.1 hj).1; have := h.len; omega
  obtain ⟨b, off, x, vs, _, _, hx, _, ⟨A1, n1, c1, _, hs⟩, _⟩ := h.get hlt
  rw [hj] at hx
  injection hx with hx
  rw [hx]; exact hs.lt
theorem slm_limbs {W : World} {A : Option Addr} {n c : Nat} {m : List (List Dy)} (h : Sl 1 RM W A n c m) : ∀ l ∈ m, ∀ d ∈ l, Limbs d.l := by
  intro l hl
  obtain ⟨j, hj⟩ := List.getElem?_of_mem hl
  have hlt : j < n := by have := (List.getElem?_eq_some_iff.1 hj).1; have := h.len; omega
  obtain ⟨b, off, x, vs, _, _, hx, _, ⟨A1, n1, c1, _, hs⟩, _⟩ := h.get hlt
  rw [hj] at hx
  injection hx with hx
  rw [hx]; exact sl_limbs hs

set_option maxRecDepth 100000 in
set_option maxHeartbeats 8000000 in
theorem runit_any (A : Option Addr) (n c : Nat) (m : List (List Dy)) (w : World) (h : Sl 1 RM w A n c m) : Calls Tryz.prog 67 #[.slice A n c] w (Says (uniM m) w) := by
  have m1 := h.cap
  have m2 := h.max
  have HL := Lib.hid h.len
  have HS := Lib.hid h
  clear h
  go_enter Tryz.func67, Tryz.ntmps67
  go_wp2_with fail
  go_loopw [3] (fun v wr => ∃ i : Nat, i ≤ n ∧ v = .int .i64 i ∧ Hid (∀ (j : Nat) (l : List Dy), j < i → m[j]? = some l → uniRow j l = true) ∧ Below w.heap.size w wr) (fun v _ => n - (intOf v).toNat)
  case atStart => exact ⟨0, Nat.zero_le _, rfl, fun j l hj => absurd hj (by omega), Below.refl _ _⟩
  case round =>
    obtain ⟨i, hi, rfl, HZ, hb⟩ := hrel
    by_cases hlt : i < n
    · obtain ⟨b, off, l, vs, rfl, hbl, hml, hk, hR, hc⟩ := HS.out.get hlt
      obtain ⟨A1, n1, c1, rfl, hs⟩ := hR
      have qt := hc 0 _ rfl
      rw [Nat.mul_one, Nat.add_zero] at qt
      have QI := Lib.hid qt
      have HM := Lib.hid hml
      have HS1 := Lib.hid hs
      have HL1 := Lib.hid hs.len
      have m3 := hs.cap
      have m4 := hs.max
      clear hc qt hk hml hs
      go_wp2_with fail
      go_loopw [4] (fun v wi => ∃ k : Nat, k ≤ n1 ∧ v = .int .i64 k ∧ Hid (∀ (j : Nat) (d : Dy), j < k → l[j]? = some d → uniC i j d = true) ∧ Below w.heap.size w wi) (fun v _ => n1 - (intOf v).toNat)
      case atStart => exact ⟨0, Nat.zero_le _, rfl, fun j l hj => absurd hj (by omega), hb⟩
      case round =>
        clear hb
        obtain ⟨k, hk, rfl, HZ1, hb⟩ := hrel
        have q1 := (hb.cell (p := ⟨b, off + i, none⟩) hbl).trans QI.out
        by_cases hlt1 : k < n1
        · obtain ⟨b1, off1, d, us, rfl, hbl1, hd, hk1, hR1, hc1⟩ := HS1.out.get hlt1
          have HR1 := Lib.hid (fun W (hW : Below w.heap.size w W) => lasts_RD _ _ _ _ hR1 hW)
          obtain ⟨DA, dm, dc, rfl, hsd⟩ := hR1
          obtain ⟨dn, dl, de⟩ := d
          dsimp only at HR1 hc1
          have C0 : Hid (w.cell? ⟨b1, off1 + k * 3, none⟩ = some (.bool dn)) := hc1 0 _ rfl
          have C1 : Hid (w.cell? ⟨b1, off1 + k * 3 + 1, none⟩ = some (.slice DA dm dc)) := hc1 1 _ rfl
          have C2 : Hid (w.cell? ⟨b1, off1 + k * 3 + 2, none⟩ = some (.int .i64 de)) := hc1 2 _ rfl
          have HD := Lib.hid hd
          clear hd hc1 hk1 hsd
          by_cases hik : i = k
          · have HE : Hid (uniC i k ⟨dn, dl, de⟩ = eqD ⟨dn, dl, de⟩ oneD) := by unfold Hid uniC; rw [if_pos hik]
            have hik2 : ((i : Int) == (k : Int)) = true := by rw [hik]; simp
            clear hik
            go_wp2_with fail
            refine (rint_zero _).mono ?_
            rintro e w1 ⟨ZA, zn, zc, rfl, hs0, hf0, hb1⟩
            clear q1
            replace hb := bthen hb hb1 (Nat.le_refl _)
            clear hb1 hs0 hf0
            have hgz := hb.size
            have kz := Blk.new w1 25 #[.bool false, .slice ZA zn zc, .int .i64 0]
            have hb1 := ballo w1 (.cells #[.bool false, .slice ZA zn zc, .int .i64 0] 25)
            replace hb := bthen hb hb1 (Nat.le_refl _)
            clear hb1
            go_wp2_with fail
            generalize w1.alloc (.cells #[.bool false, .slice ZA zn zc, .int .i64 0] 25) = W2 at *
            generalize w1.heap.size = gz at *
            refine (rint_one _).mono ?_
            rintro e w2 ⟨OA, on, oc, rfl, hs1, hf1, hb1⟩
            replace hb := bthen hb hb1 (Nat.le_refl _)
            have hoff := Off.fresh hf1 kz.lt
            replace kz := kz.next hb1
            clear hb1 hf1
            dsimp only at hs1
            obtain ⟨z0, z1, z2⟩ := kz.cells3
            have f0 := kz.frozen 0
            have f1 := kz.frozen 1
            have f2 := kz.frozen 2
            have KZ := kz.set3 (.bool false) (.slice OA on oc) (.int .i64 0)
            have hsz := hs1.off3 hoff (.bool false) (.slice OA on oc) (.int .i64 0)
            have HB := below_set3 hb hgz (.bool false) (.slice OA on oc) (.int .i64 0)
            go_wp2_with fail
            generalize ((w2.setCell ⟨gz, 0, none⟩ (.bool false)).setCell ⟨gz, 1, none⟩ (.slice OA on oc)).setCell ⟨gz, 2, none⟩ (.int .i64 0) = W9 at *
            clear z0 z1 z2 f0 f1 f2 kz hs1 hb
            have kz := KZ
            have hb := HB
            clear KZ HB
            have HK : Hid (∀ V, Below W9.heap.size W9 V → (fun V => V.cell? ⟨b, off + i, none⟩ = some (.slice (some ⟨b1, off1, none⟩) n1 c1) ∧ (V.cell? ⟨b1, off1 + k * 3, none⟩ = some (.bool dn) ∧ V.cell? ⟨b1, off1 + k * 3 + 1, none⟩ = some (.slice DA dm dc) ∧ V.cell? ⟨b1, off1 + k * 3 + 2, none⟩ = some (.int .i64 de)) ∧ (V.cell? ⟨gz, 0, none⟩ = some (.bool false) ∧ V.cell? ⟨gz, 1, none⟩ = some (.slice OA on oc) ∧ V.cell? ⟨gz, 2, none⟩ = some (.int .i64 0)) ∧ Below W9.heap.size W9 V) V) := fun V hV => ⟨(hb.trans (hV.mono hb.size) |>.cell (p := ⟨b, off + i, none⟩) hbl).trans QI.out, ⟨((hb.trans (hV.mono hb.size)).cell (p := ⟨b1, off1 + k * 3, none⟩) hbl1).trans C0.out, ((hb.trans (hV.mono hb.size)).cell (p := ⟨b1, off1 + k * 3 + 1, none⟩) hbl1).trans C1.out, ((hb.trans (hV.mono hb.size)).cell (p := ⟨b1, off1 + k * 3 + 2, none⟩) hbl1).trans C2.out⟩, (kz.next hV).cells3, hV⟩
            have hB := bdrew W9
            refine wp_region_held_drew (S := (fun V => V.cell? ⟨b, off + i, none⟩ = some (.slice (some ⟨b1, off1, none⟩) n1 c1) ∧ (V.cell? ⟨b1, off1 + k * 3, none⟩ = some (.bool dn) ∧ V.cell? ⟨b1, off1 + k * 3 + 1, none⟩ = some (.slice DA dm dc) ∧ V.cell? ⟨b1, off1 + k * 3 + 2, none⟩ = some (.int .i64 de)) ∧ (V.cell? ⟨gz, 0, none⟩ = some (.bool false) ∧ V.cell? ⟨gz, 1, none⟩ = some (.slice OA on oc) ∧ V.cell? ⟨gz, 2, none⟩ = some (.int .i64 0)) ∧ Below W9.heap.size W9 V)) (by kernel_rfl) (HK.out _ hB) (fun hH => ?_)
            refine wpAnyH_take (i := 0) (oi := ⟨_, _, _, _, _, _⟩) (v := ?_) rfl (by kernel_rfl) (by kernel_rfl) (by kernel_rfl) (fun _ _ _ h => h) (Or.inl ⟨by rfl, ?_⟩) hH ?_
            rotate_left
            · (intro w hSw; (try dsimp only at hSw); go_simp; try (with_reducible rfl))
            simp only [Act.put, List.setIfInBounds_toArray, List.set_cons_zero, List.set_cons_succ]
            refine wpAnyH_take (i := 1) (oi := ⟨_, _, _, _, _, _⟩) (v := ?_) rfl (by kernel_rfl) (by kernel_rfl) (by kernel_rfl) (fun _ _ _ h => h) (Or.inl ⟨by rfl, ?_⟩) hH ?_
            rotate_left
            · (intro w hSw; (try dsimp only at hSw); go_simp; try (with_reducible rfl))
            simp only [Act.put, List.setIfInBounds_toArray, List.set_cons_zero, List.set_cons_succ]
            refine wpAnyH_take (i := 2) (oi := ⟨_, _, _, _, _, _⟩) (v := ?_) rfl (by kernel_rfl) (by kernel_rfl) (by kernel_rfl) (fun _ _ _ h => h) (Or.inl ⟨by rfl, ?_⟩) hH ?_
            rotate_left
            · (intro w hSw; (try dsimp only at hSw); go_simp; try (with_reducible rfl))
            simp only [Act.put, List.setIfInBounds_toArray, List.set_cons_zero, List.set_cons_succ]
            refine wpAnyH_take (i := 3) (oi := ⟨_, _, _, _, _, _⟩) (v := ?_) rfl (by kernel_rfl) (by kernel_rfl) (by kernel_rfl) (fun _ _ _ h => h) (Or.inl ⟨by rfl, ?_⟩) hH ?_
            rotate_left
            · (intro w hSw; (try dsimp only at hSw); go_simp; try (with_reducible rfl))
            simp only [Act.put, List.setIfInBounds_toArray, List.set_cons_zero, List.set_cons_succ]
            refine wpAnyH_take (i := 4) (oi := ⟨_, _, _, _, _, _⟩) (v := ?_) rfl (by kernel_rfl) (by kernel_rfl) (by kernel_rfl) (fun _ _ _ h => h) (Or.inl ⟨by rfl, ?_⟩) hH ?_
            rotate_left
            · (intro w hSw; (try dsimp only at hSw); go_simp; try (with_reducible rfl))
            simp only [Act.put, List.setIfInBounds_toArray, List.set_cons_zero, List.set_cons_succ]
            refine wpAnyH_take (i := 5) (oi := ⟨_, _, _, _, _, _⟩) (v := ?_) rfl (by kernel_rfl) (by kernel_rfl) (by kernel_rfl) (fun _ _ _ h => h) (Or.inl ⟨by rfl, ?_⟩) hH ?_
            rotate_left
            · (intro w hSw; (try dsimp only at hSw); go_simp; try (with_reducible rfl))
            simp only [Act.put, List.setIfInBounds_toArray, List.set_cons_zero, List.set_cons_succ]
            refine wpAnyH_take (i := 6) (oi := ⟨_, _, _, _, _, _⟩) (v := ?_) rfl (by kernel_rfl) (by kernel_rfl) (by kernel_rfl) (fun _ _ _ h => h) (Or.inl ⟨by rfl, ?_⟩) hH ?_
            rotate_left
            · (intro w hSw; (try dsimp only at hSw); go_simp; try (with_reducible rfl))
            simp only [Act.put, List.setIfInBounds_toArray, List.set_cons_zero, List.set_cons_succ]
            refine wpAnyH_take (i := 7) (oi := ⟨_, _, _, _, _, _⟩) (v := ?_) rfl (by kernel_rfl) (by kernel_rfl) (by kernel_rfl) (fun _ _ _ h => h) (Or.inl ⟨by rfl, ?_⟩) hH ?_
            rotate_left
            · (intro w hSw; (try dsimp only at hSw); go_simp; try (with_reducible rfl))
            simp only [Act.put, List.setIfInBounds_toArray, List.set_cons_zero, List.set_cons_succ]
            refine wpAnyH_ready (rs := [8]) (by kernel_rfl) (by simp) ?_
            refine AllReadyH.cons (o := ⟨_, _, _, _, _, _⟩) rfl (fun K hK => ?_) AllReadyH.nil
            go_simp
            refine (requal_R _ [.bool false, .slice OA on oc, .int .i64 0] ⟨dn, dl, de⟩ oneD _ (HR1.out _ (bthen hb hB (Nat.le_refl _))) ⟨OA, on, oc, rfl, hsz.below hB⟩).mono ?_
            rintro e wq ⟨rfl, hc⟩
            replace hB := bnext hB hc
            clear hc
            generalize eqD ⟨dn, dl, de⟩ oneD = r at *
            go_wp2_with fail
            refine hK.out _ _ (HK.out _ hB) (fun hH => ?_)
            clear hK K
            refine wpAnyH_take (i := 9) (oi := ⟨_, _, _, _, _, _⟩) (v := ?_) rfl (by kernel_rfl) (by kernel_rfl) (by kernel_rfl) (fun _ _ _ h => h) (Or.inl ⟨by rfl, ?_⟩) hH ?_
            rotate_left
            · (intro w hSw; (try dsimp only at hSw); go_simp; try (with_reducible rfl))
            simp only [Act.put, List.setIfInBounds_toArray, List.set_cons_zero, List.set_cons_succ]
            refine wpAnyH_done (by kernel_rfl) ?_ _
            clear hH HK
            replace hb := bthen hb hB (Nat.le_refl _)
            clear hB
            cases r
            · have HC : Hid (uniC i k ⟨dn, dl, de⟩ = false) := HE.out
              clear HE
              go_wp2_with fail
              go_ret
              refine ⟨?_, hb⟩
              have hrow : uniRow i l = false := by
                unfold uniRow
                exact allI_no _ l 0 k _ HD.out (by rw [Nat.zero_add]; exact HC.out)
              have : uniM m = false := by
                unfold uniM
                exact allI_no _ m 0 i _ HM.out (by rw [Nat.zero_add]; exact hrow)
              rw [this]
              rfl
            · have HC : Hid (uniC i k ⟨dn, dl, de⟩ = true) := HE.out
              clear HE
              go_wp2_with fail
              go_roundw
              case rel => exact ⟨k + 1, by omega, by go_num, fun j d' hj hd' => by
                by_cases hjk : j < k
                · exact HZ1.out j d' hjk hd'
                · obtain rfl : j = k := by omega
                  rw [HD.out] at hd'
                  injection hd' with hd'
                  rw [← hd']; exact HC.out, hb⟩
              case measure => simp [intOf]; omega
          · have HE : Hid (uniC i k ⟨dn, dl, de⟩ = eqD ⟨dn, dl, de⟩ zeroD) := by unfold Hid uniC; rw [if_neg hik]
            have hik2 : ((i : Int) == (k : Int)) = false := by rw [beq_eq_false_iff_ne]; omega
            clear hik
            go_wp2_with fail
            refine (rint_zero _).mono ?_
            rintro e w1 ⟨ZA, zn, zc, rfl, hs0, hf0, hb1⟩
            clear q1
            replace hb := bthen hb hb1 (Nat.le_refl _)
            clear hb1 hf0
            dsimp only at hs0
            have kz := Blk.new w1 25 #[.bool false, .slice ZA zn zc, .int .i64 0]
            have hb1 := ballo w1 (.cells #[.bool false, .slice ZA zn zc, .int .i64 0] 25)
            replace hb := bthen hb hb1 (Nat.le_refl _)
            have hsz := hs0.below hb1
            clear hb1 hs0
            go_wp2_with fail
            generalize w1.alloc (.cells #[.bool false, .slice ZA zn zc, .int .i64 0] 25) = W9 at *
            generalize w1.heap.size = gz at *
            have HK : Hid (∀ V, Below W9.heap.size W9 V → (fun V => V.cell? ⟨b, off + i, none⟩ = some (.slice (some ⟨b1, off1, none⟩) n1 c1) ∧ (V.cell? ⟨b1, off1 + k * 3, none⟩ = some (.bool dn) ∧ V.cell? ⟨b1, off1 + k * 3 + 1, none⟩ = some (.slice DA dm dc) ∧ V.cell? ⟨b1, off1 + k * 3 + 2, none⟩ = some (.int .i64 de)) ∧ (V.cell? ⟨gz, 0, none⟩ = some (.bool false) ∧ V.cell? ⟨gz, 1, none⟩ = some (.slice ZA zn zc) ∧ V.cell? ⟨gz, 2, none⟩ = some (.int .i64 0)) ∧ Below W9.heap.size W9 V) V) := fun V hV => ⟨(hb.trans (hV.mono hb.size) |>.cell (p := ⟨b, off + i, none⟩) hbl).trans QI.out, ⟨((hb.trans (hV.mono hb.size)).cell (p := ⟨b1, off1 + k * 3, none⟩) hbl1).trans C0.out, ((hb.trans (hV.mono hb.size)).cell (p := ⟨b1, off1 + k * 3 + 1, none⟩) hbl1).trans C1.out, ((hb.trans (hV.mono hb.size)).cell (p := ⟨b1, off1 + k * 3 + 2, none⟩) hbl1).trans C2.out⟩, (kz.next hV).cells3, hV⟩
            have hB := bdrew W9
            refine wp_region_held_drew (S := (fun V => V.cell? ⟨b, off + i, none⟩ = some (.slice (some ⟨b1, off1, none⟩) n1 c1) ∧ (V.cell? ⟨b1, off1 + k * 3, none⟩ = some (.bool dn) ∧ V.cell? ⟨b1, off1 + k * 3 + 1, none⟩ = some (.slice DA dm dc) ∧ V.cell? ⟨b1, off1 + k * 3 + 2, none⟩ = some (.int .i64 de)) ∧ (V.cell? ⟨gz, 0, none⟩ = some (.bool false) ∧ V.cell? ⟨gz, 1, none⟩ = some (.slice ZA zn zc) ∧ V.cell? ⟨gz, 2, none⟩ = some (.int .i64 0)) ∧ Below W9.heap.size W9 V)) (by kernel_rfl) (HK.out _ hB) (fun hH => ?_)
            refine wpAnyH_take (i := 0) (oi := ⟨_, _, _, _, _, _⟩) (v := ?_) rfl (by kernel_rfl) (by kernel_rfl) (by kernel_rfl) (fun _ _ _ h => h) (Or.inl ⟨by rfl, ?_⟩) hH ?_
            rotate_left
            · (intro w hSw; (try dsimp only at hSw); go_simp; try (with_reducible rfl))
            simp only [Act.put, List.setIfInBounds_toArray, List.set_cons_zero, List.set_cons_succ]
            refine wpAnyH_take (i := 1) (oi := ⟨_, _, _, _, _, _⟩) (v := ?_) rfl (by kernel_rfl) (by kernel_rfl) (by kernel_rfl) (fun _ _ _ h => h) (Or.inl ⟨by rfl, ?_⟩) hH ?_
            rotate_left
            · (intro w hSw; (try dsimp only at hSw); go_simp; try (with_reducible rfl))
            simp only [Act.put, List.setIfInBounds_toArray, List.set_cons_zero, List.set_cons_succ]
            refine wpAnyH_take (i := 2) (oi := ⟨_, _, _, _, _, _⟩) (v := ?_) rfl (by kernel_rfl) (by kernel_rfl) (by kernel_rfl) (fun _ _ _ h => h) (Or.inl ⟨by rfl, ?_⟩) hH ?_
            rotate_left
            · (intro w hSw; (try dsimp only at hSw); go_simp; try (with_reducible rfl))
            simp only [Act.put, List.setIfInBounds_toArray, List.set_cons_zero, List.set_cons_succ]
            refine wpAnyH_take (i := 3) (oi := ⟨_, _, _, _, _, _⟩) (v := ?_) rfl (by kernel_rfl) (by kernel_rfl) (by kernel_rfl) (fun _ _ _ h => h) (Or.inl ⟨by rfl, ?_⟩) hH ?_
            rotate_left
            · (intro w hSw; (try dsimp only at hSw); go_simp; try (with_reducible rfl))
            simp only [Act.put, List.setIfInBounds_toArray, List.set_cons_zero, List.set_cons_succ]
            refine wpAnyH_take (i := 4) (oi := ⟨_, _, _, _, _, _⟩) (v := ?_) rfl (by kernel_rfl) (by kernel_rfl) (by kernel_rfl) (fun _ _ _ h => h) (Or.inl ⟨by rfl, ?_⟩) hH ?_
            rotate_left
            · (intro w hSw; (try dsimp only at hSw); go_simp; try (with_reducible rfl))
            simp only [Act.put, List.setIfInBounds_toArray, List.set_cons_zero, List.set_cons_succ]
            refine wpAnyH_take (i := 5) (oi := ⟨_, _, _, _, _, _⟩) (v := ?_) rfl (by kernel_rfl) (by kernel_rfl) (by kernel_rfl) (fun _ _ _ h => h) (Or.inl ⟨by rfl, ?_⟩) hH ?_
            rotate_left
            · (intro w hSw; (try dsimp only at hSw); go_simp; try (with_reducible rfl))
            simp only [Act.put, List.setIfInBounds_toArray, List.set_cons_zero, List.set_cons_succ]
            refine wpAnyH_take (i := 6) (oi := ⟨_, _, _, _, _, _⟩) (v := ?_) rfl (by kernel_rfl) (by kernel_rfl) (by kernel_rfl) (fun _ _ _ h => h) (Or.inl ⟨by rfl, ?_⟩) hH ?_
            rotate_left
            · (intro w hSw; (try dsimp only at hSw); go_simp; try (with_reducible rfl))
            simp only [Act.put, List.setIfInBounds_toArray, List.set_cons_zero, List.set_cons_succ]
            refine wpAnyH_take (i := 7) (oi := ⟨_, _, _, _, _, _⟩) (v := ?_) rfl (by kernel_rfl) (by kernel_rfl) (by kernel_rfl) (fun _ _ _ h => h) (Or.inl ⟨by rfl, ?_⟩) hH ?_
            rotate_left
            · (intro w hSw; (try dsimp only at hSw); go_simp; try (with_reducible rfl))
            simp only [Act.put, List.setIfInBounds_toArray, List.set_cons_zero, List.set_cons_succ]
            refine wpAnyH_ready (rs := [8]) (by kernel_rfl) (by simp) ?_
            refine AllReadyH.cons (o := ⟨_, _, _, _, _, _⟩) rfl (fun K hK => ?_) AllReadyH.nil
            go_simp
            refine (requal_R _ [.bool false, .slice ZA zn zc, .int .i64 0] ⟨dn, dl, de⟩ zeroD _ (HR1.out _ (bthen hb hB (Nat.le_refl _))) ⟨ZA, zn, zc, rfl, hsz.below hB⟩).mono ?_
            rintro e wq ⟨rfl, hc⟩
            replace hB := bnext hB hc
            clear hc
            generalize eqD ⟨dn, dl, de⟩ zeroD = r at *
            go_wp2_with fail
            refine hK.out _ _ (HK.out _ hB) (fun hH => ?_)
            clear hK K
            refine wpAnyH_take (i := 9) (oi := ⟨_, _, _, _, _, _⟩) (v := ?_) rfl (by kernel_rfl) (by kernel_rfl) (by kernel_rfl) (fun _ _ _ h => h) (Or.inl ⟨by rfl, ?_⟩) hH ?_
            rotate_left
            · (intro w hSw; (try dsimp only at hSw); go_simp; try (with_reducible rfl))
            simp only [Act.put, List.setIfInBounds_toArray, List.set_cons_zero, List.set_cons_succ]
            refine wpAnyH_done (by kernel_rfl) ?_ _
            clear hH HK
            replace hb := bthen hb hB (Nat.le_refl _)
            clear hB
            cases r
            · have HC : Hid (uniC i k ⟨dn, dl, de⟩ = false) := HE.out
              clear HE
              go_wp2_with fail
              go_ret
              refine ⟨?_, hb⟩
              have hrow : uniRow i l = false := by
                unfold uniRow
                exact allI_no _ l 0 k _ HD.out (by rw [Nat.zero_add]; exact HC.out)
              have : uniM m = false := by
                unfold uniM
                exact allI_no _ m 0 i _ HM.out (by rw [Nat.zero_add]; exact hrow)
              rw [this]
              rfl
            · have HC : Hid (uniC i k ⟨dn, dl, de⟩ = true) := HE.out
              clear HE
              go_wp2_with fail
              go_roundw
              case rel => exact ⟨k + 1, by omega, by go_num, fun j d' hj hd' => by
                by_cases hjk : j < k
                · exact HZ1.out j d' hjk hd'
                · obtain rfl : j = k := by omega
                  rw [HD.out] at hd'
                  injection hd' with hd'
                  rw [← hd']; exact HC.out, hb⟩
              case measure => simp [intOf]; omega
        · have HRow : Hid (uniRow i l = true) := by
            unfold Hid uniRow
            refine allI_yes _ l 0 (fun j d hd => ?_)
            rw [Nat.zero_add]
            refine HZ1.out j d ?_ hd
            have := (List.getElem?_eq_some_iff.1 hd).1
            have := HL1.out
            omega
          go_wp2_with fail
          go_roundw
          case rel => exact ⟨i + 1, by omega, by go_num, fun j l' hj hl' => by
            by_cases hji : j < i
            · exact HZ.out j l' hji hl'
            · obtain rfl : j = i := by omega
              rw [HM.out] at hl'
              injection hl' with hl'
              rw [← hl']; exact HRow.out, hb⟩
          case measure => simp [intOf]; omega
    · go_wp2_with fail
      go_ret
      refine ⟨?_, hb⟩
      have : uniM m = true := by
        unfold uniM
        refine allI_yes _ m 0 (fun j l hl => ?_)
        rw [Nat.zero_add]
        refine HZ.out j l ?_ hl
        have := (List.getElem?_eq_some_iff.1 hl).1
        have := HL.out
        omega
      rw [this]
      rfl

end Go.Proofs.YtekajoifgdpmlaaGreatDoor

/-! C12 -/
namespace Go.Proofs.YtekajoifgdpmlaaGreatDoor
open Go.RowKit Pl Go.Shelf

theorem lkV_ref {x : Lk} {N vn : Nat} (h1 : 1 ≤ N) (h4 : N ≤ 4) (hv : x.v.length = vn) : lkV N x = (vld x.h && decide (0 < sgnD x.h) && boxV x.tube && decide (x.tube.length = N) && (frV x.e && decide (x.e.c.length = N)) && decide (vn = N) && numV x.v && decide ((x.v.headD []).length = N)) := by
  unfold lkV sqV
  rw [hv]
  have e : x.v.any (fun l => decide (l.length ≠ N) || l.any (fun d => !vld d)) = x.v.any (rowBad N) := rfl
  rw [e]
  by_cases hn : vn = N
  · have := num_of (a := x.v) h1 (by omega) (by omega)
    rw [← this, decide_eq_true hn]
    simp only [Bool.and_true, Bool.true_and, Bool.and_assoc]
  · rw [decide_eq_false hn]
    simp
theorem frV_vld {f : Fr} (h : frV f = true) : ∀ l ∈ f.a, ∀ d ∈ l, vld d = true := by
  unfold frV at h
  simp only [Bool.and_eq_true, Bool.not_eq_true', List.any_eq_false, Bool.or_eq_true, not_or] at h
  intro l hl d hd
  have := (h.1.2 l hl).2
  rw [Bool.not_eq_true, List.any_eq_false] at this
  have h2 := this d hd
  simpa using h2

set_option maxRecDepth 100000 in
set_option maxHeartbeats 16000000 in
theorem rcertValid_any (vs : List Value) (x : Ct) (w : World) (h : RC w vs x) (hx : BdC x) : Calls Tryz.prog 17 #[.agg vs.toArray] w (Says (ctV x) w) := by
  obtain ⟨A, n, c, B, m, d, C, p, q, L, ln, lc, rfl, h1, h2, h3, h4⟩ := h
  obtain ⟨pr, od, st, ls⟩ := x
  dsimp only at h1 h2 h3 h4 ⊢
  have HV : Hid (ctV ⟨pr, od, st, ls⟩ = (decide (8 ≤ pr) && decide (pr ≤ 256) && decide (1 ≤ od) && decide (od ≤ 15) && decide (1 ≤ n) && decide (n ≤ 4) && frV st && uniM st.a && decide (ln ≤ 1000) && !ls.any (fun l => !lkV n l))) := by
    unfold Hid ctV
    dsimp only
    rw [h1.len, h4.len]
    cases hf : frV st
    · simp
    · rw [← id_uni (frV_vld hf) (slm_limbs h2)]
      generalize ls.any (fun l => !lkV n l) = x1
      generalize idM st.a = x2
      generalize decide (ln ≤ 1000) = x3
      generalize decide (1 ≤ n) = x4
      generalize decide (n ≤ 4) = x5
      cases x1 <;> cases x2 <;> cases x3 <;> cases x4 <;> cases x5 <;> simp
  have r2 : RF w [.slice A n c, .slice B m d, .slice C p q] st := ⟨A, n, c, B, m, d, C, p, q, rfl, h1, h2, h3⟩
  have H1 := Lib.hid (fun W (hb : Below w.heap.size w W) => rframe_any n _ st W (lasts_RF w W _ _ r2 hb) hx.s)
  have H2 := Lib.hid (fun W (hb : Below w.heap.size w W) => runit_any B m d st.a W (h2.next lasts_RM hb))
  rw [h1.len, decide_eq_true (rfl : n = n)] at H1
  have m1 := h1.cap
  have m2 := h1.max
  have m3 := h4.cap
  have m4 := h4.max
  have HS := Lib.hid h4
  have HL := Lib.hid h4.len
  have HX := Lib.hid hx.l
  have hb0 := ballo w (.cells #[.int .i64 pr, .int .i64 od, .slice A n c, .slice B m d, .slice C p q, .slice L ln lc] 42)
  have k0 := Blk.new w 42 #[.int .i64 pr, .int .i64 od, .slice A n c, .slice B m d, .slice C p q, .slice L ln lc]
  clear h1 h2 h3 h4 r2 hx
  generalize uniM st.a = ri at *
  generalize frV st = rf at *
  by_cases e1 : 8 ≤ pr
  rotate_left
  · rw [decide_eq_false e1] at HV
    clear k0 H1 H2 HS HX
    go_enter Tryz.func17, Tryz.ntmps17
    go_wp2_with fail
    go_ret
    exact ⟨by rw [HV.out]; first | rfl | simp, hb0⟩
  rw [decide_eq_true e1] at HV
  by_cases e2 : pr ≤ 256
  rotate_left
  · rw [decide_eq_false e2] at HV
    clear k0 H1 H2 HS HX
    go_enter Tryz.func17, Tryz.ntmps17
    go_wp2_with fail
    go_ret
    exact ⟨by rw [HV.out]; first | rfl | simp, hb0⟩
  rw [decide_eq_true e2] at HV
  by_cases e3 : 1 ≤ od
  rotate_left
  · rw [decide_eq_false e3] at HV
    clear k0 H1 H2 HS HX
    go_enter Tryz.func17, Tryz.ntmps17
    go_wp2_with fail
    go_ret
    exact ⟨by rw [HV.out]; first | rfl | simp, hb0⟩
  rw [decide_eq_true e3] at HV
  by_cases e4 : od ≤ 15
  rotate_left
  · rw [decide_eq_false e4] at HV
    clear k0 H1 H2 HS HX
    go_enter Tryz.func17, Tryz.ntmps17
    go_wp2_with fail
    go_ret
    exact ⟨by rw [HV.out]; first | rfl | simp, hb0⟩
  rw [decide_eq_true e4] at HV
  by_cases e6 : 1 ≤ n
  rotate_left
  · rw [decide_eq_false e6] at HV
    clear k0 H1 H2 HS HX
    go_enter Tryz.func17, Tryz.ntmps17
    go_wp2_with fail
    go_ret
    exact ⟨by rw [HV.out]; first | rfl | simp, hb0⟩
  rw [decide_eq_true e6] at HV
  by_cases e7 : n ≤ 4
  rotate_left
  · rw [decide_eq_false e7] at HV
    clear k0 H1 H2 HS HX
    go_enter Tryz.func17, Tryz.ntmps17
    go_wp2_with fail
    go_ret
    exact ⟨by rw [HV.out]; first | rfl | simp, hb0⟩
  rw [decide_eq_true e7] at HV
  go_enter Tryz.func17, Tryz.ntmps17
  go_wp2_with fail
  generalize w.alloc (.cells #[.int .i64 pr, .int .i64 od, .slice A n c, .slice B m d, .slice C p q, .slice L ln lc] 42) = W0 at *
  refine (H1.out _ hb0).mono ?_
  rintro e w1 ⟨rfl, hb1x⟩
  replace hb0 := bnext hb0 hb1x
  replace k0 := k0.next hb1x
  clear hb1x
  cases hv1 : rf
  · rw [hv1] at HV
    clear hv1
    go_wp2_with fail
    go_ret
    exact ⟨by rw [HV.out]; first | rfl | simp, hb0⟩
  rw [hv1] at HV
  clear hv1
  obtain ⟨k0q0, k0q1, k0q2, k0q3, k0q4, k0q5⟩ := k0.cells6
  go_wp2_with fail
  refine (H2.out _ hb0).mono ?_
  rintro e w2 ⟨rfl, hb2x⟩
  clear k0q0 k0q1 k0q2 k0q3 k0q4 k0q5
  replace hb0 := bnext hb0 hb2x
  replace k0 := k0.next hb2x
  clear hb2x
  cases hv1 : ri
  · rw [hv1] at HV
    clear hv1
    go_wp2_with fail
    go_ret
    exact ⟨by rw [HV.out]; first | rfl | simp, hb0⟩
  rw [hv1] at HV
  clear hv1
  by_cases e5 : ln ≤ 1000
  rotate_left
  · rw [decide_eq_false e5] at HV
    obtain ⟨k0q0, k0q1, k0q2, k0q3, k0q4, k0q5⟩ := k0.cells6
    go_wp2_with fail
    go_ret
    exact ⟨by rw [HV.out]; first | rfl | simp, hb0⟩
  rw [decide_eq_true e5] at HV
  have HV2 : Hid (ctV ⟨pr, od, st, ls⟩ = !ls.any (fun l => !lkV n l)) := by unfold Hid; rw [HV.out]; simp
  clear HV
  obtain ⟨k0q0, k0q1, k0q2, k0q3, k0q4, k0q5⟩ := k0.cells6
  go_wp2_with fail
  clear k0q0 k0q1 k0q2 k0q3 k0q4 k0q5
  go_loopw [4] (fun v wr => ∃ i : Nat, i ≤ ln ∧ v = .int .i64 i ∧ Hid (∀ (j : Nat) (y : Lk), j < i → ls[j]? = some y → (!lkV n y) = false) ∧ Below w.heap.size w wr ∧ Blk wr w.heap.size 42 #[.int .i64 pr, .int .i64 od, .slice A n c, .slice B m d, .slice C p q, .slice L ln lc]) (fun v _ => ln - (intOf v).toNat)
  case atStart => exact ⟨0, Nat.zero_le _, rfl, fun j l hj => absurd hj (by omega), hb0, k0⟩
  case round =>
    clear hb0 k0
    obtain ⟨i, hi, rfl, HZ, hbr, k0⟩ := hrel
    obtain ⟨k0q0, k0q1, k0q2, k0q3, k0q4, k0q5⟩ := k0.cells6
    by_cases hlt : i < ln
    · obtain ⟨b, off, y, us, rfl, hbl, hyi, hk, hR, hcc⟩ := HS.out.get hlt
      have hxl := HX.out y (List.mem_of_getElem? hyi)
      have HYI := Lib.hid hyi
      obtain ⟨⟨dn, dl, de⟩, tube, fe, v⟩ := y
      obtain ⟨H, hn, hc, T, tn, tc, A1, n1, c1, B1, m1', d1, C1, p1, cq, V, vn, vc, rfl, g1, g2, g3, g4, g5, g6⟩ := hR
      dsimp only at g1 g2 g3 g4 g5 g6 hcc
      have q0 := (hbr.cell (p := ⟨b, off + i * 8, none⟩) hbl).trans (hcc 0 _ rfl)
      have q1 := (hbr.cell (p := ⟨b, off + i * 8 + 1, none⟩) hbl).trans (hcc 1 _ rfl)
      have q2 := (hbr.cell (p := ⟨b, off + i * 8 + 2, none⟩) hbl).trans (hcc 2 _ rfl)
      have q3 := (hbr.cell (p := ⟨b, off + i * 8 + 3, none⟩) hbl).trans (hcc 3 _ rfl)
      have q4 := (hbr.cell (p := ⟨b, off + i * 8 + 4, none⟩) hbl).trans (hcc 4 _ rfl)
      have q5 := (hbr.cell (p := ⟨b, off + i * 8 + 5, none⟩) hbl).trans (hcc 5 _ rfl)
      have q6 := (hbr.cell (p := ⟨b, off + i * 8 + 6, none⟩) hbl).trans (hcc 6 _ rfl)
      have q7 := (hbr.cell (p := ⟨b, off + i * 8 + 7, none⟩) hbl).trans (hcc 7 _ rfl)
      obtain ⟨N0, hN0⟩ : ∃ N0, (v.headD []).length = N0 := ⟨_, rfl⟩
      have HV := Lib.hid (lkV_ref (x := ⟨⟨dn, dl, de⟩, tube, fe, v⟩) e6 e7 g6.len)
      dsimp only at HV
      rw [g2.len, g3.len, hN0] at HV
      have r1 : RD w [.bool dn, .slice H hn hc, .int .i64 de] ⟨dn, dl, de⟩ := ⟨H, hn, hc, rfl, g1⟩
      have r2 : RF w [.slice A1 n1 c1, .slice B1 m1' d1, .slice C1 p1 cq] fe := ⟨A1, n1, c1, B1, m1', d1, C1, p1, cq, rfl, g3, g4, g5⟩
      have F1 := Lib.hid (fun W (hb : Below w.heap.size w W) => rvalid_R _ _ W (lasts_RD w W _ _ r1 hb) hxl.h)
      have F2 := Lib.hid (fun W (hb : Below w.heap.size w W) (hv : vld ⟨dn, dl, de⟩ = true) => rsign_R _ _ W (lasts_RD w W _ _ r1 hb) hv)
      have F3 := Lib.hid (fun W (hb : Below w.heap.size w W) => rboxValid_any T tn tc tube W (g2.next lasts_RI hb) hxl.t)
      have F4 := Lib.hid (fun W (hb : Below w.heap.size w W) => rframe_any n _ fe W (lasts_RF w W _ _ r2 hb) hxl.e)
      have F5 := Lib.hid (fun W (hb : Below w.heap.size w W) => rnumbers_any V vn vc v W (g6.next lasts_RM hb) hxl.v)
      rw [g3.len] at F4
      have HR0 : Hid (0 < vn → ∃ (b off : Nat) (A0 : Option Addr) (c0 : Nat), V = some ⟨b, off, none⟩ ∧ b < w.heap.size ∧ w.cell? ⟨b, off, none⟩ = some (.slice A0 N0 c0) ∧ N0 ≤ c0 ∧ c0 ≤ 9223372036854775807) := fun hm => by
        obtain ⟨b, off, l0, vs, e, hbl, hx0, hk0, hR0, hc0⟩ := g6.get (j := 0) hm
        obtain ⟨A0, n0, c0, rfl, hs0⟩ := hR0
        have e0 : n0 = N0 := by
          rw [← hN0, ← hs0.len]
          cases ha : v with
          | nil => rw [ha] at hx0; simp at hx0
          | cons a t => rw [ha] at hx0; simp at hx0; rw [hx0]; rfl
        subst e0
        have q0 := hc0 0 _ rfl
        rw [Nat.zero_mul, Nat.add_zero] at q0
        exact ⟨b, off, A0, c0, e, hbl, q0, hs0.cap, hs0.max⟩
      have u1 := g2.cap
      have u2 := g2.max
      have u3 := g6.cap
      have u4 := g6.max
      have kx := Blk.new wr 98 #[.bool dn, .slice H hn hc, .int .i64 de, .slice T tn tc, .slice A1 n1 c1, .slice B1 m1' d1, .slice C1 p1 cq, .slice V vn vc]
      have hb1 := ballo wr (.cells #[.bool dn, .slice H hn hc, .int .i64 de, .slice T tn tc, .slice A1 n1 c1, .slice B1 m1' d1, .slice C1 p1 cq, .slice V vn vc] 98)
      replace hbr := bthen hbr hb1 (Nat.le_refl _)
      have HK0 := Lib.hid (k0.next hb1)
      clear hyi hk hcc hxl g1 g2 g3 g4 g5 g6 hN0 hb1 r1 r2 k0
      generalize frV fe = rfe at *
      generalize boxV tube = rbx at *
      generalize numV v = rnv at *
      go_wp2_with fail
      clear k0q0 k0q1 k0q2 k0q3 k0q4 k0q5 q0 q1 q2 q3 q4 q5 q6 q7
      generalize wr.alloc (.cells #[.bool dn, .slice H hn hc, .int .i64 de, .slice T tn tc, .slice A1 n1 c1, .slice B1 m1' d1, .slice C1 p1 cq, .slice V vn vc] 98) = W1 at *
      generalize wr.heap.size = gx at *
      refine (F1.out _ hbr).mono ?_
      rintro e w1 ⟨rfl, hb1x⟩
      replace hbr := bthen hbr hb1x (Nat.le_refl _)
      replace kx := kx.next hb1x
      replace HK0 := Lib.hid (HK0.out.next hb1x)
      clear hb1x
      cases hv1 : vld ⟨dn, dl, de⟩
      · rw [hv1] at HV
        clear hv1
        have HB : Hid (ls.any (fun l => !lkV n l) = true) := any_yes _ ls i _ HYI.out (by rw [HV.out]; simp)
        go_wp2_with fail
        go_ret
        exact ⟨by rw [HV2.out, HB.out]; rfl, hbr⟩
      rw [hv1] at HV
      have HVD := Lib.hid hv1
      clear hv1
      obtain ⟨kxq0, kxq1, kxq2, kxq3, kxq4, kxq5, kxq6, kxq7⟩ := kx.cells8
      go_wp2_with fail
      refine (F2.out _ hbr HVD.out).mono ?_
      rintro e w2 ⟨rfl, hb2x⟩
      clear kxq0 kxq1 kxq2 kxq3 kxq4 kxq5 kxq6 kxq7
      replace hbr := bthen hbr hb2x (Nat.le_refl _)
      replace kx := kx.next hb2x
      replace HK0 := Lib.hid (HK0.out.next hb2x)
      clear hb2x
      generalize sgnD ⟨dn, dl, de⟩ = r at *
      by_cases hr : 0 < r
      rotate_left
      · rw [decide_eq_false hr] at HV
        have hr2 : decide (r ≤ 0) = true := decide_eq_true (by omega)
        have HB : Hid (ls.any (fun l => !lkV n l) = true) := any_yes _ ls i _ HYI.out (by rw [HV.out]; simp)
        obtain ⟨kxq0, kxq1, kxq2, kxq3, kxq4, kxq5, kxq6, kxq7⟩ := kx.cells8
        go_wp2_with fail
        go_ret
        exact ⟨by rw [HV2.out, HB.out]; rfl, hbr⟩
      rw [decide_eq_true hr] at HV
      have hr2 : decide (r ≤ 0) = false := decide_eq_false (by omega)
      obtain ⟨kxq0, kxq1, kxq2, kxq3, kxq4, kxq5, kxq6, kxq7⟩ := kx.cells8
      go_wp2_with fail
      refine (F3.out _ hbr).mono ?_
      rintro e w3 ⟨rfl, hb3x⟩
      clear kxq0 kxq1 kxq2 kxq3 kxq4 kxq5 kxq6 kxq7
      replace hbr := bthen hbr hb3x (Nat.le_refl _)
      replace kx := kx.next hb3x
      replace HK0 := Lib.hid (HK0.out.next hb3x)
      clear hb3x
      cases hv1 : rbx
      · rw [hv1] at HV
        clear hv1
        have HB : Hid (ls.any (fun l => !lkV n l) = true) := any_yes _ ls i _ HYI.out (by rw [HV.out]; simp)
        go_wp2_with fail
        go_ret
        exact ⟨by rw [HV2.out, HB.out]; rfl, hbr⟩
      rw [hv1] at HV
      clear hv1
      by_cases ht : tn = n
      rotate_left
      · rw [decide_eq_false ht] at HV
        have ht2 : ((tn : Int) != (n : Int)) = true := by rw [bne_iff_ne]; omega
        have HB : Hid (ls.any (fun l => !lkV n l) = true) := any_yes _ ls i _ HYI.out (by rw [HV.out]; simp)
        obtain ⟨kxq0, kxq1, kxq2, kxq3, kxq4, kxq5, kxq6, kxq7⟩ := kx.cells8
        go_wp2_with fail
        go_ret
        exact ⟨by rw [HV2.out, HB.out]; rfl, hbr⟩
      rw [decide_eq_true ht] at HV
      have ht2 : ((tn : Int) != (n : Int)) = false := by rw [ht]; simp
      clear ht
      obtain ⟨kxq0, kxq1, kxq2, kxq3, kxq4, kxq5, kxq6, kxq7⟩ := kx.cells8
      go_wp2_with fail
      refine (F4.out _ hbr).mono ?_
      rintro e w4 ⟨rfl, hb4x⟩
      clear kxq0 kxq1 kxq2 kxq3 kxq4 kxq5 kxq6 kxq7
      replace hbr := bthen hbr hb4x (Nat.le_refl _)
      replace kx := kx.next hb4x
      replace HK0 := Lib.hid (HK0.out.next hb4x)
      clear hb4x
      obtain ⟨rq, hrq⟩ : ∃ rq, (rfe && decide (n1 = n)) = rq := ⟨_, rfl⟩
      rw [hrq] at HV ⊢
      clear hrq
      cases hv1 : rq
      · rw [hv1] at HV
        clear hv1
        have HB : Hid (ls.any (fun l => !lkV n l) = true) := any_yes _ ls i _ HYI.out (by rw [HV.out]; simp)
        go_wp2_with fail
        go_ret
        exact ⟨by rw [HV2.out, HB.out]; rfl, hbr⟩
      rw [hv1] at HV
      clear hv1
      by_cases hw : vn = n
      rotate_left
      · rw [decide_eq_false hw] at HV
        have hw2 : ((vn : Int) != (n : Int)) = true := by rw [bne_iff_ne]; omega
        have HB : Hid (ls.any (fun l => !lkV n l) = true) := any_yes _ ls i _ HYI.out (by rw [HV.out]; simp)
        obtain ⟨kxq0, kxq1, kxq2, kxq3, kxq4, kxq5, kxq6, kxq7⟩ := kx.cells8
        go_wp2_with fail
        go_ret
        exact ⟨by rw [HV2.out, HB.out]; rfl, hbr⟩
      rw [decide_eq_true hw] at HV
      have hw2 : ((vn : Int) != (n : Int)) = false := by rw [hw]; simp
      have hw3 : 0 < vn := by omega
      clear hw
      obtain ⟨b0, off0, A0, c0, rfl, hbl0, q00, z1, z2⟩ := HR0.out hw3
      have Q00 := Lib.hid q00
      clear q00 HR0
      obtain ⟨kxq0, kxq1, kxq2, kxq3, kxq4, kxq5, kxq6, kxq7⟩ := kx.cells8
      go_wp2_with fail
      refine (F5.out _ hbr).mono ?_
      rintro e w5 ⟨rfl, hb5x⟩
      clear kxq0 kxq1 kxq2 kxq3 kxq4 kxq5 kxq6 kxq7
      replace hbr := bthen hbr hb5x (Nat.le_refl _)
      replace kx := kx.next hb5x
      replace HK0 := Lib.hid (HK0.out.next hb5x)
      clear hb5x
      cases hv1 : rnv
      · rw [hv1] at HV
        clear hv1
        have HB : Hid (ls.any (fun l => !lkV n l) = true) := any_yes _ ls i _ HYI.out (by rw [HV.out]; simp)
        go_wp2_with fail
        go_ret
        exact ⟨by rw [HV2.out, HB.out]; rfl, hbr⟩
      rw [hv1] at HV
      clear hv1
      have z0 := (hbr.cell (p := ⟨b0, off0, none⟩) hbl0).trans Q00.out
      by_cases hy : N0 = n
      rotate_left
      · rw [decide_eq_false hy] at HV
        have hy2 : ((N0 : Int) != (n : Int)) = true := by rw [bne_iff_ne]; omega
        have HB : Hid (ls.any (fun l => !lkV n l) = true) := any_yes _ ls i _ HYI.out (by rw [HV.out]; simp)
        obtain ⟨kxq0, kxq1, kxq2, kxq3, kxq4, kxq5, kxq6, kxq7⟩ := kx.cells8
        go_wp2_with fail
        go_ret
        exact ⟨by rw [HV2.out, HB.out]; rfl, hbr⟩
      rw [decide_eq_true hy] at HV
      have hy2 : ((N0 : Int) != (n : Int)) = false := by rw [hy]; simp
      clear hy
      have HOK : Hid (lkV n ⟨⟨dn, dl, de⟩, tube, fe, v⟩ = true) := by unfold Hid; rw [HV.out]; simp
      clear HV
      obtain ⟨kxq0, kxq1, kxq2, kxq3, kxq4, kxq5, kxq6, kxq7⟩ := kx.cells8
      go_wp2_with fail
      go_roundw
      case rel => exact ⟨i + 1, by omega, by go_num, fun j y' hj hy' => by
        by_cases hjk : j < i
        · exact HZ.out j y' hjk hy'
        · obtain rfl : j = i := by omega
          rw [HYI.out] at hy'
          injection hy' with hy'
          rw [← hy', HOK.out]; rfl, hbr, HK0.out⟩
      case measure => simp [intOf]; omega
    · go_wp2_with fail
      go_ret
      refine ⟨?_, hbr⟩
      rw [HV2.out, any_no _ ls (fun j y hy => HZ.out j y (by
        have := (List.getElem?_eq_some_iff.1 hy).1
        have := HL.out
        omega) hy)]
      rfl

end Go.Proofs.YtekajoifgdpmlaaGreatDoor
