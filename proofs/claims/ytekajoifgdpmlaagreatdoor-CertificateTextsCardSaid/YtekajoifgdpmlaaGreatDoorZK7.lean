/- The reference's text of a certificate: numbers, intervals, rows, lines, integer. -/
import Derived.Test.YtekajoifgdpmlaaGreatDoorZ1
import Derived.Test.YtekajoifgdpmlaaGreatDoorZ2
import Derived.Test.YtekajoifgdpmlaaGreatDoorZ3
import Derived.Test.YtekajoifgdpmlaaGreatDoorZ4
import Derived.Test.YtekajoifgdpmlaaGreatDoorZ5
import Derived.Test.YtekajoifgdpmlaaGreatDoorZ6
import Derived.Test.YtekajoifgdpmlaaGreatDoorZ7
import Derived.Test.YtekajoifgdpmlaaGreatDoorZ8
import Derived.Test.YtekajoifgdpmlaaGreatDoorZ9
import Derived.Test.YtekajoifgdpmlaaGreatDoorZ10
import Derived.Test.YtekajoifgdpmlaaGreatDoorZ11
import Derived.Test.YtekajoifgdpmlaaGreatDoorZ12
import Derived.Test.YtekajoifgdpmlaaGreatDoorZ13
import Derived.Test.YtekajoifgdpmlaaGreatDoorZ14
import Derived.Test.YtekajoifgdpmlaaGreatDoorZ15
import Derived.Test.YtekajoifgdpmlaaGreatDoorZ16
import Derived.Test.YtekajoifgdpmlaaGreatDoorZ17
import Derived.Test.YtekajoifgdpmlaaGreatDoorZ18
import Derived.Test.YtekajoifgdpmlaaGreatDoorZ19
import Derived.Test.YtekajoifgdpmlaaGreatDoorZ20
import Derived.Test.YtekajoifgdpmlaaGreatDoorZ21
import Derived.Test.YtekajoifgdpmlaaGreatDoorZ22
namespace Go.Proofs.YtekajoifgdpmlaaGreatDoor
open Go.RowKit Pl Go.Shelf
open Go.Lib (decDigits itoa)

/-- A call that answers a text and leaves what was there. -/
def Tells (t : List UInt8) (w : World) (e : Ending) (w' : World) : Prop := e = .returned (.string ⟨t.toArray⟩) ∧ Below w.heap.size w w'

theorem rtext_R (vs : List Value) (d : Dy) (w : World) (h : RD w vs d) (hv : vld d = true) : Calls Tryz.prog 143 #[.agg vs.toArray] w (Tells (textD d) w) := by
  obtain ⟨A, n, c, rfl, hs⟩ := h
  exact rtext_any d.neg A n c d.l d.e w hs hv

set_option maxRecDepth 100000 in
set_option maxHeartbeats 4000000 in
theorem xnumbers_any (word : List UInt8) (A : Option Addr) (n c : Nat) (ns : List Dy) (w : World) (hS : Sl 3 RD w A n c ns) (hv : ∀ d ∈ ns, vld d = true) (hw : word.length ≤ 100) (hn : n ≤ 1000) :
    Calls Tryz.prog 85 #[.string ⟨word.toArray⟩, .slice A n c] w (Tells (lineT word ns) w) := by
  have m1 := hS.cap
  have m2 := hS.max
  have HL := Lib.hid hS.len
  have HS := Lib.hid (fun W (hb : Below w.heap.size w W) => hS.next lasts_RD hb)
  have HV := Lib.hid hv
  clear hS hv
  go_enter Tryz.func85, Tryz.ntmps85
  go_wp2_with fail
  go_loopw [0, 5] (fun v u wr => ∃ (k : Nat) (L : List UInt8), k ≤ n ∧ v = .string ⟨L.toArray⟩ ∧ u = .int .i64 k ∧ Hid (L = word ++ numsT (ns.take k)) ∧ Below w.heap.size w wr ∧ L.length ≤ 100 + 1251 * k) (fun _ u _ => n - (intOf u).toNat)
  case atStart => exact ⟨0, word, by omega, rfl, rfl, by simp [Hid, numsT], Below.refl _ _, by omega⟩
  case round =>
    obtain ⟨k, L, hk, rfl, rfl, HE, hb, hLl⟩ := hrel
    by_cases hlt : k < n
    · obtain ⟨b1, off, d, vs, rfl, hbl, hd, hk1, hR, hc⟩ := (HS.out wr hb).get hlt
      have hvd := HV.out d (List.mem_of_getElem? hd)
      have ht := textD_len hvd
      have HE2 : Hid (L ++ 32 :: textD d = word ++ numsT (ns.take (k + 1))) := by unfold Hid; rw [HE.out, numsT_take hd]; simp
      have H1 := Lib.hid (rtext_R vs d wr hR hvd)
      obtain ⟨DA, dm, dc, rfl, -⟩ := hR
      obtain ⟨dn, dl, de⟩ := d
      dsimp only at H1 hc
      have p0 := hc 0 _ rfl
      have p1 := hc 1 _ rfl
      have p2 := hc 2 _ rfl
      rw [Nat.add_zero] at p0
      (try dsimp only at p0 p1 p2)
      clear hc hk1 hd hvd HE
      generalize textD ⟨dn, dl, de⟩ = t at *
      have hy1 : ¬ 9223372036854775807 < L.length + 1 := by omega
      have hy2 : ¬ 9223372036854775807 < L.length + 1 + t.length := by omega
      have hc1 := cat_mk L [32]
      have hc2 := cat_mk (L ++ [32]) t
      go_wp2_with fail
      refine (H1.out).mono ?_
      rintro e w2 ⟨rfl, hb2⟩
      clear p0 p1 p2 H1
      replace hb := bnext hb hb2
      clear hb2
      go_wp2_with fail
      go_roundw
      case rel => exact ⟨k + 1, L ++ 32 :: t, by omega, rfl, by go_num, HE2, hb, by simp; omega⟩
      case measure => simp [intOf]; omega
    · obtain rfl : k = n := by omega
      have HE2 : Hid (L ++ [10] = lineT word ns) := by
        unfold Hid lineT
        rw [HE.out, List.take_of_length_le (by rw [HL.out]; exact Nat.le_refl _)]
      have hy1 : ¬ 9223372036854775807 < L.length + 1 := by omega
      have hc1 := cat_mk L [10]
      go_wp2_with fail
      go_ret
      exact ⟨by rw [← HE2.out]; simp, hb⟩

theorem endsL_take {l : List Iv} {k : Nat} {x : Iv} (h : l[k]? = some x) : endsL (l.take (k + 1)) = endsL (l.take k) ++ [x.lo, x.hi] := by
  unfold endsL
  rw [List.take_add_one, h]
  simp
/-- A sum of two texts under a name. -/
theorem cat_ex (a b : List UInt8) (N M : Nat) (ha : a.length ≤ N) (hb : b.length ≤ M) (h : N + M ≤ 9223372036854775807) :
    ∃ s : List UInt8, Hid (s = a ++ b) ∧ (⟨a.toArray⟩ : ByteArray) ++ (⟨b.toArray⟩ : ByteArray) = ⟨s.toArray⟩ ∧ (¬ 9223372036854775807 < a.length + b.length) ∧ s.length ≤ N + M :=
  ⟨a ++ b, rfl, cat_mk a b, by omega, by simp; omega⟩
set_option maxRecDepth 100000 in
set_option maxHeartbeats 4000000 in
theorem xintervals_any (word : List UInt8) (A : Option Addr) (n c : Nat) (ns : List Iv) (w : World) (hS : Sl 7 RI w A n c ns) (hv : ∀ x ∈ ns, vld x.lo = true ∧ vld x.hi = true) (hw : word.length ≤ 100) (hn : n ≤ 1000) :
    Calls Tryz.prog 86 #[.string ⟨word.toArray⟩, .slice A n c] w (Tells (lineT word (endsL ns)) w) := by
  have m1 := hS.cap
  have m2 := hS.max
  have HL := Lib.hid hS.len
  have HS := Lib.hid (fun W (hb : Below w.heap.size w W) => hS.next lasts_RI hb)
  have HV := Lib.hid hv
  clear hS hv
  go_enter Tryz.func86, Tryz.ntmps86
  go_wp2_with fail
  go_loopw [0, 5] (fun v u wr => ∃ (k : Nat) (L : List UInt8), k ≤ n ∧ v = .string ⟨L.toArray⟩ ∧ u = .int .i64 k ∧ Hid (L = word ++ numsT (endsL (ns.take k))) ∧ Below w.heap.size w wr ∧ L.length ≤ 100 + 2502 * k) (fun _ u _ => n - (intOf u).toNat)
  case atStart => exact ⟨0, word, by omega, rfl, rfl, by simp [Hid, numsT, endsL], Below.refl _ _, by omega⟩
  case round =>
    obtain ⟨k, L, hk, rfl, rfl, HE, hb, hLl⟩ := hrel
    by_cases hlt : k < n
    · obtain ⟨b1, off, x, vs, rfl, hbl, hd, hk1, hR, hc⟩ := (HS.out wr hb).get hlt
      have hvd := HV.out x (List.mem_of_getElem? hd)
      have ht := textD_len hvd.1
      have ht' := textD_len hvd.2
      have HE2 : Hid (L ++ 32 :: (textD x.lo ++ 32 :: textD x.hi) = word ++ numsT (endsL (ns.take (k + 1)))) := by
        unfold Hid
        rw [HE.out, endsL_take hd]
        simp [numsT]
      obtain ⟨LA, lm, lc, UA, um, uc, rfl, hs1, hs2⟩ := hR
      have H1 := Lib.hid (fun W (hB : Below wr.heap.size wr W) => rtext_R _ x.lo W ⟨LA, lm, lc, rfl, hs1.below hB⟩ hvd.1)
      have H2 := Lib.hid (fun W (hB : Below wr.heap.size wr W) => rtext_R _ x.hi W ⟨UA, um, uc, rfl, hs2.below hB⟩ hvd.2)
      obtain ⟨⟨ln, ll, le⟩, ⟨un, ul, ue⟩, al⟩ := x
      dsimp only at H1 H2 hc hbl
      have p0 := hc 0 _ rfl
      have p1 := hc 1 _ rfl
      have p2 := hc 2 _ rfl
      have p3 := hc 3 _ rfl
      have p4 := hc 4 _ rfl
      have p5 := hc 5 _ rfl
      have p6 := hc 6 _ rfl
      rw [Nat.add_zero] at p0
      (try dsimp only at p0 p1 p2 p3 p4 p5 p6)
      clear hc hk1 hd hvd HE hs1 hs2
      dsimp only at HE2 ht ht'
      generalize textD ⟨ln, ll, le⟩ = t at *
      generalize textD ⟨un, ul, ue⟩ = u at *
      obtain ⟨s1, E1, hc1, hy1, n1⟩ := cat_ex L [32] (100 + 2502 * k) 1 hLl (by simp) (by omega)
      obtain ⟨s2, E2, hc2, hy2, n2⟩ := cat_ex s1 t (101 + 2502 * k) 1250 (by omega) (by omega) (by omega)
      obtain ⟨s3, E3, hc3, hy3, n3⟩ := cat_ex s2 [32] (1351 + 2502 * k) 1 (by omega) (by simp) (by omega)
      obtain ⟨s4, E4, hc4, hy4, n4⟩ := cat_ex s3 u (1352 + 2502 * k) 1250 (by omega) (by omega) (by omega)
      simp only [List.length_cons, List.length_nil, Nat.zero_add] at hy1 hy3
      have HE3 : Hid (s4 = word ++ numsT (endsL (ns.take (k + 1)))) := by
        unfold Hid
        rw [← HE2.out, E4.out, E3.out, E2.out, E1.out]
        simp
      clear HE2 E1 E2 E3 E4
      have HK : Hid (∀ V, Below wr.heap.size wr V → (fun V => (V.cell? ⟨b1, off + k * 7, none⟩ = some (.bool ln) ∧ V.cell? ⟨b1, off + k * 7 + 1, none⟩ = some (.slice LA lm lc) ∧ V.cell? ⟨b1, off + k * 7 + 2, none⟩ = some (.int .i64 le) ∧ V.cell? ⟨b1, off + k * 7 + 3, none⟩ = some (.bool un) ∧ V.cell? ⟨b1, off + k * 7 + 4, none⟩ = some (.slice UA um uc) ∧ V.cell? ⟨b1, off + k * 7 + 5, none⟩ = some (.int .i64 ue) ∧ V.cell? ⟨b1, off + k * 7 + 6, none⟩ = some (.bool al)) ∧ Below wr.heap.size wr V) V) := fun V hV => ⟨⟨(hV.cell (p := ⟨b1, off + k * 7, none⟩) hbl).trans p0, (hV.cell (p := ⟨b1, off + k * 7 + 1, none⟩) hbl).trans p1, (hV.cell (p := ⟨b1, off + k * 7 + 2, none⟩) hbl).trans p2, (hV.cell (p := ⟨b1, off + k * 7 + 3, none⟩) hbl).trans p3, (hV.cell (p := ⟨b1, off + k * 7 + 4, none⟩) hbl).trans p4, (hV.cell (p := ⟨b1, off + k * 7 + 5, none⟩) hbl).trans p5, (hV.cell (p := ⟨b1, off + k * 7 + 6, none⟩) hbl).trans p6⟩, hV⟩
      go_wp2_with fail
      clear p0 p1 p2 p3 p4 p5 p6
      have hB := bdrew wr
      refine wp_region_held_drew (S := (fun V => (V.cell? ⟨b1, off + k * 7, none⟩ = some (.bool ln) ∧ V.cell? ⟨b1, off + k * 7 + 1, none⟩ = some (.slice LA lm lc) ∧ V.cell? ⟨b1, off + k * 7 + 2, none⟩ = some (.int .i64 le) ∧ V.cell? ⟨b1, off + k * 7 + 3, none⟩ = some (.bool un) ∧ V.cell? ⟨b1, off + k * 7 + 4, none⟩ = some (.slice UA um uc) ∧ V.cell? ⟨b1, off + k * 7 + 5, none⟩ = some (.int .i64 ue) ∧ V.cell? ⟨b1, off + k * 7 + 6, none⟩ = some (.bool al)) ∧ Below wr.heap.size wr V)) (by kernel_rfl) (HK.out _ hB) (fun hH => ?_)
      refine wpAnyH_take (i := 0) (oi := ⟨_, _, _, _, _, _⟩) (v := ?_) rfl (by kernel_rfl) (by kernel_rfl) (by kernel_rfl) (fun _ _ _ h => h) (Or.inl ⟨by rfl, ?_⟩) hH ?_
      rotate_left
      · (intro w hSw; (try dsimp only at hSw); go_simp; try (with_reducible rfl))
      simp only [Act.put, List.setIfInBounds_toArray, List.set_cons_zero, List.set_cons_succ]
      refine wpAnyH_take (i := 1) (oi := ⟨_, _, _, _, _, _⟩) (v := ?_) rfl (by kernel_rfl) (by kernel_rfl) (by kernel_rfl) (fun _ _ _ h => h) (Or.inl ⟨by rfl, ?_⟩) hH ?_
      rotate_left
      · (intro w hSw; (try dsimp only at hSw); go_simp; try (with_reducible rfl))
      simp only [Act.put, List.setIfInBounds_toArray, List.set_cons_zero, List.set_cons_succ]
      refine wpAnyH_take (i := 2) (oi := ⟨_, _, _, _, _, _⟩) (v := ?_) rfl (by kernel_rfl) (by kernel_rfl) (by kernel_rfl) (fun _ _ _ h => h) (Or.inl ⟨by rfl, ?_⟩) hH ?_
      rotate_left
      · (intro w hSw; (try dsimp only at hSw); go_simp; try (with_reducible rfl))
      simp only [Act.put, List.setIfInBounds_toArray, List.set_cons_zero, List.set_cons_succ]
      refine wpAnyH_take (i := 3) (oi := ⟨_, _, _, _, _, _⟩) (v := ?_) rfl (by kernel_rfl) (by kernel_rfl) (by kernel_rfl) (fun _ _ _ h => h) (Or.inl ⟨by rfl, ?_⟩) hH ?_
      rotate_left
      · (intro w hSw; (try dsimp only at hSw); go_simp; try (with_reducible rfl))
      simp only [Act.put, List.setIfInBounds_toArray, List.set_cons_zero, List.set_cons_succ]
      refine wpAnyH_take (i := 4) (oi := ⟨_, _, _, _, _, _⟩) (v := ?_) rfl (by kernel_rfl) (by kernel_rfl) (by kernel_rfl) (fun _ _ _ h => h) (Or.inl ⟨by rfl, ?_⟩) hH ?_
      rotate_left
      · (intro w hSw; (try dsimp only at hSw); go_simp; try (with_reducible rfl))
      simp only [Act.put, List.setIfInBounds_toArray, List.set_cons_zero, List.set_cons_succ]
      refine wpAnyH_take (i := 5) (oi := ⟨_, _, _, _, _, _⟩) (v := ?_) rfl (by kernel_rfl) (by kernel_rfl) (by kernel_rfl) (fun _ _ _ h => h) (Or.inl ⟨by rfl, ?_⟩) hH ?_
      rotate_left
      · (intro w hSw; (try dsimp only at hSw); go_simp; try (with_reducible rfl))
      simp only [Act.put, List.setIfInBounds_toArray, List.set_cons_zero, List.set_cons_succ]
      refine wpAnyH_take (i := 6) (oi := ⟨_, _, _, _, _, _⟩) (v := ?_) rfl (by kernel_rfl) (by kernel_rfl) (by kernel_rfl) (fun _ _ _ h => h) (Or.inl ⟨by rfl, ?_⟩) hH ?_
      rotate_left
      · (intro w hSw; (try dsimp only at hSw); go_simp; try (with_reducible rfl))
      simp only [Act.put, List.setIfInBounds_toArray, List.set_cons_zero, List.set_cons_succ]
      refine wpAnyH_take (i := 10) (oi := ⟨_, _, _, _, _, _⟩) (v := ?_) rfl (by kernel_rfl) (by kernel_rfl) (by kernel_rfl) (fun _ _ _ h => h) (Or.inl ⟨by rfl, ?_⟩) hH ?_
      rotate_left
      · (intro w hSw; (try dsimp only at hSw); go_simp; try (with_reducible rfl))
      simp only [Act.put, List.setIfInBounds_toArray, List.set_cons_zero, List.set_cons_succ]
      refine wpAnyH_take (i := 11) (oi := ⟨_, _, _, _, _, _⟩) (v := ?_) rfl (by kernel_rfl) (by kernel_rfl) (by kernel_rfl) (fun _ _ _ h => h) (Or.inl ⟨by rfl, ?_⟩) hH ?_
      rotate_left
      · (intro w hSw; (try dsimp only at hSw); go_simp; try (with_reducible rfl))
      simp only [Act.put, List.setIfInBounds_toArray, List.set_cons_zero, List.set_cons_succ]
      refine wpAnyH_take (i := 12) (oi := ⟨_, _, _, _, _, _⟩) (v := ?_) rfl (by kernel_rfl) (by kernel_rfl) (by kernel_rfl) (fun _ _ _ h => h) (Or.inl ⟨by rfl, ?_⟩) hH ?_
      rotate_left
      · (intro w hSw; (try dsimp only at hSw); go_simp; try (with_reducible rfl))
      simp only [Act.put, List.setIfInBounds_toArray, List.set_cons_zero, List.set_cons_succ]
      refine wpAnyH_take (i := 13) (oi := ⟨_, _, _, _, _, _⟩) (v := ?_) rfl (by kernel_rfl) (by kernel_rfl) (by kernel_rfl) (fun _ _ _ h => h) (Or.inl ⟨by rfl, ?_⟩) hH ?_
      rotate_left
      · (intro w hSw; (try dsimp only at hSw); go_simp; try (with_reducible rfl))
      simp only [Act.put, List.setIfInBounds_toArray, List.set_cons_zero, List.set_cons_succ]
      refine wpAnyH_take (i := 14) (oi := ⟨_, _, _, _, _, _⟩) (v := ?_) rfl (by kernel_rfl) (by kernel_rfl) (by kernel_rfl) (fun _ _ _ h => h) (Or.inl ⟨by rfl, ?_⟩) hH ?_
      rotate_left
      · (intro w hSw; (try dsimp only at hSw); go_simp; try (with_reducible rfl))
      simp only [Act.put, List.setIfInBounds_toArray, List.set_cons_zero, List.set_cons_succ]
      refine wpAnyH_ready (rs := [7]) (by kernel_rfl) (by simp) ?_
      refine AllReadyH.cons (o := ⟨_, _, _, _, _, _⟩) rfl (fun K hK => ?_) AllReadyH.nil
      go_simp
      refine (H1.out _ hB).mono ?_
      rintro e V1 ⟨rfl, hc⟩
      replace hB := bnext hB hc
      clear hc
      go_wp2_with fail
      refine hK.out _ _ (HK.out _ hB) (fun hH => ?_)
      clear hK K
      refine wpAnyH_take (i := 8) (oi := ⟨_, _, _, _, _, _⟩) (v := ?_) rfl (by kernel_rfl) (by kernel_rfl) (by kernel_rfl) (fun _ _ _ h => h) (Or.inl ⟨by rfl, ?_⟩) hH ?_
      rotate_left
      · (intro w hSw; (try dsimp only at hSw); go_simp; try (with_reducible rfl))
      simp only [Act.put, List.setIfInBounds_toArray, List.set_cons_zero, List.set_cons_succ]
      refine wpAnyH_take (i := 9) (oi := ⟨_, _, _, _, _, _⟩) (v := ?_) rfl (by kernel_rfl) (by kernel_rfl) (by kernel_rfl) (fun _ _ _ h => h) (Or.inl ⟨by rfl, ?_⟩) hH ?_
      rotate_left
      · (intro w hSw; (try dsimp only at hSw); go_simp; try (with_reducible rfl))
      simp only [Act.put, List.setIfInBounds_toArray, List.set_cons_zero, List.set_cons_succ]
      refine wpAnyH_ready (rs := [15]) (by kernel_rfl) (by simp) ?_
      refine AllReadyH.cons (o := ⟨_, _, _, _, _, _⟩) rfl (fun K hK => ?_) AllReadyH.nil
      go_simp
      refine (H2.out _ hB).mono ?_
      rintro e V2 ⟨rfl, hc⟩
      replace hB := bnext hB hc
      clear hc
      go_wp2_with fail
      refine hK.out _ _ (HK.out _ hB) (fun hH => ?_)
      clear hK K
      refine wpAnyH_take (i := 16) (oi := ⟨_, _, _, _, _, _⟩) (v := ?_) rfl (by kernel_rfl) (by kernel_rfl) (by kernel_rfl) (fun _ _ _ h => h) (Or.inl ⟨by rfl, ?_⟩) hH ?_
      rotate_left
      · (intro w hSw; (try dsimp only at hSw); go_simp; try (with_reducible rfl))
      simp only [Act.put, List.setIfInBounds_toArray, List.set_cons_zero, List.set_cons_succ]
      refine wpAnyH_take (i := 17) (oi := ⟨_, _, _, _, _, _⟩) (v := ?_) rfl (by kernel_rfl) (by kernel_rfl) (by kernel_rfl) (fun _ _ _ h => h) (Or.inl ⟨by rfl, ?_⟩) hH ?_
      rotate_left
      · (intro w hSw; (try dsimp only at hSw); go_simp; try (with_reducible rfl))
      simp only [Act.put, List.setIfInBounds_toArray, List.set_cons_zero]
      refine wpAnyH_done (by kernel_rfl) ?_ _
      clear hH HK H1 H2
      replace hb := bnext hb hB
      clear hB
      go_wp2_with fail
      go_roundw
      case rel => exact ⟨k + 1, s4, by omega, rfl, by go_num, HE3, hb, by omega⟩
      case measure => simp [intOf]; omega
    · obtain rfl : k = n := by omega
      have HE2 : Hid (L ++ [10] = lineT word (endsL ns)) := by
        unfold Hid lineT
        rw [HE.out, List.take_of_length_le (by rw [HL.out]; exact Nat.le_refl _)]
      have hy1 : ¬ 9223372036854775807 < L.length + 1 := by omega
      have hc1 := cat_mk L [10]
      go_wp2_with fail
      go_ret
      exact ⟨by rw [← HE2.out]; simp, hb⟩

set_option maxRecDepth 100000 in
set_option maxHeartbeats 4000000 in
theorem xrows_any (word : List UInt8) (A : Option Addr) (n c : Nat) (ns : List (List Dy)) (w : World) (hS : Sl 1 RM w A n c ns) (hv : ∀ l ∈ ns, ∀ d ∈ l, vld d = true) (hw : word.length ≤ 100) (hn : n ≤ 10) (hn2 : ∀ l ∈ ns, l.length ≤ 10) :
    Calls Tryz.prog 87 #[.string ⟨word.toArray⟩, .slice A n c] w (Tells (rowsT word ns) w) := by
  have m1 := hS.cap
  have m2 := hS.max
  have HL := Lib.hid hS.len
  have HS := Lib.hid (fun W (hb : Below w.heap.size w W) => hS.next lasts_RM hb)
  have HV := Lib.hid hv
  have HN := Lib.hid hn2
  clear hS hv hn2
  go_enter Tryz.func87, Tryz.ntmps87
  go_wp2_with fail
  go_loopw [5, 6] (fun v u wr => ∃ (k : Nat) (L : List UInt8), k ≤ n ∧ v = .string ⟨L.toArray⟩ ∧ u = .int .i64 k ∧ Hid (L = rowsT word (ns.take k)) ∧ Below w.heap.size w wr ∧ L.length ≤ 20000 * k) (fun _ u _ => n - (intOf u).toNat)
  case atStart => exact ⟨0, [], by omega, rfl, rfl, by simp [Hid, rowsT], Below.refl _ _, by simp⟩
  case round =>
    obtain ⟨k, L, hk, rfl, rfl, HE, hb, hLl⟩ := hrel
    by_cases hlt : k < n
    · obtain ⟨b1, off, x, vs, rfl, hbl, hd, hk1, hR, hc⟩ := (HS.out wr hb).get hlt
      have hvd := HV.out x (List.mem_of_getElem? hd)
      have hxl := HN.out x (List.mem_of_getElem? hd)
      have ht := lineT_len (word := word) hvd
      have ht2 : (lineT word x).length ≤ 20000 := by omega
      have HE2 : Hid (L ++ lineT word x = rowsT word (ns.take (k + 1))) := by
        unfold Hid
        rw [HE.out, rowsT_take hd]
      obtain ⟨LA, lm, lc, rfl, hs1⟩ := hR
      have H1 := Lib.hid (xnumbers_any word LA lm lc x wr hs1 hvd hw (by rw [← hs1.len]; omega))
      have p0 := hc 0 _ rfl
      rw [Nat.add_zero, Nat.mul_one] at p0
      clear hc hk1 hd hvd HE hs1 ht
      generalize lineT word x = t at *
      have hy1 : ¬ 9223372036854775807 < L.length + t.length := by omega
      have hc1 := cat_mk L t
      go_wp2_with fail
      refine (H1.out).mono ?_
      rintro e w2 ⟨rfl, hb2⟩
      clear p0 H1
      replace hb := bnext hb hb2
      clear hb2
      go_wp2_with fail
      go_roundw
      case rel => exact ⟨k + 1, L ++ t, by omega, rfl, by go_num, HE2, hb, by simp; omega⟩
      case measure => simp [intOf]; omega
    · obtain rfl : k = n := by omega
      have HE2 : Hid (L = rowsT word ns) := by
        unfold Hid
        rw [HE.out, List.take_of_length_le (by rw [HL.out]; exact Nat.le_refl _)]
      go_wp2_with fail
      go_ret
      exact ⟨by rw [HE2.out]; rfl, hb⟩

set_option maxRecDepth 100000 in
set_option maxHeartbeats 4000000 in
theorem xlines_any (vs : List Value) (f : Fr) (w : World) (h : RF w vs f) (hv : frV f = true) : Calls Tryz.prog 84 #[.agg vs.toArray] w (Tells (setT f) w) := by
  obtain ⟨A, n, c, B, m, d, C, p, q, rfl, h1, h2, h3⟩ := h
  obtain ⟨l1, l2, l3, l4⟩ := frV_len hv
  obtain ⟨v1, v2, v3⟩ := frV_all hv
  have hb0 := ballo w (.cells #[.slice A n c, .slice B m d, .slice C p q] 39)
  have kx := Blk.new w 39 #[.slice A n c, .slice B m d, .slice C p q]
  have HE : Hid (setT f = lineT [99] f.c ++ rowsT [97] f.a ++ lineT [114] (endsL f.r)) := rfl
  have t0 := setT_len hv
  rw [HE.out] at t0
  have e1 := h1.len
  have e2 := h2.len
  have e3 := h3.len
  have H1 := Lib.hid (fun W (hB : Below w.heap.size w W) => xnumbers_any [99] A n c f.c W (h1.next lasts_RD hB) v1 (by simp) (by omega))
  have H2 := Lib.hid (fun W (hB : Below w.heap.size w W) => xrows_any [97] B m d f.a W (h2.next lasts_RM hB) v2 (by simp) (by omega) (fun l hl => Nat.le_trans (l4 l hl) (by omega)))
  have H3 := Lib.hid (fun W (hB : Below w.heap.size w W) => xintervals_any [114] C p q f.r W (h3.next lasts_RI hB) (fun x hx => ivV_lo (v3 x hx).1 (v3 x hx).2) (by simp) (by omega))
  clear h1 h2 h3 v1 v2 v3 l1 l2 l3 l4 e1 e2 e3 hv
  generalize lineT [99] f.c = s1 at *
  generalize rowsT [97] f.a = s2 at *
  generalize lineT [114] (endsL f.r) = s3 at *
  simp only [List.length_append] at t0
  obtain ⟨z1, E1, hc1, hy1, n1⟩ := cat_ex s1 s2 140000 140000 (by omega) (by omega) (by omega)
  obtain ⟨z2, E2, hc2, hy2, n2⟩ := cat_ex z1 s3 280000 140000 (by omega) (by omega) (by omega)
  replace HE : Hid (setT f = z2) := by unfold Hid; rw [HE.out, E2.out, E1.out]
  clear E1 E2
  go_enter Tryz.func84, Tryz.ntmps84
  go_wp2_with fail
  generalize w.alloc (.cells #[.slice A n c, .slice B m d, .slice C p q] 39) = W0 at *
  have HK : Hid (∀ V, Below W0.heap.size W0 V → (fun V => (V.cell? ⟨w.heap.size, 0, none⟩ = some (.slice A n c) ∧ V.cell? ⟨w.heap.size, 1, none⟩ = some (.slice B m d) ∧ V.cell? ⟨w.heap.size, 2, none⟩ = some (.slice C p q)) ∧ Below W0.heap.size W0 V) V) := fun V hV => ⟨(kx.next hV).cells3, hV⟩
  replace H1 := Lib.hid (fun V (hV : Below W0.heap.size W0 V) => H1.out V (bnext hb0 hV))
  replace H2 := Lib.hid (fun V (hV : Below W0.heap.size W0 V) => H2.out V (bnext hb0 hV))
  replace H3 := Lib.hid (fun V (hV : Below W0.heap.size W0 V) => H3.out V (bnext hb0 hV))
  have hB := bdrew W0
  refine wp_region_held_drew (S := (fun V => (V.cell? ⟨w.heap.size, 0, none⟩ = some (.slice A n c) ∧ V.cell? ⟨w.heap.size, 1, none⟩ = some (.slice B m d) ∧ V.cell? ⟨w.heap.size, 2, none⟩ = some (.slice C p q)) ∧ Below W0.heap.size W0 V)) (by kernel_rfl) (HK.out _ hB) (fun hH => ?_)
  refine wpAnyH_take (i := 0) (oi := ⟨_, _, _, _, _, _⟩) (v := ?_) rfl (by kernel_rfl) (by kernel_rfl) (by kernel_rfl) (fun _ _ _ h => h) (Or.inl ⟨by rfl, ?_⟩) hH ?_
  rotate_left
  · (intro w hSw; (try dsimp only at hSw); go_simp; try (with_reducible rfl))
  simp only [Act.put, List.setIfInBounds_toArray, List.set_cons_zero, List.set_cons_succ]
  refine wpAnyH_take (i := 1) (oi := ⟨_, _, _, _, _, _⟩) (v := ?_) rfl (by kernel_rfl) (by kernel_rfl) (by kernel_rfl) (fun _ _ _ h => h) (Or.inl ⟨by rfl, ?_⟩) hH ?_
  rotate_left
  · (intro w hSw; (try dsimp only at hSw); go_simp; try (with_reducible rfl))
  simp only [Act.put, List.setIfInBounds_toArray, List.set_cons_zero, List.set_cons_succ]
  refine wpAnyH_take (i := 3) (oi := ⟨_, _, _, _, _, _⟩) (v := ?_) rfl (by kernel_rfl) (by kernel_rfl) (by kernel_rfl) (fun _ _ _ h => h) (Or.inl ⟨by rfl, ?_⟩) hH ?_
  rotate_left
  · (intro w hSw; (try dsimp only at hSw); go_simp; try (with_reducible rfl))
  simp only [Act.put, List.setIfInBounds_toArray, List.set_cons_zero, List.set_cons_succ]
  refine wpAnyH_take (i := 4) (oi := ⟨_, _, _, _, _, _⟩) (v := ?_) rfl (by kernel_rfl) (by kernel_rfl) (by kernel_rfl) (fun _ _ _ h => h) (Or.inl ⟨by rfl, ?_⟩) hH ?_
  rotate_left
  · (intro w hSw; (try dsimp only at hSw); go_simp; try (with_reducible rfl))
  simp only [Act.put, List.setIfInBounds_toArray, List.set_cons_zero, List.set_cons_succ]
  refine wpAnyH_take (i := 7) (oi := ⟨_, _, _, _, _, _⟩) (v := ?_) rfl (by kernel_rfl) (by kernel_rfl) (by kernel_rfl) (fun _ _ _ h => h) (Or.inl ⟨by rfl, ?_⟩) hH ?_
  rotate_left
  · (intro w hSw; (try dsimp only at hSw); go_simp; try (with_reducible rfl))
  simp only [Act.put, List.setIfInBounds_toArray, List.set_cons_zero, List.set_cons_succ]
  refine wpAnyH_take (i := 8) (oi := ⟨_, _, _, _, _, _⟩) (v := ?_) rfl (by kernel_rfl) (by kernel_rfl) (by kernel_rfl) (fun _ _ _ h => h) (Or.inl ⟨by rfl, ?_⟩) hH ?_
  rotate_left
  · (intro w hSw; (try dsimp only at hSw); go_simp; try (with_reducible rfl))
  simp only [Act.put, List.setIfInBounds_toArray, List.set_cons_zero, List.set_cons_succ]
  refine wpAnyH_ready (rs := [2]) (by kernel_rfl) (by simp) ?_
  refine AllReadyH.cons (o := ⟨_, _, _, _, _, _⟩) rfl (fun K hK => ?_) AllReadyH.nil
  go_simp
  refine (H1.out _ hB).mono ?_
  rintro e V1 ⟨rfl, hc⟩
  replace hB := bnext hB hc
  clear hc
  go_wp2_with fail
  refine hK.out _ _ (HK.out _ hB) (fun hH => ?_)
  clear hK K
  refine wpAnyH_ready (rs := [5]) (by kernel_rfl) (by simp) ?_
  refine AllReadyH.cons (o := ⟨_, _, _, _, _, _⟩) rfl (fun K hK => ?_) AllReadyH.nil
  go_simp
  refine (H2.out _ hB).mono ?_
  rintro e V2 ⟨rfl, hc⟩
  replace hB := bnext hB hc
  clear hc
  go_wp2_with fail
  refine hK.out _ _ (HK.out _ hB) (fun hH => ?_)
  clear hK K
  refine wpAnyH_take (i := 6) (oi := ⟨_, _, _, _, _, _⟩) (v := ?_) rfl (by kernel_rfl) (by kernel_rfl) (by kernel_rfl) (fun _ _ _ h => h) (Or.inl ⟨by rfl, ?_⟩) hH ?_
  rotate_left
  · (intro w hSw; (try dsimp only at hSw); go_simp; try (with_reducible rfl))
  simp only [Act.put, List.setIfInBounds_toArray, List.set_cons_zero, List.set_cons_succ]
  refine wpAnyH_ready (rs := [9]) (by kernel_rfl) (by simp) ?_
  refine AllReadyH.cons (o := ⟨_, _, _, _, _, _⟩) rfl (fun K hK => ?_) AllReadyH.nil
  go_simp
  refine (H3.out _ hB).mono ?_
  rintro e V3 ⟨rfl, hc⟩
  replace hB := bnext hB hc
  clear hc
  go_wp2_with fail
  refine hK.out _ _ (HK.out _ hB) (fun hH => ?_)
  clear hK K
  refine wpAnyH_take (i := 10) (oi := ⟨_, _, _, _, _, _⟩) (v := ?_) rfl (by kernel_rfl) (by kernel_rfl) (by kernel_rfl) (fun _ _ _ h => h) (Or.inl ⟨by rfl, ?_⟩) hH ?_
  rotate_left
  · (intro w hSw; (try dsimp only at hSw); go_simp; try (with_reducible rfl))
  simp only [Act.put, List.setIfInBounds_toArray, List.set_cons_zero, List.set_cons_succ]
  refine wpAnyH_take (i := 11) (oi := ⟨_, _, _, _, _, _⟩) (v := ?_) rfl (by kernel_rfl) (by kernel_rfl) (by kernel_rfl) (fun _ _ _ h => h) (Or.inl ⟨by rfl, ?_⟩) hH ?_
  rotate_left
  · (intro w hSw; (try dsimp only at hSw); go_simp; try (with_reducible rfl))
  simp only [Act.put, List.setIfInBounds_toArray, List.set_cons_zero, List.set_cons_succ]
  refine wpAnyH_done (by kernel_rfl) ?_ _
  clear hH HK H1 H2 H3
  go_wp2_with fail
  go_ret
  exact ⟨by rw [HE.out]; rfl, bnext hb0 hB⟩

set_option maxRecDepth 100000 in
set_option maxHeartbeats 4000000 in
theorem xinteger_any (z : Int) (w : World) (h0 : 0 ≤ z) (h1 : z ≤ 16384) : Calls Tryz.prog 83 #[.int .i64 z] w (Tells (itoa z) w) := by
  obtain ⟨n, rfl⟩ : ∃ n : Nat, z = (n : Int) := ⟨z.toNat, by omega⟩
  have HI : Hid (itoa (n : Int) = decDigits (val [n])) := by unfold Hid itoa; simp [val]
  have hb0 := ballo w (.cells #[.int .u32 (n : Int)] 60)
  have hs := SL.one w 60 n (by omega)
  have hw : (n : Int) % 4294967296 = (n : Int) := by omega
  have H1 := Lib.hid (rdecimal_any _ 1 1 [n] _ hs (by omega))
  clear hs
  rw [HI.out]
  clear HI
  go_enter Tryz.func83, Tryz.ntmps83
  go_wp2_with fail
  refine (H1.out).mono ?_
  rintro e w2 ⟨rfl, hb2⟩
  go_wp2_with fail
  go_ret
  exact ⟨rfl, bnext hb0 hb2⟩

end Go.Proofs.YtekajoifgdpmlaaGreatDoor
