/- The law CertificateSpoilt: its walk. (Printed by gen_k6.py.) -/
import Derived.Laws.IdiomStrings
import Derived.Test.YtekajoifgdpmlaaGreatDoorZ1
import Derived.Test.YtekajoifgdpmlaaGreatDoorZ2
import Derived.Test.YtekajoifgdpmlaaGreatDoorZ3
import Derived.Test.YtekajoifgdpmlaaGreatDoorZ4
import Derived.Test.YtekajoifgdpmlaaGreatDoorZ5
import Derived.Test.YtekajoifgdpmlaaGreatDoorZ6
import Derived.Test.YtekajoifgdpmlaaGreatDoorZ7
import Derived.Test.YtekajoifgdpmlaaGreatDoorZ8
import Derived.Test.YtekajoifgdpmlaaGreatDoorZ9
import Derived.Test.YtekajoifgdpmlaaGreatDoorZ10
import Derived.Test.YtekajoifgdpmlaaGreatDoorZ11
import Derived.Test.YtekajoifgdpmlaaGreatDoorZ12
import Derived.Test.YtekajoifgdpmlaaGreatDoorZ13
import Derived.Test.YtekajoifgdpmlaaGreatDoorZ14
import Derived.Test.YtekajoifgdpmlaaGreatDoorZ15
import Derived.Test.YtekajoifgdpmlaaGreatDoorZ16
import Derived.Test.YtekajoifgdpmlaaGreatDoorZ17
import Derived.Test.YtekajoifgdpmlaaGreatDoorZ18
import Derived.Test.YtekajoifgdpmlaaGreatDoorZ19
import Derived.Test.YtekajoifgdpmlaaGreatDoorZ20
import Derived.Test.YtekajoifgdpmlaaGreatDoorZ21
import Derived.Test.YtekajoifgdpmlaaGreatDoorZ22
import Derived.Test.YtekajoifgdpmlaaGreatDoorZX11
namespace Go.Proofs.YtekajoifgdpmlaaGreatDoor
open Go.RowKit Pl Go.Shelf

theorem enc_cases (x : Ct) : (∃ k, encC x = ([], k) ∧ k ≠ 0) ∨ (encC x = (textC x, 0) ∧ ctV x = true ∧ (textC x).length ≤ 65536 ∧ textC x ≠ []) := by
  unfold encC
  by_cases hv : ctV x = true
  · rw [if_pos hv]
    by_cases hl : 65536 < (textC x).length
    · rw [if_pos hl]; exact .inl ⟨5, rfl, by decide⟩
    · rw [if_neg hl]
      refine .inr ⟨rfl, hv, by omega, fun h => ?_⟩
      have := congrArg List.length h
      simp [textC, endW] at this
  · rw [if_neg hv]; exact .inl ⟨1, rfl, by decide⟩
/-- A text in which one byte is changed. -/
def spoil (S : List UInt8) (k : Nat) (b : UInt8) : List UInt8 := S.take k ++ [b] ++ S.drop (k + 1)
theorem spoil_ne {S : List UInt8} {k : Nat} {b c : UInt8} (hk : S[k]? = some c) (hb : c ≠ b) : spoil S k b ≠ S := by
  intro h
  have hlt := (List.getElem?_eq_some_iff.1 hk).1
  have h2 : (spoil S k b)[k]? = some b := by
    unfold spoil
    rw [List.append_assoc, List.getElem?_append_right (by simp; omega)]
    simp [List.length_take, Nat.min_eq_left (Nat.le_of_lt hlt)]
  rw [h, hk] at h2
  injection h2 with h2
  exact hb h2
theorem spoil_len {S : List UInt8} {k : Nat} {b : UInt8} (hk : k < S.length) : (spoil S k b).length = S.length := by
  unfold spoil
  simp; omega
/-- What Decode makes of it. -/
theorem spoil_cases {x : Ct} {t : List UInt8} (hL : LmC x) (hne : textC x ≠ t) : ((decP t).2.2.2 ≠ 0 ∧ (decP t).1 = zeroC ∧ (decP t).2.2.1 ≤ 1) ∨ ((decP t).2.2.2 = 0 ∧ encC (decP t).1 = (t, 0) ∧ BdC (decP t).1 ∧ ∀ W vs, RC W vs (decP t).1 → ctE x (decP t).1 = false) := by
  rcases dec_cases t with ⟨h1, _, _, h4, h5, h6, h7⟩ | ⟨h1, h2, h3⟩
  · right
    refine ⟨h1, ?_, gd_bdC h6, fun W vs hR => ?_⟩
    · unfold encC
      rw [if_pos h4, h5, if_neg (by omega)]
    · rw [ctE_eq hL (rc_limbs hR)]
      cases hs : sC x (decP t).1
      · simp
      · exfalso
        have := sC_id hs
        rw [← this] at h5
        exact hne h5
  · left
    exact ⟨h1, h2, by omega⟩

theorem conv1 (w : World) (b : UInt8) : (convert 52 9 (.slice (some ⟨w.heap.size, 0, none⟩) 1 1)).run Tryz.prog (w.alloc (.cells #[.int .u8 (b.toNat : Int)] 5)).drew = .ok (.string ⟨#[b]⟩) (w.alloc (.cells #[.int .u8 (b.toNat : Int)] 5)).drew :=
  run_convert_bytes_back (P := Tryz.prog) (w.alloc (.cells #[.int .u8 (b.toNat : Int)] 5)).drew 52 9 5 ⟨w.heap.size, 0, none⟩ 1 [b] Tryz.underlying52 Tryz.underlying5 Tryz.underlying9 (fun j hj => by
    obtain rfl : j = 0 := by simp at hj; omega
    exact (Blk.newAt w _ _ (g := w.heap.size) rfl).drew.cell 0)

set_option maxRecDepth 100000 in
set_option maxHeartbeats 8000000 in
theorem lcspoilt_any (vs : List Value) (x : Ct) (at_ by_ : Int) (w : World) (h : RC w vs x) (l1 : 0 ≤ at_) (l2 : at_ ≤ 65535) (l3 : 0 ≤ by_) (l4 : by_ ≤ 255) (he : Ev w.heap.size w) : Calls Tryz.prog 7 #[.agg vs.toArray, .int .u16 at_, .int .u8 by_] w (Says true w) := by
  have hr := h
  obtain ⟨xA, xn, xc, xB, xm, xd, xC, xp, xq, xL, xln, xlc, rfl, -, -, -, -⟩ := h
  obtain ⟨b, rfl⟩ : ∃ b : UInt8, by_ = (b.toNat : Int) := ⟨UInt8.ofNat by_.toNat, by simp; omega⟩
  obtain ⟨a, rfl⟩ : ∃ a : Nat, at_ = (a : Int) := ⟨at_.toNat, by omega⟩
  obtain ⟨lg, hlg⟩ : ∃ lg, lgC x = lg := ⟨_, rfl⟩
  have HLm := Lib.hid (rc_limbs hr)
  have HA := Lib.hid (fun W (hb : Below w.heap.size w W) => cawake_any W (he.step hb))
  have H1 := Lib.hid (fun W (hb : Below w.heap.size w W) => large_any _ x W (lasts_RC w W _ _ hr hb))
  have H2 := Lib.hid (fun (hl : lg = false) W (hb : Below w.heap.size w W) => encode_any _ x W (lasts_RC w W _ _ hr hb) (bd_C (hlg.trans hl)).1 (he.step hb).here.tabs (he.step hb).here.tens)
  have H3 := Lib.hid (fun (hl : lg = false) us y (hy : BdC y) W (hb : Below w.heap.size w W) (hry : RC W us y) => certEqual_any _ us x y W (lasts_RC w W _ _ hr hb) hry (bd_C (hlg.trans hl)).1 hy (he.step hb).here.tabs)
  have HE := Lib.hid (fun W (hb : Below w.heap.size w W) => he.step hb)
  rw [hlg] at H1
  have HC := Lib.hid (enc_cases x)
  have HSP := Lib.hid (fun t => spoil_cases (x := x) (t := t) HLm.out)
  obtain ⟨xpr, xod, xst, xls⟩ := x
  dsimp only at H1 H2 H3
  clear hr HLm hlg he
  have hb0 := ballo w (.cells #[.int .i64 xpr, .int .i64 xod, .slice xA xn xc, .slice xB xm xd, .slice xC xp xq, .slice xL xln xlc] 42)
  have kx := Blk.new w 42 #[.int .i64 xpr, .int .i64 xod, .slice xA xn xc, .slice xB xm xd, .slice xC xp xq, .slice xL xln xlc]
  go_enter Tryz.func7, Tryz.ntmps7
  go_wp2_with fail
  generalize w.alloc (.cells #[.int .i64 xpr, .int .i64 xod, .slice xA xn xc, .slice xB xm xd, .slice xC xp xq, .slice xL xln xlc] 42) = W0 at *
  refine (HA.out _ hb0).mono ?_
  rintro e w1 ⟨rfl, hb1⟩
  replace kx := kx.next hb1
  replace hb0 := bnext hb0 hb1
  clear hb1
  obtain ⟨q0, q1, q2, q3, q4, q5⟩ := kx.cells6
  go_wp2_with fail
  refine (H1.out _ hb0).mono ?_
  rintro e w2 ⟨rfl, hb1⟩
  clear q0 q1 q2 q3 q4 q5
  replace kx := kx.next hb1
  replace hb0 := bnext hb0 hb1
  clear hb1 H1
  cases lg
  rotate_left
  · go_wp2_with fail
    refine (HA.out _ hb0).mono ?_
    rintro e w3 ⟨rfl, hb1⟩
    replace hb0 := bnext hb0 hb1
    go_wp2_with fail
    go_ret
    exact ⟨rfl, hb0⟩
  replace H2 := Lib.hid (H2.out rfl)
  replace H3 := Lib.hid (H3.out rfl)
  clear HA
  obtain ⟨q0, q1, q2, q3, q4, q5⟩ := kx.cells6
  go_wp2_with fail
  refine (H2.out _ hb0).mono ?_
  clear H2
  rcases HC.out with ⟨k, hk, hk0⟩ | ⟨hk, hv, hlen, hne⟩
  · rw [hk]
    clear HC hk
    rintro e w3 ⟨rfl, hb1⟩
    clear q0 q1 q2 q3 q4 q5
    replace hb0 := bnext hb0 hb1
    dsimp only
    have hk1 : (k != 0) = true := by rw [bne_iff_ne]; exact hk0
    go_wp2_with fail
    go_ret
    exact ⟨rfl, hb0⟩
  rw [hk]
  clear HC hk hv
  have HSP2 := Lib.hid (fun t (ht : textC ⟨xpr, xod, xst, xls⟩ ≠ t) => HSP.out t ht)
  clear HSP
  generalize textC ⟨xpr, xod, xst, xls⟩ = S at *
  rintro e w3 ⟨rfl, hb1⟩
  clear q0 q1 q2 q3 q4 q5
  replace kx := kx.next hb1
  replace hb0 := bnext hb0 hb1
  clear hb1
  have hS0 : 0 < S.length := List.length_pos_iff.2 hne
  obtain ⟨ix, hix⟩ : ∃ ix, a % S.length = ix := ⟨_, rfl⟩
  have hKl : ix < S.length := by rw [← hix]; exact Nat.mod_lt _ hS0
  have hrem : Int.tmod (a : Int) (S.length : Int) = (ix : Int) := by rw [← hix]; rfl
  have hS0' : ((S.length : Int) == 0) = false := by rw [beq_eq_false_iff_ne]; omega
  obtain ⟨c, hc⟩ : ∃ c, S[ix]? = some c := ⟨_, List.getElem?_eq_getElem hKl⟩
  have hby : ∀ h, (⟨S.toArray⟩ : ByteArray)[ix]'h = c := byte_of hc
  dsimp only
  by_cases hcb : c = b
  · have hcb2 : ((c.toNat : Int) == (b.toNat : Int)) = true := by rw [hcb]; simp
    go_wp2_with fail
    go_ret
    exact ⟨rfl, hb0⟩
  have hcb2 : ((c.toNat : Int) == (b.toNat : Int)) = false := by
    rw [beq_eq_false_iff_ne]
    intro h
    exact hcb (UInt8.toNat_inj.1 (by omega))
  have hspn := spoil_ne hc hcb
  have hspl := spoil_len (b := b) hKl
  have hx1 : (⟨S.toArray⟩ : ByteArray).extract 0 ix = ⟨(S.take ix).toArray⟩ := by rw [ext_mk]; simp
  have hx2 : (⟨S.toArray⟩ : ByteArray).extract (ix + 1) S.length = ⟨(S.drop (ix + 1)).toArray⟩ := by rw [ext_mk, List.take_of_length_le (Nat.le_refl _)]
  have hc1 := cat_mk (S.take ix) [b]
  have hc2 : (⟨(S.take ix ++ [b]).toArray⟩ : ByteArray) ++ (⟨(S.drop (ix + 1)).toArray⟩ : ByteArray) = ⟨(spoil S ix b).toArray⟩ := cat_mk (S.take ix ++ [b]) (S.drop (ix + 1))
  have hxl : ix ≤ S.length := Nat.le_of_lt hKl
  have hxw : IntKind.i64.wrap ((ix : Int) + 1) = (ix : Int) + 1 := IntWalk.i64_in _ (by omega)
  have hx0 : 0 ≤ (ix : Int) + 1 := by omega
  have hx3 : (ix : Int) + 1 ≤ (S.length : Int) := by omega
  have hx4 : ((ix : Int) + 1).toNat = ix + 1 := by omega
  have hy1 : ¬ 9223372036854775807 < ix + 1 := by omega
  have hy2 : ¬ 9223372036854775807 < ix + 1 + (S.length - (ix + 1)) := by omega
  go_wp2_with fail
  clear W0
  generalize w3 = W0 at *
  have hB := bdrew W0
  have HK : Hid (∀ V, Below W0.heap.size W0 V → (fun V => Below W0.heap.size W0 V) V) := fun V hV => hV
  refine wp_region_held_drew (S := (fun V => Below W0.heap.size W0 V)) (by kernel_rfl) (HK.out _ hB) (fun hH => ?_)
  refine wpAnyH_take (i := 0) (oi := ⟨_, _, _, _, _, _⟩) (v := ?_) rfl (by kernel_rfl) (by kernel_rfl) (by kernel_rfl) (fun _ _ _ h => h) (Or.inl ⟨by rfl, ?_⟩) hH ?_
  rotate_left
  · (intro w hSw; (try dsimp only at hSw); go_simp; try (with_reducible rfl))
  simp only [Act.put, List.setIfInBounds_toArray, List.set_cons_zero, List.set_cons_succ]
  refine wpAnyH_take (i := 1) (oi := ⟨_, _, _, _, _, _⟩) (v := ?_) rfl (by kernel_rfl) (by kernel_rfl) (by kernel_rfl) (fun _ _ _ h => h) (Or.inl ⟨by rfl, ?_⟩) hH ?_
  rotate_left
  · (intro w hSw; (try dsimp only at hSw); go_simp; try (with_reducible rfl))
  simp only [Act.put, List.setIfInBounds_toArray, List.set_cons_zero, List.set_cons_succ]
  refine wpAnyH_take (i := 2) (oi := ⟨_, _, _, _, _, _⟩) (v := ?_) rfl (by kernel_rfl) (by kernel_rfl) (by kernel_rfl) (fun _ _ _ h => h) (Or.inl ⟨by rfl, ?_⟩) hH ?_
  rotate_left
  · (intro w hSw; (try dsimp only at hSw); go_simp; try (with_reducible rfl))
  simp only [Act.put, List.setIfInBounds_toArray, List.set_cons_zero, List.set_cons_succ]
  refine wpAnyH_take (i := 3) (oi := ⟨_, _, _, _, _, _⟩) (v := ?_) rfl (by kernel_rfl) (by kernel_rfl) (by kernel_rfl) (fun _ _ _ h => h) (Or.inl ⟨by rfl, ?_⟩) hH ?_
  rotate_left
  · (intro w hSw; (try dsimp only at hSw); go_simp; try (with_reducible rfl))
  simp only [Act.put, List.setIfInBounds_toArray, List.set_cons_zero, List.set_cons_succ]
  refine wpAnyH_take (i := 7) (oi := ⟨_, _, _, _, _, _⟩) (v := ?_) rfl (by kernel_rfl) (by kernel_rfl) (by kernel_rfl) (fun _ _ _ h => h) (Or.inl ⟨by rfl, ?_⟩) hH ?_
  rotate_left
  · (intro w hSw; (try dsimp only at hSw); go_simp; try (with_reducible rfl))
  simp only [Act.put, List.setIfInBounds_toArray, List.set_cons_zero, List.set_cons_succ]
  refine wpAnyH_take (i := 8) (oi := ⟨_, _, _, _, _, _⟩) (v := ?_) rfl (by kernel_rfl) (by kernel_rfl) (by kernel_rfl) (fun _ _ _ h => h) (Or.inl ⟨by rfl, ?_⟩) hH ?_
  rotate_left
  · (intro w hSw; (try dsimp only at hSw); go_simp; try (with_reducible rfl))
  simp only [Act.put, List.setIfInBounds_toArray, List.set_cons_zero, List.set_cons_succ]
  refine wpAnyH_take (i := 9) (oi := ⟨_, _, _, _, _, _⟩) (v := ?_) rfl (by kernel_rfl) (by kernel_rfl) (by kernel_rfl) (fun _ _ _ h => h) (Or.inl ⟨by rfl, ?_⟩) hH ?_
  rotate_left
  · (intro w hSw; (try dsimp only at hSw); go_simp; try (with_reducible rfl))
  simp only [Act.put, List.setIfInBounds_toArray, List.set_cons_zero, List.set_cons_succ]
  refine wpAnyH_take (i := 10) (oi := ⟨_, _, _, _, _, _⟩) (v := ?_) rfl (by kernel_rfl) (by kernel_rfl) (by kernel_rfl) (fun _ _ _ h => h) (Or.inl ⟨by rfl, ?_⟩) hH ?_
  rotate_left
  · (intro w hSw; (try dsimp only at hSw); go_simp; try (with_reducible rfl))
  simp only [Act.put, List.setIfInBounds_toArray, List.set_cons_zero, List.set_cons_succ]
  refine wpAnyH_ready (rs := [4]) (by kernel_rfl) (by simp) ?_
  refine AllReadyH.cons (o := ⟨_, _, _, _, _, _⟩) rfl (fun K hK => ?_) AllReadyH.nil
  go_simp
  clear hB
  have hB : Below W0.heap.size W0 (W0.alloc (.cells #[.int .u8 (b.toNat : Int)] 5)).drew := bnext (ballo W0 _) (bdrew _)
  have hcv := conv1 W0 b
  refine hK.out _ _ (HK.out _ hB) (fun hH => ?_)
  clear hK K
  refine wpAnyH_ready (rs := [5]) (by kernel_rfl) (by simp) ?_
  refine AllReadyH.cons (o := ⟨_, _, _, _, _, _⟩) rfl (fun K hK => ?_) AllReadyH.nil
  go_simp
  clear hcv
  refine hK.out _ _ (HK.out _ hB) (fun hH => ?_)
  clear hK K
  refine wpAnyH_take (i := 6) (oi := ⟨_, _, _, _, _, _⟩) (v := ?_) rfl (by kernel_rfl) (by kernel_rfl) (by kernel_rfl) (fun _ _ _ h => h) (Or.inl ⟨by rfl, ?_⟩) hH ?_
  rotate_left
  · (intro w hSw; (try dsimp only at hSw); go_simp; try (with_reducible rfl))
  simp only [Act.put, List.setIfInBounds_toArray, List.set_cons_zero, List.set_cons_succ]
  refine wpAnyH_take (i := 11) (oi := ⟨_, _, _, _, _, _⟩) (v := ?_) rfl (by kernel_rfl) (by kernel_rfl) (by kernel_rfl) (fun _ _ _ h => h) (Or.inl ⟨by rfl, ?_⟩) hH ?_
  rotate_left
  · (intro w hSw; (try dsimp only at hSw); go_simp; try (with_reducible rfl))
  simp only [Act.put, List.setIfInBounds_toArray, List.set_cons_zero, List.set_cons_succ]
  refine wpAnyH_take (i := 12) (oi := ⟨_, _, _, _, _, _⟩) (v := ?_) rfl (by kernel_rfl) (by kernel_rfl) (by kernel_rfl) (fun _ _ _ h => h) (Or.inl ⟨by rfl, ?_⟩) hH ?_
  rotate_left
  · (intro w hSw; (try dsimp only at hSw); go_simp; try (with_reducible rfl))
  simp only [Act.put, List.setIfInBounds_toArray, List.set_cons_zero, List.set_cons_succ]
  refine wpAnyH_done (by kernel_rfl) ?_ _
  clear hx1 hx2 hy1 hy2 hxw hx0 hx3 hx4 hby hcb2 hrem hS0' hxl
  have HSP3 := Lib.hid (HSP2.out _ hspn.symm)
  clear HSP2 hspn
  have htl : (spoil S ix b).length ≤ 1000000 := by omega
  generalize spoil S ix b = t at *
  replace kx := kx.next hB
  replace hb0 := bnext hb0 hB
  clear HK hH
  generalize (W0.alloc (.cells #[.int .u8 (b.toNat : Int)] 5)).drew = W1 at *
  clear hB hc1
  go_wp2_with fail
  refine (decode_any t _ htl (HE.out _ hb0)).mono ?_
  clear hc2
  generalize decP t = D at *
  obtain ⟨y, pl, pc, k⟩ := D
  dsimp only at HSP3
  rintro e w4 ⟨us, rfl, hu6, hru, hb1⟩
  dsimp only at hru
  replace kx := kx.next hb1
  replace hb0 := bnext hb0 hb1
  clear hb1
  have hry := hru
  obtain ⟨yA, yn, yc, yB, ym, yd, yC, yp, yq, yL, yln, ylc, rfl, -, -, -, -⟩ := hru
  obtain ⟨ypr, yod, yst, yls⟩ := y
  dsimp only at hry
  have hb1 := bnext (ballo w4 (.cells #[.int .i64 ypr, .int .i64 yod, .slice yA yn yc, .slice yB ym yd, .slice yC yp yq, .slice yL yln ylc] 42)) (ballo (w4.alloc (.cells #[.int .i64 ypr, .int .i64 yod, .slice yA yn yc, .slice yB ym yd, .slice yC yp yq, .slice yL yln ylc] 42)) (.cells #[.int .i64 pl, .int .i64 pc] 48))
  have ky := (Blk.new w4 42 #[.int .i64 ypr, .int .i64 yod, .slice yA yn yc, .slice yB ym yd, .slice yC yp yq, .slice yL yln ylc]).next (ballo (w4.alloc (.cells #[.int .i64 ypr, .int .i64 yod, .slice yA yn yc, .slice yB ym yd, .slice yC yp yq, .slice yL yln ylc] 42)) (.cells #[.int .i64 pl, .int .i64 pc] 48))
  have kp : Blk ((w4.alloc (.cells #[.int .i64 ypr, .int .i64 yod, .slice yA yn yc, .slice yB ym yd, .slice yC yp yq, .slice yL yln ylc] 42)).alloc (.cells #[.int .i64 pl, .int .i64 pc] 48)) (w4.heap.size + 1) 48 #[.int .i64 pl, .int .i64 pc] := Blk.newAt _ _ _ (by simp)
  replace kx := kx.next hb1
  replace hb0 := bnext hb0 hb1
  replace hry := lasts_RC _ _ _ _ hry hb1
  clear hb1
  obtain ⟨y0, y1, y2, y3, y4, y5⟩ := ky.cells6
  have p1 := kp.cell 1
  simp at p1
  rcases HSP3.out with ⟨h1, h2, h3⟩ | ⟨h1, h2, h3, h4⟩
  · injection h2 with z1 z2 z3 z4
    subst z1 z2
    have hk1 : (k != 0) = true := by rw [bne_iff_ne]; exact h1
    have hr0 : RC ((w4.alloc (.cells #[.int .i64 0, .int .i64 0, .slice yA yn yc, .slice yB ym yd, .slice yC yp yq, .slice yL yln ylc] 42)).alloc (.cells #[.int .i64 pl, .int .i64 pc] 48)) [.int .i64 0, .int .i64 0, .slice yA yn yc, .slice yB ym yd, .slice yC yp yq, .slice yL yln ylc] zeroC := by
      have := hry
      rw [z3, z4] at this
      exact this
    clear hry HSP3
    go_wp2_with fail
    generalize ((w4.alloc (.cells #[.int .i64 0, .int .i64 0, .slice yA yn yc, .slice yB ym yd, .slice yC yp yq, .slice yL yln ylc] 42)).alloc (.cells #[.int .i64 pl, .int .i64 pc] 48)) = W2 at *
    refine (lsame_any _ [.int .i64 0, .int .i64 0, .slice none 0 0, .slice none 0 0, .slice none 0 0, .slice none 0 0] zeroC zeroC _ hr0 (rc_zero _)).mono ?_
    rw [sC_refl]
    rintro e w5 ⟨rfl, hb1⟩
    replace hb0 := bnext hb0 hb1
    replace kp := kp.next hb1
    clear y0 y1 y2 y3 y4 y5 p1 hb1
    have p1 := kp.cell 1
    simp at p1
    have hpc : decide (pc ≤ 1) = true := decide_eq_true h3
    go_wp2_with fail
    go_ret
    exact ⟨rfl, hb0⟩
  subst h1
  have hfalse := h4 _ _ hry
  have HR := Lib.hid (fun V hb => lasts_RC _ V _ _ hry hb)
  have H5 := Lib.hid (encode_any _ _ _ hry h3 (HE.out _ hb0).here.tabs (HE.out _ hb0).here.tens)
  have H6 := Lib.hid (fun V hb hbV => H3.out _ _ h3 V hb (HR.out V hbV))
  rw [h2] at H5
  rw [hfalse] at H6
  clear H3 h4 h3 h2 hfalse HSP3 hry HR HE
  dsimp only at H5 H6
  go_wp2_with fail
  generalize ((w4.alloc (.cells #[.int .i64 ypr, .int .i64 yod, .slice yA yn yc, .slice yB ym yd, .slice yC yp yq, .slice yL yln ylc] 42)).alloc (.cells #[.int .i64 pl, .int .i64 pc] 48)) = W2 at *
  refine (H5.out).mono ?_
  rintro e w5 ⟨rfl, hb1⟩
  clear y0 y1 y2 y3 y4 y5 p1
  replace hb0 := bnext hb0 hb1
  replace kx := kx.next hb1
  replace ky := ky.next hb1
  obtain ⟨y0, y1, y2, y3, y4, y5⟩ := ky.cells6
  obtain ⟨q0, q1, q2, q3, q4, q5⟩ := kx.cells6
  dsimp only
  go_wp2_with fail
  refine (H6.out _ hb0 hb1).mono ?_
  rintro e w6 ⟨rfl, hb2⟩
  replace hb0 := bnext hb0 hb2
  go_wp2_with fail
  go_ret
  exact ⟨rfl, hb0⟩
end Go.Proofs.YtekajoifgdpmlaaGreatDoor
