/- The law CertificateTexts: its walk. (Printed by gen_k9.py.) -/
import Derived.Test.YtekajoifgdpmlaaGreatDoorZ1
import Derived.Test.YtekajoifgdpmlaaGreatDoorZ2
import Derived.Test.YtekajoifgdpmlaaGreatDoorZ3
import Derived.Test.YtekajoifgdpmlaaGreatDoorZ4
import Derived.Test.YtekajoifgdpmlaaGreatDoorZ5
import Derived.Test.YtekajoifgdpmlaaGreatDoorZ6
import Derived.Test.YtekajoifgdpmlaaGreatDoorZ7
import Derived.Test.YtekajoifgdpmlaaGreatDoorZ8
import Derived.Test.YtekajoifgdpmlaaGreatDoorZ9
import Derived.Test.YtekajoifgdpmlaaGreatDoorZ10
import Derived.Test.YtekajoifgdpmlaaGreatDoorZ11
import Derived.Test.YtekajoifgdpmlaaGreatDoorZ12
import Derived.Test.YtekajoifgdpmlaaGreatDoorZ13
import Derived.Test.YtekajoifgdpmlaaGreatDoorZ14
import Derived.Test.YtekajoifgdpmlaaGreatDoorZ15
import Derived.Test.YtekajoifgdpmlaaGreatDoorZ16
import Derived.Test.YtekajoifgdpmlaaGreatDoorZ17
import Derived.Test.YtekajoifgdpmlaaGreatDoorZ18
import Derived.Test.YtekajoifgdpmlaaGreatDoorZ19
import Derived.Test.YtekajoifgdpmlaaGreatDoorZ20
import Derived.Test.YtekajoifgdpmlaaGreatDoorZ21
import Derived.Test.YtekajoifgdpmlaaGreatDoorZ22
import Derived.Test.YtekajoifgdpmlaaGreatDoorZK8
namespace Go.Proofs.YtekajoifgdpmlaaGreatDoor
open Go.RowKit Pl Go.Shelf

set_option maxRecDepth 100000 in
set_option maxHeartbeats 8000000 in
theorem lctexts_any (vs : List Value) (x : Ct) (w : World) (h : RC w vs x) (he : Ev w.heap.size w) : Calls Tryz.prog 5 #[.agg vs.toArray] w (Says true w) := by
  have hr := h
  obtain ⟨xA, xn, xc, xB, xm, xd, xC, xp, xq, xL, xln, xlc, rfl, -, -, -, -⟩ := h
  obtain ⟨lg, hlg⟩ : ∃ lg, lgC x = lg := ⟨_, rfl⟩
  obtain ⟨b, hv⟩ : ∃ b, ctV x = b := ⟨_, rfl⟩
  have HLm := Lib.hid (rc_limbs hr)
  have HA := Lib.hid (fun W (hb : Below w.heap.size w W) => cawake_any W (he.step hb))
  have H1 := Lib.hid (fun W (hb : Below w.heap.size w W) => large_any _ x W (lasts_RC w W _ _ hr hb))
  have H2 := Lib.hid (fun (hl : lg = false) W (hb : Below w.heap.size w W) => encode_any _ x W (lasts_RC w W _ _ hr hb) (bd_C (hlg.trans hl)).1 (he.step hb).here.tabs (he.step hb).here.tens)
  have H3 := Lib.hid (fun (hl : lg = false) W (hb : Below w.heap.size w W) => rcertValid_any _ x W (lasts_RC w W _ _ hr hb) (bd_C (hlg.trans hl)).1)
  have H4 := Lib.hid (fun (hb' : b = true) W (hb : Below w.heap.size w W) => xtext_any _ x W (lasts_RC w W _ _ hr hb) (hv.trans hb'))
  have H5 := Lib.hid (fun us W (hb : Below w.heap.size w W) (hu : RC W us x) => lsame_any _ us x x W (lasts_RC w W _ _ hr hb) hu)
  have HE := Lib.hid (fun W (hb : Below w.heap.size w W) => he.step hb)
  have HEN : Hid (encC x = if b = true then (if 65536 < (textC x).length then ([], 5) else (textC x, 0)) else ([], 1)) := by unfold Hid; rw [← hv]; rfl
  have HDC := Lib.hid (fun (hb' : b = true) (hl : (textC x).length ≤ 65536) => dec_text (hv.trans hb') HLm.out hl)
  rw [hlg] at H1
  rw [hv] at H3
  rw [sC_refl] at H5
  rw [HEN.out] at H2
  obtain ⟨xpr, xod, xst, xls⟩ := x
  dsimp only at H1 H2 H3 H4 H5
  clear hr HLm hlg hv he HEN
  have hb0 := ballo w (.cells #[.int .i64 xpr, .int .i64 xod, .slice xA xn xc, .slice xB xm xd, .slice xC xp xq, .slice xL xln xlc] 42)
  have kx := Blk.new w 42 #[.int .i64 xpr, .int .i64 xod, .slice xA xn xc, .slice xB xm xd, .slice xC xp xq, .slice xL xln xlc]
  go_enter Tryz.func5, Tryz.ntmps5
  go_wp2_with fail
  generalize w.alloc (.cells #[.int .i64 xpr, .int .i64 xod, .slice xA xn xc, .slice xB xm xd, .slice xC xp xq, .slice xL xln xlc] 42) = W0 at *
  refine (HA.out _ hb0).mono ?_
  rintro e w1 ⟨rfl, hb1⟩
  replace kx := kx.next hb1
  replace hb0 := bnext hb0 hb1
  clear hb1
  obtain ⟨q0, q1, q2, q3, q4, q5⟩ := kx.cells6
  go_wp2_with fail
  refine (H1.out _ hb0).mono ?_
  rintro e w2 ⟨rfl, hb1⟩
  clear q0 q1 q2 q3 q4 q5
  replace kx := kx.next hb1
  replace hb0 := bnext hb0 hb1
  clear hb1 H1
  cases lg
  rotate_left
  · go_wp2_with fail
    refine (HA.out _ hb0).mono ?_
    rintro e w3 ⟨rfl, hb1⟩
    replace hb0 := bnext hb0 hb1
    go_wp2_with fail
    go_ret
    exact ⟨rfl, hb0⟩
  replace H2 := Lib.hid (H2.out rfl)
  replace H3 := Lib.hid (H3.out rfl)
  clear HA
  cases b
  · simp only [Bool.false_eq_true, if_false] at H2
    obtain ⟨q0, q1, q2, q3, q4, q5⟩ := kx.cells6
    go_wp2_with fail
    refine (H2.out _ hb0).mono ?_
    rintro e w3 ⟨rfl, hb1⟩
    clear q0 q1 q2 q3 q4 q5
    replace kx := kx.next hb1
    replace hb0 := bnext hb0 hb1
    obtain ⟨q0, q1, q2, q3, q4, q5⟩ := kx.cells6
    go_wp2_with fail
    refine (H3.out _ hb0).mono ?_
    rintro e w4 ⟨rfl, hb2⟩
    replace hb0 := bnext hb0 hb2
    go_wp2_with fail
    go_ret
    exact ⟨rfl, hb0⟩
  replace H4 := Lib.hid (H4.out rfl)
  replace HDC := Lib.hid (HDC.out rfl)
  simp only [if_true] at H2
  generalize hx : (⟨xpr, xod, xst, xls⟩ : Ct) = x at *
  generalize textC x = S at *
  by_cases hl : 65536 < S.length
  · rw [if_pos hl] at H2
    obtain ⟨q0, q1, q2, q3, q4, q5⟩ := kx.cells6
    go_wp2_with fail
    refine (H2.out _ hb0).mono ?_
    rintro e w3 ⟨rfl, hb1⟩
    clear q0 q1 q2 q3 q4 q5
    replace kx := kx.next hb1
    replace hb0 := bnext hb0 hb1
    obtain ⟨q0, q1, q2, q3, q4, q5⟩ := kx.cells6
    go_wp2_with fail
    refine (H3.out _ hb0).mono ?_
    rintro e w4 ⟨rfl, hb2⟩
    clear q0 q1 q2 q3 q4 q5
    replace kx := kx.next hb2
    replace hb0 := bnext hb0 hb2
    obtain ⟨q0, q1, q2, q3, q4, q5⟩ := kx.cells6
    go_wp2_with fail
    refine (H4.out _ hb0).mono ?_
    rintro e w5 ⟨rfl, hb3⟩
    replace hb0 := bnext hb0 hb3
    go_wp2_with fail
    go_ret
    exact ⟨rfl, hb0⟩
  rw [if_neg hl] at H2
  replace HDC := Lib.hid (HDC.out (by omega))
  obtain ⟨q0, q1, q2, q3, q4, q5⟩ := kx.cells6
  go_wp2_with fail
  refine (H2.out _ hb0).mono ?_
  rintro e w3 ⟨rfl, hb1⟩
  clear q0 q1 q2 q3 q4 q5
  replace kx := kx.next hb1
  replace hb0 := bnext hb0 hb1
  obtain ⟨q0, q1, q2, q3, q4, q5⟩ := kx.cells6
  go_wp2_with fail
  refine (H3.out _ hb0).mono ?_
  rintro e w4 ⟨rfl, hb2⟩
  clear q0 q1 q2 q3 q4 q5
  replace kx := kx.next hb2
  replace hb0 := bnext hb0 hb2
  obtain ⟨q0, q1, q2, q3, q4, q5⟩ := kx.cells6
  go_wp2_with fail
  refine (H4.out _ hb0).mono ?_
  rintro e w5 ⟨rfl, hb3⟩
  clear q0 q1 q2 q3 q4 q5
  replace kx := kx.next hb3
  replace hb0 := bnext hb0 hb3
  clear hb1 hb2 hb3
  go_wp2_with fail
  refine (decode_any S _ (by omega) (HE.out _ hb0)).mono ?_
  rw [HDC.out]
  rintro e w6 ⟨us, rfl, hu6, hru, hb1⟩
  dsimp only at hru
  replace kx := kx.next hb1
  replace hb0 := bnext hb0 hb1
  clear hb1
  have HRy := Lib.hid hru
  obtain ⟨yA, yn, yc, yB, ym, yd, yC, yp, yq, yL, yln, ylc, rfl, -, -, -, -⟩ := hru
  have hx1 : x.prec = xpr := by rw [← hx]
  have hx2 : x.order = xod := by rw [← hx]
  rw [hx1, hx2] at HRy ⊢
  clear hx1 hx2 hu6
  have hb1 := bnext (ballo w6 (.cells #[.int .i64 xpr, .int .i64 xod, .slice yA yn yc, .slice yB ym yd, .slice yC yp yq, .slice yL yln ylc] 42)) (ballo (w6.alloc (.cells #[.int .i64 xpr, .int .i64 xod, .slice yA yn yc, .slice yB ym yd, .slice yC yp yq, .slice yL yln ylc] 42)) (.cells #[.int .i64 0, .int .i64 0] 48))
  have ky := (Blk.new w6 42 #[.int .i64 xpr, .int .i64 xod, .slice yA yn yc, .slice yB ym yd, .slice yC yp yq, .slice yL yln ylc]).next (ballo (w6.alloc (.cells #[.int .i64 xpr, .int .i64 xod, .slice yA yn yc, .slice yB ym yd, .slice yC yp yq, .slice yL yln ylc] 42)) (.cells #[.int .i64 0, .int .i64 0] 48))
  have kp : Blk ((w6.alloc (.cells #[.int .i64 xpr, .int .i64 xod, .slice yA yn yc, .slice yB ym yd, .slice yC yp yq, .slice yL yln ylc] 42)).alloc (.cells #[.int .i64 0, .int .i64 0] 48)) (w6.heap.size + 1) 48 #[.int .i64 0, .int .i64 0] := Blk.newAt _ _ _ (by simp)
  replace kx := kx.next hb1
  replace hb0 := bnext hb0 hb1
  replace HRy := Lib.hid (lasts_RC _ _ _ _ HRy.out hb1)
  clear hb1
  obtain ⟨y0, y1, y2, y3, y4, y5⟩ := ky.cells6
  obtain ⟨q0, q1, q2, q3, q4, q5⟩ := kx.cells6
  have p0 := kp.cell 0
  have p1 := kp.cell 1
  simp at p0 p1
  go_wp2_with fail
  refine (H5.out _ _ hb0 HRy.out).mono ?_
  rintro e w7 ⟨rfl, hb1⟩
  replace hb0 := bnext hb0 hb1
  go_wp2_with fail
  go_ret
  exact ⟨rfl, hb0⟩

end Go.Proofs.YtekajoifgdpmlaaGreatDoor
