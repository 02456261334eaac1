/- The law DyadicTexts: its walk. (Printed by gen_l12.py.) -/
import Derived.Test.YtjhokljoomeilaaGreatDoorTB
namespace Go.Proofs.YtjhokljoomeilaaGreatDoor
open Go.RowKit Pl Go.Shelf

theorem text_parse {d : Dy} (hL : Limbs d.l) (hv : vld d = true) (W : World) (ht : Tabs W) : Calls Tryz.prog 19 #[.string ⟨(textD d).toArray⟩] W (RetE d 0 W) := by
  by_cases hl : d.l = []
  · have e : textD d = [48] := by unfold textD; rw [if_pos hl]
    obtain ⟨dn, dl, de⟩ := d
    simp only at hl
    subst hl
    obtain ⟨rfl, rfl⟩ := vld_empty hv
    rw [e]
    exact parse_zero W
  · have := parse_parts (text_parts hl) W (text_len hv) ht
    rw [text_ok hL hv hl] at this
    exact this

set_option maxRecDepth 100000 in
set_option maxHeartbeats 8000000 in
theorem ltexts_any (dn : Bool) (dA : Option Addr) (ds dc : Nat) (dl : List Nat) (de : Int) (w : World) (hd : SL w dA ds dc dl) (ht : Tabs w) (hten : Tens w) :
    Calls Tryz.prog 4 #[.agg #[.bool dn, .slice dA ds dc, .int .i64 de]] w fun e w' => e = .returned (.bool true) ∧ Below w.heap.size w w' := by
  have HN := Lib.hid hten
  clear hten
  have HT := Lib.hid ht
  clear ht
  go_enter Tryz.func4, Tryz.ntmps4
  go_wp2_with fail
  have hbw := ballo w (.cells #[.bool dn, .slice dA ds dc, .int .i64 de] 24)
  have vd := Var.new w dn de hd
  replace HT := Lib.hid (HT.out.next hbw)
  generalize w.alloc (.cells #[.bool dn, .slice dA ds dc, .int .i64 de] 24) = W0 at *
  go_wp2_with fail
  refine (awake_any _ HT.out).mono ?_
  rintro e w1 ⟨rfl, hb1⟩
  replace vd := vd.next hb1
  replace hbw := bnext hbw hb1
  replace HT := Lib.hid (HT.out.next hb1)
  clear hb1
  obtain ⟨dq0, dq1, dq2⟩ := vd.cells
  by_cases hm : 130 < ds
  · clear dq0 dq1 dq2
    obtain ⟨dq0, dq1, dq2⟩ := vd.cells
    go_wp2_with fail
    refine (awake_any _ HT.out).mono ?_
    rintro e w2 ⟨rfl, hb2⟩
    clear dq0 dq1 dq2
    replace vd := vd.next hb2
    replace hbw := bnext hbw hb2
    replace HT := Lib.hid (HT.out.next hb2)
    clear hb2
    go_wp2_with fail
    go_ret
    exact ⟨rfl, hbw⟩
  cases hv : vld ⟨dn, dl, de⟩
  · have HV := Lib.hid hv
    clear dq0 dq1 dq2
    obtain ⟨dq0, dq1, dq2⟩ := vd.cells
    go_wp2_with fail
    refine (dtext_bad dn dA ds dc dl de _ vd.sl (by omega) HV.out).mono ?_
    rintro e w2 ⟨rfl, hb2⟩
    clear dq0 dq1 dq2
    replace vd := vd.next hb2
    replace hbw := bnext hbw hb2
    replace HT := Lib.hid (HT.out.next hb2)
    clear hb2
    obtain ⟨dq0, dq1, dq2⟩ := vd.cells
    go_wp2_with fail
    refine (rvalid_any dn dA ds dc dl de _ vd.sl (by omega)).mono ?_
    rw [HV.out]
    rintro e w3 ⟨rfl, hb3⟩
    clear dq0 dq1 dq2
    replace vd := vd.next hb3
    replace hbw := bnext hbw hb3
    replace HT := Lib.hid (HT.out.next hb3)
    clear hb3
    go_wp2_with fail
    go_ret
    exact ⟨rfl, hbw⟩
  · have HV := Lib.hid hv
    have HP := Lib.hid (fun W (hW : Tabs W) => text_parse hd.lt hv W hW)
    generalize hS : textD ⟨dn, dl, de⟩ = S at *
    have HX := Lib.hid (fun W (h1 : SL W dA ds dc dl) (h2 : Tens W) => by have := dtext_ok dn dA ds dc dl de W h1 hv h2; rw [hS] at this; exact this)
    have HR := Lib.hid (fun W (h1 : SL W dA ds dc dl) => by have := rtext_any dn dA ds dc dl de W h1 hv; rw [hS] at this; exact this)
    clear hS hv
    clear dq0 dq1 dq2
    obtain ⟨dq0, dq1, dq2⟩ := vd.cells
    go_wp2_with fail
    refine (HX.out _ vd.sl (HN.out.next hbw)).mono ?_
    rintro e w2 ⟨rfl, hb2⟩
    clear dq0 dq1 dq2
    replace vd := vd.next hb2
    replace hbw := bnext hbw hb2
    replace HT := Lib.hid (HT.out.next hb2)
    clear hb2
    obtain ⟨dq0, dq1, dq2⟩ := vd.cells
    go_wp2_with fail
    refine (rvalid_any dn dA ds dc dl de _ vd.sl (by omega)).mono ?_
    rw [HV.out]
    rintro e w3 ⟨rfl, hb3⟩
    clear dq0 dq1 dq2
    replace vd := vd.next hb3
    replace hbw := bnext hbw hb3
    replace HT := Lib.hid (HT.out.next hb3)
    clear hb3
    go_wp2_with fail
    refine (HP.out _ HT.out).mono ?_
    rintro e w4 ⟨xA, xs, xc, rfl, hsx, hfx, hbx⟩
    dsimp only at hsx
    clear hfx
    have hbx2 := bnext hbx (ballo w4 (.cells #[.bool dn, .slice xA xs xc, .int .i64 de] 24))
    have vx := Var.new w4 dn de hsx
    replace vd := vd.next hbx2
    replace hbw := bnext hbw hbx2
    replace HT := Lib.hid (HT.out.next hbx2)
    clear hbx hbx2 hsx
    obtain ⟨dq0, dq1, dq2⟩ := vd.cells
    go_wp2_with fail
    generalize w4.alloc (.cells #[.bool dn, .slice xA xs xc, .int .i64 de] 24) = W4 at *
    generalize w4.heap.size = gx at *
    refine (HR.out _ vd.sl).mono ?_
    rintro e w5 ⟨rfl, hb5⟩
    clear dq0 dq1 dq2
    replace vd := vd.next hb5
    replace vx := vx.next hb5
    replace hbw := bnext hbw hb5
    replace HT := Lib.hid (HT.out.next hb5)
    clear hb5
    obtain ⟨xq0, xq1, xq2⟩ := vx.cells
    obtain ⟨dq0, dq1, dq2⟩ := vd.cells
    go_wp2_with fail
    refine (requal_any dn dn xA dA xs xc ds dc dl dl de de _ vx.sl vd.sl).mono ?_
    rw [eqD_self]
    rintro e w6 ⟨rfl, hb6⟩
    clear xq0 xq1 xq2 dq0 dq1 dq2
    replace vd := vd.next hb6
    replace vx := vx.next hb6
    replace hbw := bnext hbw hb6
    replace HT := Lib.hid (HT.out.next hb6)
    clear hb6
    go_wp2_with fail
    go_ret
    exact ⟨rfl, hbw⟩

end Go.Proofs.YtjhokljoomeilaaGreatDoor
