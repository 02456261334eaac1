/- Bundle 14: what the laws' walks stand on: C13, C14. -/
import Derived.Test.YtekajoifgdpmlaaGreatDoorZ11
import Derived.Test.YtekajoifgdpmlaaGreatDoorZ12
/-! C13 -/
namespace Go.Proofs.YtekajoifgdpmlaaGreatDoor
open Go.RowKit Pl Go.Shelf

def cz (d d' : Dy) : Bool := decide (cmpD d d' = 0)
def enN (l l' : List Dy) : Bool := eqF cz l l'
def enR (m m' : List (List Dy)) : Bool := eqF enN m m'
def ins (x y : Iv) : Bool := ivV x && ivV y && (y.all || (!x.all && decide (cmpD y.lo x.lo ≤ 0) && decide (cmpD x.hi y.hi ≤ 0)))
def ivE (x y : Iv) : Bool := ins x y && ins y x
def enF (f g : Fr) : Bool := enN f.c g.c && enR f.a g.a && eqF ivE f.r g.r
def bxE (a b : List Iv) : Bool := boxV a && boxV b && decide (a.length = b.length) && eqF ivE a b
def lkE (x y : Lk) : Bool := cz x.h y.h && bxE x.tube y.tube && enF x.e y.e && enR x.v y.v
def ctE (x y : Ct) : Bool := ctV x && ctV y && decide (x.prec = y.prec) && decide (x.order = y.order) && enF x.start y.start && eqF lkE x.links y.links

set_option maxHeartbeats 1000000 in
theorem eqNumbers1_any (vs us : List Value) (x y : Dy) (w : World) (h : RD w vs x) (h' : RD w us y) (hx : Bd x) (hy : Bd y) : Calls Tryz.prog 186 (#[.agg vs.toArray, .agg us.toArray] ++ #[]) w (Says (cz x y) w) := by
  rw [Array.append_empty]
  obtain ⟨aA, asz, ac, rfl, ha⟩ := h
  obtain ⟨an, al, ae⟩ := x
  dsimp only at ha ⊢
  have ra : RD w [.bool an, .slice aA asz ac, .int .i64 ae] ⟨an, al, ae⟩ := ⟨aA, asz, ac, rfl, ha⟩
  have Ra := Lib.hid (fun W hb => lasts_RD w W _ _ ra hb)
  clear ha ra
  obtain ⟨bA, bsz, bc, rfl, hb⟩ := h'
  obtain ⟨bn, bl, be⟩ := y
  dsimp only at hb ⊢
  have rb : RD w [.bool bn, .slice bA bsz bc, .int .i64 be] ⟨bn, bl, be⟩ := ⟨bA, bsz, bc, rfl, hb⟩
  have Rb := Lib.hid (fun W hb => lasts_RD w W _ _ rb hb)
  clear hb rb
  have HV : Hid (cz ⟨an, al, ae⟩ ⟨bn, bl, be⟩ = decide (cmpD ⟨an, al, ae⟩ ⟨bn, bl, be⟩ = 0)) := rfl
  have HX := Lib.hid hx
  have HY := Lib.hid hy
  clear hx hy
  have hb0 := bnext (ballo w (.cells #[.bool an, .slice aA asz ac, .int .i64 ae] 25)) (ballo (w.alloc (.cells #[.bool an, .slice aA asz ac, .int .i64 ae] 25)) (.cells #[.bool bn, .slice bA bsz bc, .int .i64 be] 25))
  have ka := (Blk.new w 25 #[.bool an, .slice aA asz ac, .int .i64 ae]).next (ballo (w.alloc (.cells #[.bool an, .slice aA asz ac, .int .i64 ae] 25)) (.cells #[.bool bn, .slice bA bsz bc, .int .i64 be] 25))
  have kb : Blk ((w.alloc (.cells #[.bool an, .slice aA asz ac, .int .i64 ae] 25)).alloc (.cells #[.bool bn, .slice bA bsz bc, .int .i64 be] 25)) (w.heap.size + 1) 25 #[.bool bn, .slice bA bsz bc, .int .i64 be] := Blk.newAt _ _ _ (by simp)
  go_enter Tryz.func186, Tryz.ntmps186
  go_wp2_with fail
  generalize ((w.alloc (.cells #[.bool an, .slice aA asz ac, .int .i64 ae] 25)).alloc (.cells #[.bool bn, .slice bA bsz bc, .int .i64 be] 25)) = W0 at *
  clear ka kb
  refine (cmp_R _ _ _ _ _ (Ra.out _ hb0) (Rb.out _ hb0) HX.out HY.out).mono ?_
  rintro e w1 ⟨rfl, hb1x⟩
  replace hb0 := bnext hb0 hb1x
  clear hb1x
  generalize cmpD ⟨an, al, ae⟩ ⟨bn, bl, be⟩ = r at *
  go_wp2_with fail
  go_ret
  exact ⟨by rw [HV.out]; rfl, hb0⟩

set_option maxHeartbeats 1000000 in
theorem eqNumbers_any (A B : Option Addr) (n c m d : Nat) (l l' : List Dy) (w : World) (h : Sl 3 RD w A n c l) (h' : Sl 3 RD w B m d l') (hx : ∀ d ∈ l, Bd d) (hy : ∀ d ∈ l', Bd d) : Calls Tryz.prog 136 #[.slice A n c, .slice B m d] w (Says (enN l l') w) := by
  have HC := Lib.hid (show Calls _ _ _ _ (Says (enN l l') w) from equalFunc_D cz 186 #[] A B n c m d l l' w h h' (enters Tryz.func186 (by kernel_rfl) rfl) (fun W vs us x y _ hm hm' hr hr' => eqNumbers1_any vs us x y W hr hr' (hx x hm) (hy y hm')))
  clear h h' hx hy
  go_enter Tryz.func136, Tryz.ntmps136
  go_wp2_with fail
  refine HC.out.mono ?_
  rintro e w1 ⟨rfl, hb0⟩
  generalize enN l l' = r at *
  go_wp2_with fail
  go_ret
  exact ⟨rfl, hb0⟩

theorem eqNumbers_M (vs us : List Value) (x y : List Dy) (w : World) (h : RM w vs x) (h' : RM w us y) (hx : ∀ d ∈ x, Bd d) (hy : ∀ d ∈ y, Bd d) : Calls Tryz.prog 136 (#[(vs[0]?).getD undef, (us[0]?).getD undef] ++ #[]) w (Says (enN x y) w) := by
  rw [Array.append_empty]
  obtain ⟨A, n, c, rfl, hs⟩ := h
  obtain ⟨B, m, d, rfl, hs'⟩ := h'
  exact eqNumbers_any A B n c m d x y w hs hs' hx hy
set_option maxHeartbeats 1000000 in
theorem eqRows_any (A B : Option Addr) (n c m d : Nat) (l l' : List (List Dy)) (w : World) (h : Sl 1 RM w A n c l) (h' : Sl 1 RM w B m d l') (hx : ∀ a ∈ l, ∀ d ∈ a, Bd d) (hy : ∀ a ∈ l', ∀ d ∈ a, Bd d) : Calls Tryz.prog 77 #[.slice A n c, .slice B m d] w (Says (enR l l') w) := by
  have HC := Lib.hid (show Calls _ _ _ _ (Says (enR l l') w) from equalFunc_M enN 136 #[] A B n c m d l l' w h h' (enters Tryz.func136 (by kernel_rfl) rfl) (fun W vs us x y _ hm hm' hr hr' => eqNumbers_M vs us x y W hr hr' (hx x hm) (hy y hm')))
  clear h h' hx hy
  go_enter Tryz.func77, Tryz.ntmps77
  go_wp2_with fail
  refine HC.out.mono ?_
  rintro e w1 ⟨rfl, hb0⟩
  generalize enR l l' = r at *
  go_wp2_with fail
  go_ret
  exact ⟨rfl, hb0⟩

set_option maxRecDepth 100000 in
set_option maxHeartbeats 2000000 in
theorem inside_any (vs us : List Value) (x y : Iv) (w : World) (h : RI w vs x) (h' : RI w us y) (hx : BdI x) (hy : BdI y) : Calls Tryz.prog 187 #[.agg vs.toArray, .agg us.toArray] w (Says (ins x y) w) := by
  obtain ⟨xA, xs, xc, xB, xm, xd, rfl, hx1, hx2⟩ := h
  obtain ⟨⟨xln, xll, xle⟩, ⟨xun, xul, xue⟩, xa⟩ := x
  dsimp only at hx1 hx2 ⊢
  have rx : RI w [.bool xln, .slice xA xs xc, .int .i64 xle, .bool xun, .slice xB xm xd, .int .i64 xue, .bool xa] ⟨⟨xln, xll, xle⟩, ⟨xun, xul, xue⟩, xa⟩ := ⟨xA, xs, xc, xB, xm, xd, rfl, hx1, hx2⟩
  have rx1 : RD w [.bool xln, .slice xA xs xc, .int .i64 xle] ⟨xln, xll, xle⟩ := ⟨xA, xs, xc, rfl, hx1⟩
  have rx2 : RD w [.bool xun, .slice xB xm xd, .int .i64 xue] ⟨xun, xul, xue⟩ := ⟨xB, xm, xd, rfl, hx2⟩
  have Rx := Lib.hid (fun W hb => lasts_RI w W _ _ rx hb)
  have Rx1 := Lib.hid (fun W hb => lasts_RD w W _ _ rx1 hb)
  have Rx2 := Lib.hid (fun W hb => lasts_RD w W _ _ rx2 hb)
  clear hx1 hx2 rx rx1 rx2
  obtain ⟨yA, ys, yc, yB, ym, yd, rfl, hy1, hy2⟩ := h'
  obtain ⟨⟨yln, yll, yle⟩, ⟨yun, yul, yue⟩, ya⟩ := y
  dsimp only at hy1 hy2 ⊢
  have ry : RI w [.bool yln, .slice yA ys yc, .int .i64 yle, .bool yun, .slice yB ym yd, .int .i64 yue, .bool ya] ⟨⟨yln, yll, yle⟩, ⟨yun, yul, yue⟩, ya⟩ := ⟨yA, ys, yc, yB, ym, yd, rfl, hy1, hy2⟩
  have ry1 : RD w [.bool yln, .slice yA ys yc, .int .i64 yle] ⟨yln, yll, yle⟩ := ⟨yA, ys, yc, rfl, hy1⟩
  have ry2 : RD w [.bool yun, .slice yB ym yd, .int .i64 yue] ⟨yun, yul, yue⟩ := ⟨yB, ym, yd, rfl, hy2⟩
  have Ry := Lib.hid (fun W hb => lasts_RI w W _ _ ry hb)
  have Ry1 := Lib.hid (fun W hb => lasts_RD w W _ _ ry1 hb)
  have Ry2 := Lib.hid (fun W hb => lasts_RD w W _ _ ry2 hb)
  clear hy1 hy2 ry ry1 ry2
  have HV : Hid (ins ⟨⟨xln, xll, xle⟩, ⟨xun, xul, xue⟩, xa⟩ ⟨⟨yln, yll, yle⟩, ⟨yun, yul, yue⟩, ya⟩ = (ivV ⟨⟨xln, xll, xle⟩, ⟨xun, xul, xue⟩, xa⟩ && ivV ⟨⟨yln, yll, yle⟩, ⟨yun, yul, yue⟩, ya⟩ && (ya || (!xa && decide (cmpD ⟨yln, yll, yle⟩ ⟨xln, xll, xle⟩ ≤ 0) && decide (cmpD ⟨xun, xul, xue⟩ ⟨yun, yul, yue⟩ ≤ 0))))) := rfl
  have HX := Lib.hid hx
  have HY := Lib.hid hy
  clear hx hy
  have hb0 := bnext (ballo w (.cells #[.bool xln, .slice xA xs xc, .int .i64 xle, .bool xun, .slice xB xm xd, .int .i64 xue, .bool xa] 87)) (ballo (w.alloc (.cells #[.bool xln, .slice xA xs xc, .int .i64 xle, .bool xun, .slice xB xm xd, .int .i64 xue, .bool xa] 87)) (.cells #[.bool yln, .slice yA ys yc, .int .i64 yle, .bool yun, .slice yB ym yd, .int .i64 yue, .bool ya] 87))
  have ka := (Blk.new w 87 #[.bool xln, .slice xA xs xc, .int .i64 xle, .bool xun, .slice xB xm xd, .int .i64 xue, .bool xa]).next (ballo (w.alloc (.cells #[.bool xln, .slice xA xs xc, .int .i64 xle, .bool xun, .slice xB xm xd, .int .i64 xue, .bool xa] 87)) (.cells #[.bool yln, .slice yA ys yc, .int .i64 yle, .bool yun, .slice yB ym yd, .int .i64 yue, .bool ya] 87))
  have kb : Blk ((w.alloc (.cells #[.bool xln, .slice xA xs xc, .int .i64 xle, .bool xun, .slice xB xm xd, .int .i64 xue, .bool xa] 87)).alloc (.cells #[.bool yln, .slice yA ys yc, .int .i64 yle, .bool yun, .slice yB ym yd, .int .i64 yue, .bool ya] 87)) (w.heap.size + 1) 87 #[.bool yln, .slice yA ys yc, .int .i64 yle, .bool yun, .slice yB ym yd, .int .i64 yue, .bool ya] := Blk.newAt _ _ _ (by simp)
  go_enter Tryz.func187, Tryz.ntmps187
  go_wp2_with fail
  generalize ((w.alloc (.cells #[.bool xln, .slice xA xs xc, .int .i64 xle, .bool xun, .slice xB xm xd, .int .i64 xue, .bool xa] 87)).alloc (.cells #[.bool yln, .slice yA ys yc, .int .i64 yle, .bool yun, .slice yB ym yd, .int .i64 yue, .bool ya] 87)) = W0 at *
  refine (ivalid_any _ _ _ (Rx.out _ hb0) HX.out).mono ?_
  rintro e w1 ⟨rfl, hb1x⟩
  replace hb0 := bnext hb0 hb1x
  replace ka := ka.next hb1x
  replace kb := kb.next hb1x
  clear hb1x
  cases hv1 : ivV ⟨⟨xln, xll, xle⟩, ⟨xun, xul, xue⟩, xa⟩
  · rw [hv1] at HV
    clear hv1
    go_wp2_with fail
    go_ret
    exact ⟨by rw [HV.out]; rfl, hb0⟩
  rw [hv1] at HV
  clear hv1
  obtain ⟨kaq0, kaq1, kaq2, kaq3, kaq4, kaq5, kaq6⟩ := ka.cells7
  obtain ⟨kbq0, kbq1, kbq2, kbq3, kbq4, kbq5, kbq6⟩ := kb.cells7
  go_wp2_with fail
  refine (ivalid_any _ _ _ (Ry.out _ hb0) HY.out).mono ?_
  rintro e w2 ⟨rfl, hb2x⟩
  clear kaq0 kaq1 kaq2 kaq3 kaq4 kaq5 kaq6 kbq0 kbq1 kbq2 kbq3 kbq4 kbq5 kbq6
  replace hb0 := bnext hb0 hb2x
  replace ka := ka.next hb2x
  replace kb := kb.next hb2x
  clear hb2x
  cases hv1 : ivV ⟨⟨yln, yll, yle⟩, ⟨yun, yul, yue⟩, ya⟩
  · rw [hv1] at HV
    clear hv1
    go_wp2_with fail
    go_ret
    exact ⟨by rw [HV.out]; rfl, hb0⟩
  rw [hv1] at HV
  clear hv1
  cases ya
  · cases xa
    · obtain ⟨kaq0, kaq1, kaq2, kaq3, kaq4, kaq5, kaq6⟩ := ka.cells7
      obtain ⟨kbq0, kbq1, kbq2, kbq3, kbq4, kbq5, kbq6⟩ := kb.cells7
      go_wp2_with fail
      refine (cmp_R _ _ _ _ _ (Ry1.out _ hb0) (Rx1.out _ hb0) HY.out.1 HX.out.1).mono ?_
      rintro e w3 ⟨rfl, hb3x⟩
      clear kaq0 kaq1 kaq2 kaq3 kaq4 kaq5 kaq6 kbq0 kbq1 kbq2 kbq3 kbq4 kbq5 kbq6
      replace hb0 := bnext hb0 hb3x
      replace ka := ka.next hb3x
      replace kb := kb.next hb3x
      clear hb3x
      generalize cmpD ⟨yln, yll, yle⟩ ⟨xln, xll, xle⟩ = r1 at *
      cases hv1 : decide (r1 ≤ 0)
      · rw [hv1] at HV
        go_wp2_with fail
        go_ret
        exact ⟨by rw [HV.out]; rfl, hb0⟩
      rw [hv1] at HV
      obtain ⟨kaq0, kaq1, kaq2, kaq3, kaq4, kaq5, kaq6⟩ := ka.cells7
      obtain ⟨kbq0, kbq1, kbq2, kbq3, kbq4, kbq5, kbq6⟩ := kb.cells7
      go_wp2_with fail
      refine (cmp_R _ _ _ _ _ (Rx2.out _ hb0) (Ry2.out _ hb0) HX.out.2 HY.out.2).mono ?_
      rintro e w4 ⟨rfl, hb4x⟩
      clear kaq0 kaq1 kaq2 kaq3 kaq4 kaq5 kaq6 kbq0 kbq1 kbq2 kbq3 kbq4 kbq5 kbq6
      replace hb0 := bnext hb0 hb4x
      replace ka := ka.next hb4x
      replace kb := kb.next hb4x
      clear hb4x
      generalize cmpD ⟨xun, xul, xue⟩ ⟨yun, yul, yue⟩ = r2 at *
      go_wp2_with fail
      go_ret
      exact ⟨by rw [HV.out]; rfl, hb0⟩
    · obtain ⟨kaq0, kaq1, kaq2, kaq3, kaq4, kaq5, kaq6⟩ := ka.cells7
      obtain ⟨kbq0, kbq1, kbq2, kbq3, kbq4, kbq5, kbq6⟩ := kb.cells7
      go_wp2_with fail
      go_ret
      exact ⟨by rw [HV.out]; rfl, hb0⟩
  · obtain ⟨kaq0, kaq1, kaq2, kaq3, kaq4, kaq5, kaq6⟩ := ka.cells7
    obtain ⟨kbq0, kbq1, kbq2, kbq3, kbq4, kbq5, kbq6⟩ := kb.cells7
    go_wp2_with fail
    go_ret
    exact ⟨by rw [HV.out]; rfl, hb0⟩

set_option maxRecDepth 100000 in
set_option maxHeartbeats 2000000 in
theorem ivEqual_any (vs us : List Value) (x y : Iv) (w : World) (h : RI w vs x) (h' : RI w us y) (hx : BdI x) (hy : BdI y) : Calls Tryz.prog 138 (#[.agg vs.toArray, .agg us.toArray] ++ #[]) w (Says (ivE x y) w) := by
  rw [Array.append_empty]
  obtain ⟨xA, xs, xc, xB, xm, xd, rfl, hx1, hx2⟩ := h
  obtain ⟨⟨xln, xll, xle⟩, ⟨xun, xul, xue⟩, xa⟩ := x
  dsimp only at hx1 hx2 ⊢
  have rx : RI w [.bool xln, .slice xA xs xc, .int .i64 xle, .bool xun, .slice xB xm xd, .int .i64 xue, .bool xa] ⟨⟨xln, xll, xle⟩, ⟨xun, xul, xue⟩, xa⟩ := ⟨xA, xs, xc, xB, xm, xd, rfl, hx1, hx2⟩
  have rx1 : RD w [.bool xln, .slice xA xs xc, .int .i64 xle] ⟨xln, xll, xle⟩ := ⟨xA, xs, xc, rfl, hx1⟩
  have rx2 : RD w [.bool xun, .slice xB xm xd, .int .i64 xue] ⟨xun, xul, xue⟩ := ⟨xB, xm, xd, rfl, hx2⟩
  have Rx := Lib.hid (fun W hb => lasts_RI w W _ _ rx hb)
  have Rx1 := Lib.hid (fun W hb => lasts_RD w W _ _ rx1 hb)
  have Rx2 := Lib.hid (fun W hb => lasts_RD w W _ _ rx2 hb)
  clear hx1 hx2 rx rx1 rx2
  obtain ⟨yA, ys, yc, yB, ym, yd, rfl, hy1, hy2⟩ := h'
  obtain ⟨⟨yln, yll, yle⟩, ⟨yun, yul, yue⟩, ya⟩ := y
  dsimp only at hy1 hy2 ⊢
  have ry : RI w [.bool yln, .slice yA ys yc, .int .i64 yle, .bool yun, .slice yB ym yd, .int .i64 yue, .bool ya] ⟨⟨yln, yll, yle⟩, ⟨yun, yul, yue⟩, ya⟩ := ⟨yA, ys, yc, yB, ym, yd, rfl, hy1, hy2⟩
  have ry1 : RD w [.bool yln, .slice yA ys yc, .int .i64 yle] ⟨yln, yll, yle⟩ := ⟨yA, ys, yc, rfl, hy1⟩
  have ry2 : RD w [.bool yun, .slice yB ym yd, .int .i64 yue] ⟨yun, yul, yue⟩ := ⟨yB, ym, yd, rfl, hy2⟩
  have Ry := Lib.hid (fun W hb => lasts_RI w W _ _ ry hb)
  have Ry1 := Lib.hid (fun W hb => lasts_RD w W _ _ ry1 hb)
  have Ry2 := Lib.hid (fun W hb => lasts_RD w W _ _ ry2 hb)
  clear hy1 hy2 ry ry1 ry2
  have HV : Hid (ivE ⟨⟨xln, xll, xle⟩, ⟨xun, xul, xue⟩, xa⟩ ⟨⟨yln, yll, yle⟩, ⟨yun, yul, yue⟩, ya⟩ = (ins ⟨⟨xln, xll, xle⟩, ⟨xun, xul, xue⟩, xa⟩ ⟨⟨yln, yll, yle⟩, ⟨yun, yul, yue⟩, ya⟩ && ins ⟨⟨yln, yll, yle⟩, ⟨yun, yul, yue⟩, ya⟩ ⟨⟨xln, xll, xle⟩, ⟨xun, xul, xue⟩, xa⟩)) := rfl
  have HX := Lib.hid hx
  have HY := Lib.hid hy
  clear hx hy
  have hb0 := bnext (ballo w (.cells #[.bool xln, .slice xA xs xc, .int .i64 xle, .bool xun, .slice xB xm xd, .int .i64 xue, .bool xa] 87)) (ballo (w.alloc (.cells #[.bool xln, .slice xA xs xc, .int .i64 xle, .bool xun, .slice xB xm xd, .int .i64 xue, .bool xa] 87)) (.cells #[.bool yln, .slice yA ys yc, .int .i64 yle, .bool yun, .slice yB ym yd, .int .i64 yue, .bool ya] 87))
  have ka := (Blk.new w 87 #[.bool xln, .slice xA xs xc, .int .i64 xle, .bool xun, .slice xB xm xd, .int .i64 xue, .bool xa]).next (ballo (w.alloc (.cells #[.bool xln, .slice xA xs xc, .int .i64 xle, .bool xun, .slice xB xm xd, .int .i64 xue, .bool xa] 87)) (.cells #[.bool yln, .slice yA ys yc, .int .i64 yle, .bool yun, .slice yB ym yd, .int .i64 yue, .bool ya] 87))
  have kb : Blk ((w.alloc (.cells #[.bool xln, .slice xA xs xc, .int .i64 xle, .bool xun, .slice xB xm xd, .int .i64 xue, .bool xa] 87)).alloc (.cells #[.bool yln, .slice yA ys yc, .int .i64 yle, .bool yun, .slice yB ym yd, .int .i64 yue, .bool ya] 87)) (w.heap.size + 1) 87 #[.bool yln, .slice yA ys yc, .int .i64 yle, .bool yun, .slice yB ym yd, .int .i64 yue, .bool ya] := Blk.newAt _ _ _ (by simp)
  go_enter Tryz.func138, Tryz.ntmps138
  go_wp2_with fail
  generalize ((w.alloc (.cells #[.bool xln, .slice xA xs xc, .int .i64 xle, .bool xun, .slice xB xm xd, .int .i64 xue, .bool xa] 87)).alloc (.cells #[.bool yln, .slice yA ys yc, .int .i64 yle, .bool yun, .slice yB ym yd, .int .i64 yue, .bool ya] 87)) = W0 at *
  refine (inside_any _ _ _ _ _ (Rx.out _ hb0) (Ry.out _ hb0) HX.out HY.out).mono ?_
  rintro e w1 ⟨rfl, hb1x⟩
  replace hb0 := bnext hb0 hb1x
  replace ka := ka.next hb1x
  replace kb := kb.next hb1x
  clear hb1x
  cases hv1 : ins ⟨⟨xln, xll, xle⟩, ⟨xun, xul, xue⟩, xa⟩ ⟨⟨yln, yll, yle⟩, ⟨yun, yul, yue⟩, ya⟩
  · rw [hv1] at HV
    clear hv1
    go_wp2_with fail
    go_ret
    exact ⟨by rw [HV.out]; rfl, hb0⟩
  rw [hv1] at HV
  clear hv1
  obtain ⟨kaq0, kaq1, kaq2, kaq3, kaq4, kaq5, kaq6⟩ := ka.cells7
  obtain ⟨kbq0, kbq1, kbq2, kbq3, kbq4, kbq5, kbq6⟩ := kb.cells7
  go_wp2_with fail
  refine (inside_any _ _ _ _ _ (Ry.out _ hb0) (Rx.out _ hb0) HY.out HX.out).mono ?_
  rintro e w2 ⟨rfl, hb2x⟩
  clear kaq0 kaq1 kaq2 kaq3 kaq4 kaq5 kaq6 kbq0 kbq1 kbq2 kbq3 kbq4 kbq5 kbq6
  replace hb0 := bnext hb0 hb2x
  replace ka := ka.next hb2x
  replace kb := kb.next hb2x
  clear hb2x
  generalize ins ⟨⟨yln, yll, yle⟩, ⟨yun, yul, yue⟩, ya⟩ ⟨⟨xln, xll, xle⟩, ⟨xun, xul, xue⟩, xa⟩ = r at *
  go_wp2_with fail
  go_ret
  exact ⟨by rw [HV.out]; rfl, hb0⟩

theorem ivsEqual_any (A B : Option Addr) (n c m d : Nat) (l l' : List Iv) (w : World) (h : Sl 7 RI w A n c l) (h' : Sl 7 RI w B m d l') (hx : ∀ x ∈ l, BdI x) (hy : ∀ x ∈ l', BdI x) : Calls Tryz.prog 137 #[.slice A n c, .slice B m d, .func (.func 138) #[] #[]] w (Says (eqF ivE l l') w) :=
  equalFunc_I ivE 138 #[] A B n c m d l l' w h h' (enters Tryz.func138 (by kernel_rfl) rfl) (fun W vs us x y _ hm hm' hr hr' => ivEqual_any vs us x y W hr hr' (hx x hm) (hy y hm'))

set_option maxRecDepth 100000 in
set_option maxHeartbeats 2000000 in
theorem eqFrames_any (vs us : List Value) (x y : Fr) (w : World) (h : RF w vs x) (h' : RF w us y) (hx : BdF x) (hy : BdF y) : Calls Tryz.prog 72 #[.agg vs.toArray, .agg us.toArray] w (Says (enF x y) w) := by
  obtain ⟨xA, xn, xc, xB, xm, xd, xC, xp, xq, rfl, hx1, hx2, hx3⟩ := h
  obtain ⟨yA, yn, yc, yB, ym, yd, yC, yp, yq, rfl, hy1, hy2, hy3⟩ := h'
  have HV : Hid (enF x y = (enN x.c y.c && enR x.a y.a && eqF ivE x.r y.r)) := rfl
  have H1 := Lib.hid (fun W hb => eqNumbers_any xA yA xn xc yn yc x.c y.c W (hx1.next lasts_RD hb) (hy1.next lasts_RD hb) hx.c hy.c)
  have H2 := Lib.hid (fun W hb => eqRows_any xB yB xm xd ym yd x.a y.a W (hx2.next lasts_RM hb) (hy2.next lasts_RM hb) hx.a hy.a)
  have H3 := Lib.hid (fun W hb => ivsEqual_any xC yC xp xq yp yq x.r y.r W (hx3.next lasts_RI hb) (hy3.next lasts_RI hb) hx.r hy.r)
  clear hx1 hx2 hx3 hy1 hy2 hy3 hx hy
  generalize enN x.c y.c = b1 at *
  generalize enR x.a y.a = b2 at *
  generalize eqF ivE x.r y.r = b3 at *
  have hb0 := bnext (ballo w (.cells #[.slice xA xn xc, .slice xB xm xd, .slice xC xp xq] 39)) (ballo (w.alloc (.cells #[.slice xA xn xc, .slice xB xm xd, .slice xC xp xq] 39)) (.cells #[.slice yA yn yc, .slice yB ym yd, .slice yC yp yq] 39))
  have ka := (Blk.new w 39 #[.slice xA xn xc, .slice xB xm xd, .slice xC xp xq]).next (ballo (w.alloc (.cells #[.slice xA xn xc, .slice xB xm xd, .slice xC xp xq] 39)) (.cells #[.slice yA yn yc, .slice yB ym yd, .slice yC yp yq] 39))
  have kb : Blk ((w.alloc (.cells #[.slice xA xn xc, .slice xB xm xd, .slice xC xp xq] 39)).alloc (.cells #[.slice yA yn yc, .slice yB ym yd, .slice yC yp yq] 39)) (w.heap.size + 1) 39 #[.slice yA yn yc, .slice yB ym yd, .slice yC yp yq] := Blk.newAt _ _ _ (by simp)
  go_enter Tryz.func72, Tryz.ntmps72
  go_wp2_with fail
  generalize ((w.alloc (.cells #[.slice xA xn xc, .slice xB xm xd, .slice xC xp xq] 39)).alloc (.cells #[.slice yA yn yc, .slice yB ym yd, .slice yC yp yq] 39)) = W0 at *
  refine (H1.out _ hb0).mono ?_
  rintro e w1 ⟨rfl, hb1x⟩
  replace hb0 := bnext hb0 hb1x
  replace ka := ka.next hb1x
  replace kb := kb.next hb1x
  clear hb1x
  cases hv1 : b1
  · rw [hv1] at HV
    clear hv1
    go_wp2_with fail
    go_ret
    exact ⟨by rw [HV.out]; rfl, hb0⟩
  rw [hv1] at HV
  clear hv1
  obtain ⟨kaq0, kaq1, kaq2⟩ := ka.cells3
  obtain ⟨kbq0, kbq1, kbq2⟩ := kb.cells3
  go_wp2_with fail
  refine (H2.out _ hb0).mono ?_
  rintro e w2 ⟨rfl, hb2x⟩
  clear kaq0 kaq1 kaq2 kbq0 kbq1 kbq2
  replace hb0 := bnext hb0 hb2x
  replace ka := ka.next hb2x
  replace kb := kb.next hb2x
  clear hb2x
  cases hv1 : b2
  · rw [hv1] at HV
    clear hv1
    go_wp2_with fail
    go_ret
    exact ⟨by rw [HV.out]; rfl, hb0⟩
  rw [hv1] at HV
  clear hv1
  obtain ⟨kaq0, kaq1, kaq2⟩ := ka.cells3
  obtain ⟨kbq0, kbq1, kbq2⟩ := kb.cells3
  go_wp2_with fail
  refine (H3.out _ hb0).mono ?_
  rintro e w3 ⟨rfl, hb3x⟩
  clear kaq0 kaq1 kaq2 kbq0 kbq1 kbq2
  replace hb0 := bnext hb0 hb3x
  replace ka := ka.next hb3x
  replace kb := kb.next hb3x
  clear hb3x
  go_wp2_with fail
  go_ret
  exact ⟨by rw [HV.out]; rfl, hb0⟩

set_option maxHeartbeats 1000000 in
theorem boxTwo_any (A B : Option Addr) (n c m d : Nat) (l l' : List Iv) (w : World) (h : Sl 7 RI w A n c l) (h' : Sl 7 RI w B m d l') (hx : ∀ x ∈ l, BdI x) (hy : ∀ x ∈ l', BdI x) : Calls Tryz.prog 140 #[.slice A n c, .slice B m d] w (Says (boxV l && boxV l' && decide (l.length = l'.length)) w) := by
  have HV : Hid ((boxV l && boxV l' && decide (l.length = l'.length)) = (boxV l && boxV l' && decide (n = m))) := by unfold Hid; rw [h.len, h'.len]
  have H1 := Lib.hid (fun W hb => boxValid_any A n c l W (h.next lasts_RI hb) hx)
  have H2 := Lib.hid (fun W hb => boxValid_any B m d l' W (h'.next lasts_RI hb) hy)
  have m1 := h.cap
  have m2 := h.max
  have m3 := h'.cap
  have m4 := h'.max
  clear h h' hx hy
  have hb0 := Below.refl w.heap.size w
  obtain ⟨b1, h1⟩ : ∃ b1, boxV l = b1 := ⟨_, rfl⟩
  obtain ⟨b2, h2⟩ : ∃ b2, boxV l' = b2 := ⟨_, rfl⟩
  have HV2 : Hid ((boxV l && boxV l' && decide (l.length = l'.length)) = (b1 && b2 && decide (n = m))) := by unfold Hid; rw [HV.out, h1, h2]
  rw [h1] at H1
  rw [h2] at H2
  clear HV h1 h2
  go_enter Tryz.func140, Tryz.ntmps140
  go_wp2_with fail
  refine (H1.out _ hb0).mono ?_
  rintro e w1 ⟨rfl, hb1x⟩
  replace hb0 := bnext hb0 hb1x
  clear hb1x
  cases hv1 : b1
  · rw [hv1] at HV2
    clear hv1
    go_wp2_with fail
    go_ret
    exact ⟨by rw [HV2.out]; rfl, hb0⟩
  rw [hv1] at HV2
  clear hv1
  go_wp2_with fail
  refine (H2.out _ hb0).mono ?_
  rintro e w2 ⟨rfl, hb2x⟩
  replace hb0 := bnext hb0 hb2x
  clear hb2x
  cases hv1 : b2
  · rw [hv1] at HV2
    clear hv1
    go_wp2_with fail
    go_ret
    exact ⟨by rw [HV2.out]; rfl, hb0⟩
  rw [hv1] at HV2
  clear hv1
  by_cases hn : n = m
  · have hn2 : ((n : Int) == (m : Int)) = true := by rw [hn]; simp
    rw [decide_eq_true hn] at HV2
    clear hn
    go_wp2_with fail
    go_ret
    exact ⟨by rw [HV2.out]; rfl, hb0⟩
  · have hn2 : ((n : Int) == (m : Int)) = false := by rw [beq_eq_false_iff_ne]; omega
    rw [decide_eq_false hn] at HV2
    clear hn
    go_wp2_with fail
    go_ret
    exact ⟨by rw [HV2.out]; rfl, hb0⟩

set_option maxHeartbeats 1000000 in
theorem boxEqual_any (A B : Option Addr) (n c m d : Nat) (l l' : List Iv) (w : World) (h : Sl 7 RI w A n c l) (h' : Sl 7 RI w B m d l') (hx : ∀ x ∈ l, BdI x) (hy : ∀ x ∈ l', BdI x) : Calls Tryz.prog 76 #[.slice A n c, .slice B m d] w (Says (bxE l l') w) := by
  have HV : Hid (bxE l l' = ((boxV l && boxV l' && decide (l.length = l'.length)) && eqF ivE l l')) := rfl
  have H1 := Lib.hid (fun W hb => boxTwo_any A B n c m d l l' W (h.next lasts_RI hb) (h'.next lasts_RI hb) hx hy)
  have H2 := Lib.hid (fun W hb => ivsEqual_any A B n c m d l l' W (h.next lasts_RI hb) (h'.next lasts_RI hb) hx hy)
  clear h h' hx hy
  have hb0 := Below.refl w.heap.size w
  generalize (boxV l && boxV l' && decide (l.length = l'.length)) = b1 at *
  generalize eqF ivE l l' = b2 at *
  go_enter Tryz.func76, Tryz.ntmps76
  go_wp2_with fail
  refine (H1.out _ hb0).mono ?_
  rintro e w1 ⟨rfl, hb1x⟩
  replace hb0 := bnext hb0 hb1x
  clear hb1x
  cases hv1 : b1
  · rw [hv1] at HV
    clear hv1
    go_wp2_with fail
    go_ret
    exact ⟨by rw [HV.out]; rfl, hb0⟩
  rw [hv1] at HV
  clear hv1
  go_wp2_with fail
  refine (H2.out _ hb0).mono ?_
  rintro e w2 ⟨rfl, hb2x⟩
  replace hb0 := bnext hb0 hb2x
  clear hb2x
  go_wp2_with fail
  go_ret
  exact ⟨by rw [HV.out]; rfl, hb0⟩

set_option maxRecDepth 100000 in
set_option maxHeartbeats 4000000 in
theorem certEqual1_any (vs us : List Value) (x y : Lk) (w : World) (h : RL w vs x) (h' : RL w us y) (hx : BdL x) (hy : BdL y) : Calls Tryz.prog 74 (#[.agg vs.toArray, .agg us.toArray] ++ #[]) w (Says (lkE x y) w) := by
  rw [Array.append_empty]
  obtain ⟨xH, xhs, xhc, xT, xtn, xtc, xA, xn, xc, xB, xm, xd, xC, xp, xq, xV, xvn, xvc, rfl, hx1, hx2, hx3, hx4, hx5, hx6⟩ := h
  obtain ⟨⟨xhn, xhl, xhe⟩, xtu, xfe, xv⟩ := x
  dsimp only at hx1 hx2 hx3 hx4 hx5 hx6 ⊢
  obtain ⟨yH, yhs, yhc, yT, ytn, ytc, yA, yn, yc, yB, ym, yd, yC, yp, yq, yV, yvn, yvc, rfl, hy1, hy2, hy3, hy4, hy5, hy6⟩ := h'
  obtain ⟨⟨yhn, yhl, yhe⟩, ytu, yfe, yv⟩ := y
  dsimp only at hy1 hy2 hy3 hy4 hy5 hy6 ⊢
  have HV : Hid (lkE ⟨⟨xhn, xhl, xhe⟩, xtu, xfe, xv⟩ ⟨⟨yhn, yhl, yhe⟩, ytu, yfe, yv⟩ = (decide (cmpD ⟨xhn, xhl, xhe⟩ ⟨yhn, yhl, yhe⟩ = 0) && bxE xtu ytu && enF xfe yfe && enR xv yv)) := rfl
  have rx1 : RD w [.bool xhn, .slice xH xhs xhc, .int .i64 xhe] ⟨xhn, xhl, xhe⟩ := ⟨xH, xhs, xhc, rfl, hx1⟩
  have rx2 : RF w [.slice xA xn xc, .slice xB xm xd, .slice xC xp xq] xfe := ⟨xA, xn, xc, xB, xm, xd, xC, xp, xq, rfl, hx3, hx4, hx5⟩
  have ry1 : RD w [.bool yhn, .slice yH yhs yhc, .int .i64 yhe] ⟨yhn, yhl, yhe⟩ := ⟨yH, yhs, yhc, rfl, hy1⟩
  have ry2 : RF w [.slice yA yn yc, .slice yB ym yd, .slice yC yp yq] yfe := ⟨yA, yn, yc, yB, ym, yd, yC, yp, yq, rfl, hy3, hy4, hy5⟩
  have H1 := Lib.hid (fun W (hb : Below w.heap.size w W) => cmp_R _ _ _ _ W (lasts_RD w W _ _ rx1 hb) (lasts_RD w W _ _ ry1 hb) hx.h hy.h)
  have H2 := Lib.hid (fun W (hb : Below w.heap.size w W) => boxEqual_any xT yT xtn xtc ytn ytc xtu ytu W (hx2.next lasts_RI hb) (hy2.next lasts_RI hb) hx.t hy.t)
  have H3 := Lib.hid (fun W (hb : Below w.heap.size w W) => eqFrames_any _ _ xfe yfe W (lasts_RF w W _ _ rx2 hb) (lasts_RF w W _ _ ry2 hb) hx.e hy.e)
  have H4 := Lib.hid (fun W (hb : Below w.heap.size w W) => eqRows_any xV yV xvn xvc yvn yvc xv yv W (hx6.next lasts_RM hb) (hy6.next lasts_RM hb) hx.v hy.v)
  clear hx1 hx2 hx3 hx4 hx5 hx6 hy1 hy2 hy3 hy4 hy5 hy6 rx1 rx2 ry1 ry2 hx hy
  generalize cmpD ⟨xhn, xhl, xhe⟩ ⟨yhn, yhl, yhe⟩ = r at *
  generalize bxE xtu ytu = b2 at *
  generalize enF xfe yfe = b3 at *
  generalize enR xv yv = b4 at *
  have hb0 := bnext (ballo w (.cells #[.bool xhn, .slice xH xhs xhc, .int .i64 xhe, .slice xT xtn xtc, .slice xA xn xc, .slice xB xm xd, .slice xC xp xq, .slice xV xvn xvc] 98)) (ballo (w.alloc (.cells #[.bool xhn, .slice xH xhs xhc, .int .i64 xhe, .slice xT xtn xtc, .slice xA xn xc, .slice xB xm xd, .slice xC xp xq, .slice xV xvn xvc] 98)) (.cells #[.bool yhn, .slice yH yhs yhc, .int .i64 yhe, .slice yT ytn ytc, .slice yA yn yc, .slice yB ym yd, .slice yC yp yq, .slice yV yvn yvc] 98))
  have ka := (Blk.new w 98 #[.bool xhn, .slice xH xhs xhc, .int .i64 xhe, .slice xT xtn xtc, .slice xA xn xc, .slice xB xm xd, .slice xC xp xq, .slice xV xvn xvc]).next (ballo (w.alloc (.cells #[.bool xhn, .slice xH xhs xhc, .int .i64 xhe, .slice xT xtn xtc, .slice xA xn xc, .slice xB xm xd, .slice xC xp xq, .slice xV xvn xvc] 98)) (.cells #[.bool yhn, .slice yH yhs yhc, .int .i64 yhe, .slice yT ytn ytc, .slice yA yn yc, .slice yB ym yd, .slice yC yp yq, .slice yV yvn yvc] 98))
  have kb : Blk ((w.alloc (.cells #[.bool xhn, .slice xH xhs xhc, .int .i64 xhe, .slice xT xtn xtc, .slice xA xn xc, .slice xB xm xd, .slice xC xp xq, .slice xV xvn xvc] 98)).alloc (.cells #[.bool yhn, .slice yH yhs yhc, .int .i64 yhe, .slice yT ytn ytc, .slice yA yn yc, .slice yB ym yd, .slice yC yp yq, .slice yV yvn yvc] 98)) (w.heap.size + 1) 98 #[.bool yhn, .slice yH yhs yhc, .int .i64 yhe, .slice yT ytn ytc, .slice yA yn yc, .slice yB ym yd, .slice yC yp yq, .slice yV yvn yvc] := Blk.newAt _ _ _ (by simp)
  go_enter Tryz.func74, Tryz.ntmps74
  go_wp2_with fail
  generalize ((w.alloc (.cells #[.bool xhn, .slice xH xhs xhc, .int .i64 xhe, .slice xT xtn xtc, .slice xA xn xc, .slice xB xm xd, .slice xC xp xq, .slice xV xvn xvc] 98)).alloc (.cells #[.bool yhn, .slice yH yhs yhc, .int .i64 yhe, .slice yT ytn ytc, .slice yA yn yc, .slice yB ym yd, .slice yC yp yq, .slice yV yvn yvc] 98)) = W0 at *
  refine (H1.out _ hb0).mono ?_
  rintro e w1 ⟨rfl, hb1x⟩
  replace hb0 := bnext hb0 hb1x
  replace ka := ka.next hb1x
  replace kb := kb.next hb1x
  clear hb1x
  by_cases hr : r = 0
  rotate_left
  · have hr2 : (r == 0) = false := by rw [beq_eq_false_iff_ne]; exact hr
    rw [decide_eq_false hr] at HV
    go_wp2_with fail
    go_ret
    exact ⟨by rw [HV.out]; rfl, hb0⟩
  rw [decide_eq_true hr] at HV
  have hr2 : (r == 0) = true := by rw [hr]; rfl
  clear hr
  obtain ⟨kaq0, kaq1, kaq2, kaq3, kaq4, kaq5, kaq6, kaq7⟩ := ka.cells8
  obtain ⟨kbq0, kbq1, kbq2, kbq3, kbq4, kbq5, kbq6, kbq7⟩ := kb.cells8
  go_wp2_with fail
  refine (H2.out _ hb0).mono ?_
  rintro e w2 ⟨rfl, hb2x⟩
  clear kaq0 kaq1 kaq2 kaq3 kaq4 kaq5 kaq6 kaq7 kbq0 kbq1 kbq2 kbq3 kbq4 kbq5 kbq6 kbq7
  replace hb0 := bnext hb0 hb2x
  replace ka := ka.next hb2x
  replace kb := kb.next hb2x
  clear hb2x
  cases hv1 : b2
  · rw [hv1] at HV
    clear hv1
    go_wp2_with fail
    go_ret
    exact ⟨by rw [HV.out]; rfl, hb0⟩
  rw [hv1] at HV
  clear hv1
  obtain ⟨kaq0, kaq1, kaq2, kaq3, kaq4, kaq5, kaq6, kaq7⟩ := ka.cells8
  obtain ⟨kbq0, kbq1, kbq2, kbq3, kbq4, kbq5, kbq6, kbq7⟩ := kb.cells8
  go_wp2_with fail
  refine (H3.out _ hb0).mono ?_
  rintro e w3 ⟨rfl, hb3x⟩
  clear kaq0 kaq1 kaq2 kaq3 kaq4 kaq5 kaq6 kaq7 kbq0 kbq1 kbq2 kbq3 kbq4 kbq5 kbq6 kbq7
  replace hb0 := bnext hb0 hb3x
  replace ka := ka.next hb3x
  replace kb := kb.next hb3x
  clear hb3x
  cases hv1 : b3
  · rw [hv1] at HV
    clear hv1
    go_wp2_with fail
    go_ret
    exact ⟨by rw [HV.out]; rfl, hb0⟩
  rw [hv1] at HV
  clear hv1
  obtain ⟨kaq0, kaq1, kaq2, kaq3, kaq4, kaq5, kaq6, kaq7⟩ := ka.cells8
  obtain ⟨kbq0, kbq1, kbq2, kbq3, kbq4, kbq5, kbq6, kbq7⟩ := kb.cells8
  go_wp2_with fail
  refine (H4.out _ hb0).mono ?_
  rintro e w4 ⟨rfl, hb4x⟩
  clear kaq0 kaq1 kaq2 kaq3 kaq4 kaq5 kaq6 kaq7 kbq0 kbq1 kbq2 kbq3 kbq4 kbq5 kbq6 kbq7
  replace hb0 := bnext hb0 hb4x
  replace ka := ka.next hb4x
  replace kb := kb.next hb4x
  clear hb4x
  go_wp2_with fail
  go_ret
  exact ⟨by rw [HV.out]; rfl, hb0⟩

set_option maxRecDepth 100000 in
set_option maxHeartbeats 4000000 in
theorem certEqual_any (vs us : List Value) (x y : Ct) (w : World) (h : RC w vs x) (h' : RC w us y) (hx : BdC x) (hy : BdC y) (ht : Tabs w) : Calls Tryz.prog 18 #[.agg vs.toArray, .agg us.toArray] w (Says (ctE x y) w) := by
  obtain ⟨xA, xn, xc, xB, xm, xd, xC, xp, xq, xL, xln, xlc, rfl, hx1, hx2, hx3, hx4⟩ := h
  obtain ⟨xpr, xod, xst, xls⟩ := x
  dsimp only at hx1 hx2 hx3 hx4 ⊢
  obtain ⟨yA, yn, yc, yB, ym, yd, yC, yp, yq, yL, yln, ylc, rfl, hy1, hy2, hy3, hy4⟩ := h'
  obtain ⟨ypr, yod, yst, yls⟩ := y
  dsimp only at hy1 hy2 hy3 hy4 ⊢
  have HV : Hid (ctE ⟨xpr, xod, xst, xls⟩ ⟨ypr, yod, yst, yls⟩ = (ctV ⟨xpr, xod, xst, xls⟩ && ctV ⟨ypr, yod, yst, yls⟩ && decide (xpr = ypr) && decide (xod = yod) && enF xst yst && eqF lkE xls yls)) := rfl
  have rx1 : RC w [.int .i64 xpr, .int .i64 xod, .slice xA xn xc, .slice xB xm xd, .slice xC xp xq, .slice xL xln xlc] ⟨xpr, xod, xst, xls⟩ := ⟨xA, xn, xc, xB, xm, xd, xC, xp, xq, xL, xln, xlc, rfl, hx1, hx2, hx3, hx4⟩
  have rx2 : RF w [.slice xA xn xc, .slice xB xm xd, .slice xC xp xq] xst := ⟨xA, xn, xc, xB, xm, xd, xC, xp, xq, rfl, hx1, hx2, hx3⟩
  have Hx := Lib.hid (fun W (hb : Below w.heap.size w W) => certValid_any _ ⟨xpr, xod, xst, xls⟩ W (lasts_RC w W _ _ rx1 hb) hx (ht.next hb))
  have ry1 : RC w [.int .i64 ypr, .int .i64 yod, .slice yA yn yc, .slice yB ym yd, .slice yC yp yq, .slice yL yln ylc] ⟨ypr, yod, yst, yls⟩ := ⟨yA, yn, yc, yB, ym, yd, yC, yp, yq, yL, yln, ylc, rfl, hy1, hy2, hy3, hy4⟩
  have ry2 : RF w [.slice yA yn yc, .slice yB ym yd, .slice yC yp yq] yst := ⟨yA, yn, yc, yB, ym, yd, yC, yp, yq, rfl, hy1, hy2, hy3⟩
  have Hy := Lib.hid (fun W (hb : Below w.heap.size w W) => certValid_any _ ⟨ypr, yod, yst, yls⟩ W (lasts_RC w W _ _ ry1 hb) hy (ht.next hb))
  have H3 := Lib.hid (fun W (hb : Below w.heap.size w W) => eqFrames_any _ _ xst yst W (lasts_RF w W _ _ rx2 hb) (lasts_RF w W _ _ ry2 hb) hx.s hy.s)
  have H4 := Lib.hid (fun W (hb : Below w.heap.size w W) => equalFunc_L lkE 74 #[] xL yL xln xlc yln ylc xls yls W (hx4.next lasts_RL hb) (hy4.next lasts_RL hb) (enters Tryz.func74 (by kernel_rfl) rfl) (fun V vs us x y _ hm hm' hr hr' => certEqual1_any vs us x y V hr hr' (hx.l x hm) (hy.l y hm')))
  clear hx1 hx2 hx3 hx4 hy1 hy2 hy3 hy4 rx1 rx2 ry1 ry2 hx hy ht
  generalize ctV ⟨xpr, xod, xst, xls⟩ = b1 at *
  generalize ctV ⟨ypr, yod, yst, yls⟩ = b2 at *
  generalize enF xst yst = b3 at *
  generalize eqF lkE xls yls = b4 at *
  have hb0 := bnext (ballo w (.cells #[.int .i64 xpr, .int .i64 xod, .slice xA xn xc, .slice xB xm xd, .slice xC xp xq, .slice xL xln xlc] 42)) (ballo (w.alloc (.cells #[.int .i64 xpr, .int .i64 xod, .slice xA xn xc, .slice xB xm xd, .slice xC xp xq, .slice xL xln xlc] 42)) (.cells #[.int .i64 ypr, .int .i64 yod, .slice yA yn yc, .slice yB ym yd, .slice yC yp yq, .slice yL yln ylc] 42))
  have ka := (Blk.new w 42 #[.int .i64 xpr, .int .i64 xod, .slice xA xn xc, .slice xB xm xd, .slice xC xp xq, .slice xL xln xlc]).next (ballo (w.alloc (.cells #[.int .i64 xpr, .int .i64 xod, .slice xA xn xc, .slice xB xm xd, .slice xC xp xq, .slice xL xln xlc] 42)) (.cells #[.int .i64 ypr, .int .i64 yod, .slice yA yn yc, .slice yB ym yd, .slice yC yp yq, .slice yL yln ylc] 42))
  have kb : Blk ((w.alloc (.cells #[.int .i64 xpr, .int .i64 xod, .slice xA xn xc, .slice xB xm xd, .slice xC xp xq, .slice xL xln xlc] 42)).alloc (.cells #[.int .i64 ypr, .int .i64 yod, .slice yA yn yc, .slice yB ym yd, .slice yC yp yq, .slice yL yln ylc] 42)) (w.heap.size + 1) 42 #[.int .i64 ypr, .int .i64 yod, .slice yA yn yc, .slice yB ym yd, .slice yC yp yq, .slice yL yln ylc] := Blk.newAt _ _ _ (by simp)
  go_enter Tryz.func18, Tryz.ntmps18
  go_wp2_with fail
  generalize ((w.alloc (.cells #[.int .i64 xpr, .int .i64 xod, .slice xA xn xc, .slice xB xm xd, .slice xC xp xq, .slice xL xln xlc] 42)).alloc (.cells #[.int .i64 ypr, .int .i64 yod, .slice yA yn yc, .slice yB ym yd, .slice yC yp yq, .slice yL yln ylc] 42)) = W0 at *
  refine (Hx.out _ hb0).mono ?_
  rintro e w1 ⟨rfl, hb1x⟩
  replace hb0 := bnext hb0 hb1x
  replace ka := ka.next hb1x
  replace kb := kb.next hb1x
  clear hb1x
  cases hv1 : b1
  · rw [hv1] at HV
    clear hv1
    go_wp2_with fail
    go_ret
    exact ⟨by rw [HV.out]; rfl, hb0⟩
  rw [hv1] at HV
  clear hv1
  obtain ⟨kaq0, kaq1, kaq2, kaq3, kaq4, kaq5⟩ := ka.cells6
  obtain ⟨kbq0, kbq1, kbq2, kbq3, kbq4, kbq5⟩ := kb.cells6
  go_wp2_with fail
  refine (Hy.out _ hb0).mono ?_
  rintro e w2 ⟨rfl, hb2x⟩
  clear kaq0 kaq1 kaq2 kaq3 kaq4 kaq5 kbq0 kbq1 kbq2 kbq3 kbq4 kbq5
  replace hb0 := bnext hb0 hb2x
  replace ka := ka.next hb2x
  replace kb := kb.next hb2x
  clear hb2x
  cases hv1 : b2
  · rw [hv1] at HV
    clear hv1
    go_wp2_with fail
    go_ret
    exact ⟨by rw [HV.out]; rfl, hb0⟩
  rw [hv1] at HV
  clear hv1
  by_cases hp : xpr = ypr
  rotate_left
  · have hp2 : (xpr == ypr) = false := by rw [beq_eq_false_iff_ne]; exact hp
    rw [decide_eq_false hp] at HV
    obtain ⟨kaq0, kaq1, kaq2, kaq3, kaq4, kaq5⟩ := ka.cells6
    obtain ⟨kbq0, kbq1, kbq2, kbq3, kbq4, kbq5⟩ := kb.cells6
    go_wp2_with fail
    go_ret
    exact ⟨by rw [HV.out]; rfl, hb0⟩
  rw [decide_eq_true hp] at HV
  have hp2 : (xpr == ypr) = true := by rw [hp]; simp
  clear hp
  by_cases ho : xod = yod
  rotate_left
  · have ho2 : (xod == yod) = false := by rw [beq_eq_false_iff_ne]; exact ho
    rw [decide_eq_false ho] at HV
    obtain ⟨kaq0, kaq1, kaq2, kaq3, kaq4, kaq5⟩ := ka.cells6
    obtain ⟨kbq0, kbq1, kbq2, kbq3, kbq4, kbq5⟩ := kb.cells6
    go_wp2_with fail
    go_ret
    exact ⟨by rw [HV.out]; rfl, hb0⟩
  rw [decide_eq_true ho] at HV
  have ho2 : (xod == yod) = true := by rw [ho]; simp
  clear ho
  obtain ⟨kaq0, kaq1, kaq2, kaq3, kaq4, kaq5⟩ := ka.cells6
  obtain ⟨kbq0, kbq1, kbq2, kbq3, kbq4, kbq5⟩ := kb.cells6
  go_wp2_with fail
  refine (H3.out _ hb0).mono ?_
  rintro e w3 ⟨rfl, hb3x⟩
  clear kaq0 kaq1 kaq2 kaq3 kaq4 kaq5 kbq0 kbq1 kbq2 kbq3 kbq4 kbq5
  replace hb0 := bnext hb0 hb3x
  replace ka := ka.next hb3x
  replace kb := kb.next hb3x
  clear hb3x
  cases hv1 : b3
  · rw [hv1] at HV
    clear hv1
    go_wp2_with fail
    go_ret
    exact ⟨by rw [HV.out]; rfl, hb0⟩
  rw [hv1] at HV
  clear hv1
  obtain ⟨kaq0, kaq1, kaq2, kaq3, kaq4, kaq5⟩ := ka.cells6
  obtain ⟨kbq0, kbq1, kbq2, kbq3, kbq4, kbq5⟩ := kb.cells6
  go_wp2_with fail
  refine (H4.out _ hb0).mono ?_
  rintro e w4 ⟨rfl, hb4x⟩
  clear kaq0 kaq1 kaq2 kaq3 kaq4 kaq5 kbq0 kbq1 kbq2 kbq3 kbq4 kbq5
  replace hb0 := bnext hb0 hb4x
  replace ka := ka.next hb4x
  replace kb := kb.next hb4x
  clear hb4x
  go_wp2_with fail
  go_ret
  exact ⟨by rw [HV.out]; rfl, hb0⟩

end Go.Proofs.YtekajoifgdpmlaaGreatDoor

/-! C14 -/
namespace Go.Proofs.YtekajoifgdpmlaaGreatDoor
open Go.RowKit Pl Go.Shelf

def sN (l l' : List Dy) : Bool := eqF eqD l l'
def sI (x y : Iv) : Bool := (x.all == y.all) && eqD x.lo y.lo && eqD x.hi y.hi
def sB (l l' : List Iv) : Bool := eqF sI l l'
def sM (m m' : List (List Dy)) : Bool := eqF sN m m'
def sF (f g : Fr) : Bool := sN f.c g.c && sM f.a g.a && sB f.r g.r
def sL (x y : Lk) : Bool := eqD x.h y.h && sB x.tube y.tube && sF x.e y.e && sM x.v y.v
def sC (x y : Ct) : Bool := decide (x.prec = y.prec) && decide (x.order = y.order) && sF x.start y.start && eqF sL x.links y.links

theorem requal_E (vs us : List Value) (x y : Dy) (w : World) (h : RD w vs x) (h' : RD w us y) : Calls Tryz.prog 29 (#[.agg vs.toArray, .agg us.toArray] ++ #[]) w (Says (eqD x y) w) := by
  rw [Array.append_empty]
  exact requal_R vs us x y w h h'
set_option maxHeartbeats 1000000 in
theorem lnumbers_any (A B : Option Addr) (n c m d : Nat) (l l' : List Dy) (w : World) (h : Sl 3 RD w A n c l) (h' : Sl 3 RD w B m d l') : Calls Tryz.prog 150 #[.slice A n c, .slice B m d] w (Says (sN l l') w) := by
  have HC := Lib.hid (show Calls _ _ _ _ (Says (sN l l') w) from equalFunc_D eqD 29 #[] A B n c m d l l' w h h' (enters Tryz.func29 (by kernel_rfl) rfl) (fun W vs us x y _ _ _ hr hr' => requal_E vs us x y W hr hr'))
  clear h h'
  go_enter Tryz.func150, Tryz.ntmps150
  go_wp2_with fail
  refine HC.out.mono ?_
  rintro e w1 ⟨rfl, hb0⟩
  generalize sN l l' = r at *
  go_wp2_with fail
  go_ret
  exact ⟨rfl, hb0⟩

theorem lnumbers_M (vs us : List Value) (x y : List Dy) (w : World) (h : RM w vs x) (h' : RM w us y) : Calls Tryz.prog 150 (#[(vs[0]?).getD undef, (us[0]?).getD undef] ++ #[]) w (Says (sN x y) w) := by
  rw [Array.append_empty]
  obtain ⟨A, n, c, rfl, hs⟩ := h
  obtain ⟨B, m, d, rfl, hs'⟩ := h'
  exact lnumbers_any A B n c m d x y w hs hs'
set_option maxHeartbeats 1000000 in
theorem lmatrices_any (A B : Option Addr) (n c m d : Nat) (l l' : List (List Dy)) (w : World) (h : Sl 1 RM w A n c l) (h' : Sl 1 RM w B m d l') : Calls Tryz.prog 93 #[.slice A n c, .slice B m d] w (Says (sM l l') w) := by
  have HC := Lib.hid (show Calls _ _ _ _ (Says (sM l l') w) from equalFunc_M sN 150 #[] A B n c m d l l' w h h' (enters Tryz.func150 (by kernel_rfl) rfl) (fun W vs us x y _ _ _ hr hr' => lnumbers_M vs us x y W hr hr'))
  clear h h'
  go_enter Tryz.func93, Tryz.ntmps93
  go_wp2_with fail
  refine HC.out.mono ?_
  rintro e w1 ⟨rfl, hb0⟩
  generalize sM l l' = r at *
  go_wp2_with fail
  go_ret
  exact ⟨rfl, hb0⟩

set_option maxRecDepth 100000 in
set_option maxHeartbeats 2000000 in
theorem lboxes1_any (vs us : List Value) (x y : Iv) (w : World) (h : RI w vs x) (h' : RI w us y) : Calls Tryz.prog 151 (#[.agg vs.toArray, .agg us.toArray] ++ #[]) w (Says (sI x y) w) := by
  rw [Array.append_empty]
  obtain ⟨xA, xs, xc, xB, xm, xd, rfl, hx1, hx2⟩ := h
  obtain ⟨⟨xln, xll, xle⟩, ⟨xun, xul, xue⟩, xa⟩ := x
  dsimp only at hx1 hx2 ⊢
  have rx : RI w [.bool xln, .slice xA xs xc, .int .i64 xle, .bool xun, .slice xB xm xd, .int .i64 xue, .bool xa] ⟨⟨xln, xll, xle⟩, ⟨xun, xul, xue⟩, xa⟩ := ⟨xA, xs, xc, xB, xm, xd, rfl, hx1, hx2⟩
  have rx1 : RD w [.bool xln, .slice xA xs xc, .int .i64 xle] ⟨xln, xll, xle⟩ := ⟨xA, xs, xc, rfl, hx1⟩
  have rx2 : RD w [.bool xun, .slice xB xm xd, .int .i64 xue] ⟨xun, xul, xue⟩ := ⟨xB, xm, xd, rfl, hx2⟩
  have Rx := Lib.hid (fun W hb => lasts_RI w W _ _ rx hb)
  have Rx1 := Lib.hid (fun W hb => lasts_RD w W _ _ rx1 hb)
  have Rx2 := Lib.hid (fun W hb => lasts_RD w W _ _ rx2 hb)
  clear hx1 hx2 rx rx1 rx2
  obtain ⟨yA, ys, yc, yB, ym, yd, rfl, hy1, hy2⟩ := h'
  obtain ⟨⟨yln, yll, yle⟩, ⟨yun, yul, yue⟩, ya⟩ := y
  dsimp only at hy1 hy2 ⊢
  have ry : RI w [.bool yln, .slice yA ys yc, .int .i64 yle, .bool yun, .slice yB ym yd, .int .i64 yue, .bool ya] ⟨⟨yln, yll, yle⟩, ⟨yun, yul, yue⟩, ya⟩ := ⟨yA, ys, yc, yB, ym, yd, rfl, hy1, hy2⟩
  have ry1 : RD w [.bool yln, .slice yA ys yc, .int .i64 yle] ⟨yln, yll, yle⟩ := ⟨yA, ys, yc, rfl, hy1⟩
  have ry2 : RD w [.bool yun, .slice yB ym yd, .int .i64 yue] ⟨yun, yul, yue⟩ := ⟨yB, ym, yd, rfl, hy2⟩
  have Ry := Lib.hid (fun W hb => lasts_RI w W _ _ ry hb)
  have Ry1 := Lib.hid (fun W hb => lasts_RD w W _ _ ry1 hb)
  have Ry2 := Lib.hid (fun W hb => lasts_RD w W _ _ ry2 hb)
  clear hy1 hy2 ry ry1 ry2
  have HV : Hid (sI ⟨⟨xln, xll, xle⟩, ⟨xun, xul, xue⟩, xa⟩ ⟨⟨yln, yll, yle⟩, ⟨yun, yul, yue⟩, ya⟩ = ((xa == ya) && eqD ⟨xln, xll, xle⟩ ⟨yln, yll, yle⟩ && eqD ⟨xun, xul, xue⟩ ⟨yun, yul, yue⟩)) := rfl
  clear Rx Ry
  generalize hq1 : eqD ⟨xln, xll, xle⟩ ⟨yln, yll, yle⟩ = b1 at HV
  generalize hq2 : eqD ⟨xun, xul, xue⟩ ⟨yun, yul, yue⟩ = b2 at HV
  have Q1 := Lib.hid hq1
  have Q2 := Lib.hid hq2
  clear hq1 hq2
  have hb0 := bnext (ballo w (.cells #[.bool xln, .slice xA xs xc, .int .i64 xle, .bool xun, .slice xB xm xd, .int .i64 xue, .bool xa] 87)) (ballo (w.alloc (.cells #[.bool xln, .slice xA xs xc, .int .i64 xle, .bool xun, .slice xB xm xd, .int .i64 xue, .bool xa] 87)) (.cells #[.bool yln, .slice yA ys yc, .int .i64 yle, .bool yun, .slice yB ym yd, .int .i64 yue, .bool ya] 87))
  have ka := (Blk.new w 87 #[.bool xln, .slice xA xs xc, .int .i64 xle, .bool xun, .slice xB xm xd, .int .i64 xue, .bool xa]).next (ballo (w.alloc (.cells #[.bool xln, .slice xA xs xc, .int .i64 xle, .bool xun, .slice xB xm xd, .int .i64 xue, .bool xa] 87)) (.cells #[.bool yln, .slice yA ys yc, .int .i64 yle, .bool yun, .slice yB ym yd, .int .i64 yue, .bool ya] 87))
  have kb : Blk ((w.alloc (.cells #[.bool xln, .slice xA xs xc, .int .i64 xle, .bool xun, .slice xB xm xd, .int .i64 xue, .bool xa] 87)).alloc (.cells #[.bool yln, .slice yA ys yc, .int .i64 yle, .bool yun, .slice yB ym yd, .int .i64 yue, .bool ya] 87)) (w.heap.size + 1) 87 #[.bool yln, .slice yA ys yc, .int .i64 yle, .bool yun, .slice yB ym yd, .int .i64 yue, .bool ya] := Blk.newAt _ _ _ (by simp)
  cases hxa : (xa == ya)
  · have HXA := Lib.hid hxa
    rw [hxa] at HV
    go_enter Tryz.func151, Tryz.ntmps151
    go_wp2_with fail
    go_ret
    exact ⟨by rw [HV.out]; rfl, hb0⟩
  rw [hxa] at HV
  go_enter Tryz.func151, Tryz.ntmps151
  go_wp2_with fail
  generalize ((w.alloc (.cells #[.bool xln, .slice xA xs xc, .int .i64 xle, .bool xun, .slice xB xm xd, .int .i64 xue, .bool xa] 87)).alloc (.cells #[.bool yln, .slice yA ys yc, .int .i64 yle, .bool yun, .slice yB ym yd, .int .i64 yue, .bool ya] 87)) = W0 at *
  refine (requal_R _ _ _ _ _ (Rx1.out _ hb0) (Ry1.out _ hb0)).mono ?_
  rw [Q1.out]
  rintro e w1 ⟨rfl, hb1x⟩
  replace hb0 := bnext hb0 hb1x
  replace ka := ka.next hb1x
  replace kb := kb.next hb1x
  clear hb1x
  cases hv1 : b1
  · rw [hv1] at HV
    clear hv1
    go_wp2_with fail
    go_ret
    exact ⟨by rw [HV.out]; rfl, hb0⟩
  rw [hv1] at HV
  clear hv1
  obtain ⟨kaq0, kaq1, kaq2, kaq3, kaq4, kaq5, kaq6⟩ := ka.cells7
  obtain ⟨kbq0, kbq1, kbq2, kbq3, kbq4, kbq5, kbq6⟩ := kb.cells7
  go_wp2_with fail
  refine (requal_R _ _ _ _ _ (Rx2.out _ hb0) (Ry2.out _ hb0)).mono ?_
  rw [Q2.out]
  rintro e w2 ⟨rfl, hb2x⟩
  clear kaq0 kaq1 kaq2 kaq3 kaq4 kaq5 kaq6 kbq0 kbq1 kbq2 kbq3 kbq4 kbq5 kbq6
  replace hb0 := bnext hb0 hb2x
  replace ka := ka.next hb2x
  replace kb := kb.next hb2x
  clear hb2x
  go_wp2_with fail
  go_ret
  exact ⟨by rw [HV.out]; rfl, hb0⟩

set_option maxHeartbeats 1000000 in
theorem lboxes_any (A B : Option Addr) (n c m d : Nat) (l l' : List Iv) (w : World) (h : Sl 7 RI w A n c l) (h' : Sl 7 RI w B m d l') : Calls Tryz.prog 92 #[.slice A n c, .slice B m d] w (Says (sB l l') w) := by
  have HC := Lib.hid (show Calls _ _ _ _ (Says (sB l l') w) from equalFunc_I sI 151 #[] A B n c m d l l' w h h' (enters Tryz.func151 (by kernel_rfl) rfl) (fun W vs us x y _ _ _ hr hr' => lboxes1_any vs us x y W hr hr'))
  clear h h'
  go_enter Tryz.func92, Tryz.ntmps92
  go_wp2_with fail
  refine HC.out.mono ?_
  rintro e w1 ⟨rfl, hb0⟩
  generalize sB l l' = r at *
  go_wp2_with fail
  go_ret
  exact ⟨rfl, hb0⟩

set_option maxRecDepth 100000 in
set_option maxHeartbeats 2000000 in
theorem lframes_any (vs us : List Value) (x y : Fr) (w : World) (h : RF w vs x) (h' : RF w us y) : Calls Tryz.prog 90 #[.agg vs.toArray, .agg us.toArray] w (Says (sF x y) w) := by
  obtain ⟨xA, xn, xc, xB, xm, xd, xC, xp, xq, rfl, hx1, hx2, hx3⟩ := h
  obtain ⟨yA, yn, yc, yB, ym, yd, yC, yp, yq, rfl, hy1, hy2, hy3⟩ := h'
  have HV : Hid (sF x y = (sN x.c y.c && sM x.a y.a && sB x.r y.r)) := rfl
  have H1 := Lib.hid (fun W hb => lnumbers_any xA yA xn xc yn yc x.c y.c W (hx1.next lasts_RD hb) (hy1.next lasts_RD hb))
  have H2 := Lib.hid (fun W hb => lmatrices_any xB yB xm xd ym yd x.a y.a W (hx2.next lasts_RM hb) (hy2.next lasts_RM hb))
  have H3 := Lib.hid (fun W hb => lboxes_any xC yC xp xq yp yq x.r y.r W (hx3.next lasts_RI hb) (hy3.next lasts_RI hb))
  clear hx1 hx2 hx3 hy1 hy2 hy3
  generalize sN x.c y.c = b1 at *
  generalize sM x.a y.a = b2 at *
  generalize sB x.r y.r = b3 at *
  have hb0 := bnext (ballo w (.cells #[.slice xA xn xc, .slice xB xm xd, .slice xC xp xq] 39)) (ballo (w.alloc (.cells #[.slice xA xn xc, .slice xB xm xd, .slice xC xp xq] 39)) (.cells #[.slice yA yn yc, .slice yB ym yd, .slice yC yp yq] 39))
  have ka := (Blk.new w 39 #[.slice xA xn xc, .slice xB xm xd, .slice xC xp xq]).next (ballo (w.alloc (.cells #[.slice xA xn xc, .slice xB xm xd, .slice xC xp xq] 39)) (.cells #[.slice yA yn yc, .slice yB ym yd, .slice yC yp yq] 39))
  have kb : Blk ((w.alloc (.cells #[.slice xA xn xc, .slice xB xm xd, .slice xC xp xq] 39)).alloc (.cells #[.slice yA yn yc, .slice yB ym yd, .slice yC yp yq] 39)) (w.heap.size + 1) 39 #[.slice yA yn yc, .slice yB ym yd, .slice yC yp yq] := Blk.newAt _ _ _ (by simp)
  go_enter Tryz.func90, Tryz.ntmps90
  go_wp2_with fail
  generalize ((w.alloc (.cells #[.slice xA xn xc, .slice xB xm xd, .slice xC xp xq] 39)).alloc (.cells #[.slice yA yn yc, .slice yB ym yd, .slice yC yp yq] 39)) = W0 at *
  refine (H1.out _ hb0).mono ?_
  rintro e w1 ⟨rfl, hb1x⟩
  replace hb0 := bnext hb0 hb1x
  replace ka := ka.next hb1x
  replace kb := kb.next hb1x
  clear hb1x
  cases hv1 : b1
  · rw [hv1] at HV
    clear hv1
    go_wp2_with fail
    go_ret
    exact ⟨by rw [HV.out]; rfl, hb0⟩
  rw [hv1] at HV
  clear hv1
  obtain ⟨kaq0, kaq1, kaq2⟩ := ka.cells3
  obtain ⟨kbq0, kbq1, kbq2⟩ := kb.cells3
  go_wp2_with fail
  refine (H2.out _ hb0).mono ?_
  rintro e w2 ⟨rfl, hb2x⟩
  clear kaq0 kaq1 kaq2 kbq0 kbq1 kbq2
  replace hb0 := bnext hb0 hb2x
  replace ka := ka.next hb2x
  replace kb := kb.next hb2x
  clear hb2x
  cases hv1 : b2
  · rw [hv1] at HV
    clear hv1
    go_wp2_with fail
    go_ret
    exact ⟨by rw [HV.out]; rfl, hb0⟩
  rw [hv1] at HV
  clear hv1
  obtain ⟨kaq0, kaq1, kaq2⟩ := ka.cells3
  obtain ⟨kbq0, kbq1, kbq2⟩ := kb.cells3
  go_wp2_with fail
  refine (H3.out _ hb0).mono ?_
  rintro e w3 ⟨rfl, hb3x⟩
  clear kaq0 kaq1 kaq2 kbq0 kbq1 kbq2
  replace hb0 := bnext hb0 hb3x
  replace ka := ka.next hb3x
  replace kb := kb.next hb3x
  clear hb3x
  go_wp2_with fail
  go_ret
  exact ⟨by rw [HV.out]; rfl, hb0⟩

set_option maxRecDepth 100000 in
set_option maxHeartbeats 4000000 in
theorem lsame1_any (vs us : List Value) (x y : Lk) (w : World) (h : RL w vs x) (h' : RL w us y) : Calls Tryz.prog 91 (#[.agg vs.toArray, .agg us.toArray] ++ #[]) w (Says (sL x y) w) := by
  rw [Array.append_empty]
  obtain ⟨xH, xhs, xhc, xT, xtn, xtc, xA, xn, xc, xB, xm, xd, xC, xp, xq, xV, xvn, xvc, rfl, hx1, hx2, hx3, hx4, hx5, hx6⟩ := h
  obtain ⟨⟨xhn, xhl, xhe⟩, xtu, xfe, xv⟩ := x
  dsimp only at hx1 hx2 hx3 hx4 hx5 hx6 ⊢
  obtain ⟨yH, yhs, yhc, yT, ytn, ytc, yA, yn, yc, yB, ym, yd, yC, yp, yq, yV, yvn, yvc, rfl, hy1, hy2, hy3, hy4, hy5, hy6⟩ := h'
  obtain ⟨⟨yhn, yhl, yhe⟩, ytu, yfe, yv⟩ := y
  dsimp only at hy1 hy2 hy3 hy4 hy5 hy6 ⊢
  have HV : Hid (sL ⟨⟨xhn, xhl, xhe⟩, xtu, xfe, xv⟩ ⟨⟨yhn, yhl, yhe⟩, ytu, yfe, yv⟩ = (eqD ⟨xhn, xhl, xhe⟩ ⟨yhn, yhl, yhe⟩ && sB xtu ytu && sF xfe yfe && sM xv yv)) := rfl
  have rx1 : RD w [.bool xhn, .slice xH xhs xhc, .int .i64 xhe] ⟨xhn, xhl, xhe⟩ := ⟨xH, xhs, xhc, rfl, hx1⟩
  have rx2 : RF w [.slice xA xn xc, .slice xB xm xd, .slice xC xp xq] xfe := ⟨xA, xn, xc, xB, xm, xd, xC, xp, xq, rfl, hx3, hx4, hx5⟩
  have ry1 : RD w [.bool yhn, .slice yH yhs yhc, .int .i64 yhe] ⟨yhn, yhl, yhe⟩ := ⟨yH, yhs, yhc, rfl, hy1⟩
  have ry2 : RF w [.slice yA yn yc, .slice yB ym yd, .slice yC yp yq] yfe := ⟨yA, yn, yc, yB, ym, yd, yC, yp, yq, rfl, hy3, hy4, hy5⟩
  have H1 := Lib.hid (fun W (hb : Below w.heap.size w W) => requal_R _ _ _ _ W (lasts_RD w W _ _ rx1 hb) (lasts_RD w W _ _ ry1 hb))
  have H2 := Lib.hid (fun W (hb : Below w.heap.size w W) => lboxes_any xT yT xtn xtc ytn ytc xtu ytu W (hx2.next lasts_RI hb) (hy2.next lasts_RI hb))
  have H3 := Lib.hid (fun W (hb : Below w.heap.size w W) => lframes_any _ _ xfe yfe W (lasts_RF w W _ _ rx2 hb) (lasts_RF w W _ _ ry2 hb))
  have H4 := Lib.hid (fun W (hb : Below w.heap.size w W) => lmatrices_any xV yV xvn xvc yvn yvc xv yv W (hx6.next lasts_RM hb) (hy6.next lasts_RM hb))
  clear hx1 hx2 hx3 hx4 hx5 hx6 hy1 hy2 hy3 hy4 hy5 hy6 rx1 rx2 ry1 ry2
  generalize eqD ⟨xhn, xhl, xhe⟩ ⟨yhn, yhl, yhe⟩ = b1 at *
  generalize sB xtu ytu = b2 at *
  generalize sF xfe yfe = b3 at *
  generalize sM xv yv = b4 at *
  have hb0 := bnext (ballo w (.cells #[.bool xhn, .slice xH xhs xhc, .int .i64 xhe, .slice xT xtn xtc, .slice xA xn xc, .slice xB xm xd, .slice xC xp xq, .slice xV xvn xvc] 98)) (ballo (w.alloc (.cells #[.bool xhn, .slice xH xhs xhc, .int .i64 xhe, .slice xT xtn xtc, .slice xA xn xc, .slice xB xm xd, .slice xC xp xq, .slice xV xvn xvc] 98)) (.cells #[.bool yhn, .slice yH yhs yhc, .int .i64 yhe, .slice yT ytn ytc, .slice yA yn yc, .slice yB ym yd, .slice yC yp yq, .slice yV yvn yvc] 98))
  have ka := (Blk.new w 98 #[.bool xhn, .slice xH xhs xhc, .int .i64 xhe, .slice xT xtn xtc, .slice xA xn xc, .slice xB xm xd, .slice xC xp xq, .slice xV xvn xvc]).next (ballo (w.alloc (.cells #[.bool xhn, .slice xH xhs xhc, .int .i64 xhe, .slice xT xtn xtc, .slice xA xn xc, .slice xB xm xd, .slice xC xp xq, .slice xV xvn xvc] 98)) (.cells #[.bool yhn, .slice yH yhs yhc, .int .i64 yhe, .slice yT ytn ytc, .slice yA yn yc, .slice yB ym yd, .slice yC yp yq, .slice yV yvn yvc] 98))
  have kb : Blk ((w.alloc (.cells #[.bool xhn, .slice xH xhs xhc, .int .i64 xhe, .slice xT xtn xtc, .slice xA xn xc, .slice xB xm xd, .slice xC xp xq, .slice xV xvn xvc] 98)).alloc (.cells #[.bool yhn, .slice yH yhs yhc, .int .i64 yhe, .slice yT ytn ytc, .slice yA yn yc, .slice yB ym yd, .slice yC yp yq, .slice yV yvn yvc] 98)) (w.heap.size + 1) 98 #[.bool yhn, .slice yH yhs yhc, .int .i64 yhe, .slice yT ytn ytc, .slice yA yn yc, .slice yB ym yd, .slice yC yp yq, .slice yV yvn yvc] := Blk.newAt _ _ _ (by simp)
  go_enter Tryz.func91, Tryz.ntmps91
  go_wp2_with fail
  generalize ((w.alloc (.cells #[.bool xhn, .slice xH xhs xhc, .int .i64 xhe, .slice xT xtn xtc, .slice xA xn xc, .slice xB xm xd, .slice xC xp xq, .slice xV xvn xvc] 98)).alloc (.cells #[.bool yhn, .slice yH yhs yhc, .int .i64 yhe, .slice yT ytn ytc, .slice yA yn yc, .slice yB ym yd, .slice yC yp yq, .slice yV yvn yvc] 98)) = W0 at *
  refine (H1.out _ hb0).mono ?_
  rintro e w1 ⟨rfl, hb1x⟩
  replace hb0 := bnext hb0 hb1x
  replace ka := ka.next hb1x
  replace kb := kb.next hb1x
  clear hb1x
  cases hv1 : b1
  · rw [hv1] at HV
    clear hv1
    go_wp2_with fail
    go_ret
    exact ⟨by rw [HV.out]; rfl, hb0⟩
  rw [hv1] at HV
  clear hv1
  obtain ⟨kaq0, kaq1, kaq2, kaq3, kaq4, kaq5, kaq6, kaq7⟩ := ka.cells8
  obtain ⟨kbq0, kbq1, kbq2, kbq3, kbq4, kbq5, kbq6, kbq7⟩ := kb.cells8
  go_wp2_with fail
  refine (H2.out _ hb0).mono ?_
  rintro e w2 ⟨rfl, hb2x⟩
  clear kaq0 kaq1 kaq2 kaq3 kaq4 kaq5 kaq6 kaq7 kbq0 kbq1 kbq2 kbq3 kbq4 kbq5 kbq6 kbq7
  replace hb0 := bnext hb0 hb2x
  replace ka := ka.next hb2x
  replace kb := kb.next hb2x
  clear hb2x
  cases hv1 : b2
  · rw [hv1] at HV
    clear hv1
    go_wp2_with fail
    go_ret
    exact ⟨by rw [HV.out]; rfl, hb0⟩
  rw [hv1] at HV
  clear hv1
  obtain ⟨kaq0, kaq1, kaq2, kaq3, kaq4, kaq5, kaq6, kaq7⟩ := ka.cells8
  obtain ⟨kbq0, kbq1, kbq2, kbq3, kbq4, kbq5, kbq6, kbq7⟩ := kb.cells8
  go_wp2_with fail
  refine (H3.out _ hb0).mono ?_
  rintro e w3 ⟨rfl, hb3x⟩
  clear kaq0 kaq1 kaq2 kaq3 kaq4 kaq5 kaq6 kaq7 kbq0 kbq1 kbq2 kbq3 kbq4 kbq5 kbq6 kbq7
  replace hb0 := bnext hb0 hb3x
  replace ka := ka.next hb3x
  replace kb := kb.next hb3x
  clear hb3x
  cases hv1 : b3
  · rw [hv1] at HV
    clear hv1
    go_wp2_with fail
    go_ret
    exact ⟨by rw [HV.out]; rfl, hb0⟩
  rw [hv1] at HV
  clear hv1
  obtain ⟨kaq0, kaq1, kaq2, kaq3, kaq4, kaq5, kaq6, kaq7⟩ := ka.cells8
  obtain ⟨kbq0, kbq1, kbq2, kbq3, kbq4, kbq5, kbq6, kbq7⟩ := kb.cells8
  go_wp2_with fail
  refine (H4.out _ hb0).mono ?_
  rintro e w4 ⟨rfl, hb4x⟩
  clear kaq0 kaq1 kaq2 kaq3 kaq4 kaq5 kaq6 kaq7 kbq0 kbq1 kbq2 kbq3 kbq4 kbq5 kbq6 kbq7
  replace hb0 := bnext hb0 hb4x
  replace ka := ka.next hb4x
  replace kb := kb.next hb4x
  clear hb4x
  go_wp2_with fail
  go_ret
  exact ⟨by rw [HV.out]; rfl, hb0⟩

set_option maxRecDepth 100000 in
set_option maxHeartbeats 4000000 in
theorem lsame_any (vs us : List Value) (x y : Ct) (w : World) (h : RC w vs x) (h' : RC w us y) : Calls Tryz.prog 22 #[.agg vs.toArray, .agg us.toArray] w (Says (sC x y) w) := by
  obtain ⟨xA, xn, xc, xB, xm, xd, xC, xp, xq, xL, xln, xlc, rfl, hx1, hx2, hx3, hx4⟩ := h
  obtain ⟨xpr, xod, xst, xls⟩ := x
  dsimp only at hx1 hx2 hx3 hx4 ⊢
  obtain ⟨yA, yn, yc, yB, ym, yd, yC, yp, yq, yL, yln, ylc, rfl, hy1, hy2, hy3, hy4⟩ := h'
  obtain ⟨ypr, yod, yst, yls⟩ := y
  dsimp only at hy1 hy2 hy3 hy4 ⊢
  have HV : Hid (sC ⟨xpr, xod, xst, xls⟩ ⟨ypr, yod, yst, yls⟩ = (decide (xpr = ypr) && decide (xod = yod) && sF xst yst && eqF sL xls yls)) := rfl
  have rx2 : RF w [.slice xA xn xc, .slice xB xm xd, .slice xC xp xq] xst := ⟨xA, xn, xc, xB, xm, xd, xC, xp, xq, rfl, hx1, hx2, hx3⟩
  have ry2 : RF w [.slice yA yn yc, .slice yB ym yd, .slice yC yp yq] yst := ⟨yA, yn, yc, yB, ym, yd, yC, yp, yq, rfl, hy1, hy2, hy3⟩
  have H3 := Lib.hid (fun W (hb : Below w.heap.size w W) => lframes_any _ _ xst yst W (lasts_RF w W _ _ rx2 hb) (lasts_RF w W _ _ ry2 hb))
  have H4 := Lib.hid (fun W (hb : Below w.heap.size w W) => equalFunc_L sL 91 #[] xL yL xln xlc yln ylc xls yls W (hx4.next lasts_RL hb) (hy4.next lasts_RL hb) (enters Tryz.func91 (by kernel_rfl) rfl) (fun V vs us x y _ _ _ hr hr' => lsame1_any vs us x y V hr hr'))
  clear hx1 hx2 hx3 hx4 hy1 hy2 hy3 hy4 rx2 ry2
  generalize sF xst yst = b3 at *
  generalize eqF sL xls yls = b4 at *
  have hb0 := bnext (ballo w (.cells #[.int .i64 xpr, .int .i64 xod, .slice xA xn xc, .slice xB xm xd, .slice xC xp xq, .slice xL xln xlc] 42)) (ballo (w.alloc (.cells #[.int .i64 xpr, .int .i64 xod, .slice xA xn xc, .slice xB xm xd, .slice xC xp xq, .slice xL xln xlc] 42)) (.cells #[.int .i64 ypr, .int .i64 yod, .slice yA yn yc, .slice yB ym yd, .slice yC yp yq, .slice yL yln ylc] 42))
  have ka := (Blk.new w 42 #[.int .i64 xpr, .int .i64 xod, .slice xA xn xc, .slice xB xm xd, .slice xC xp xq, .slice xL xln xlc]).next (ballo (w.alloc (.cells #[.int .i64 xpr, .int .i64 xod, .slice xA xn xc, .slice xB xm xd, .slice xC xp xq, .slice xL xln xlc] 42)) (.cells #[.int .i64 ypr, .int .i64 yod, .slice yA yn yc, .slice yB ym yd, .slice yC yp yq, .slice yL yln ylc] 42))
  have kb : Blk ((w.alloc (.cells #[.int .i64 xpr, .int .i64 xod, .slice xA xn xc, .slice xB xm xd, .slice xC xp xq, .slice xL xln xlc] 42)).alloc (.cells #[.int .i64 ypr, .int .i64 yod, .slice yA yn yc, .slice yB ym yd, .slice yC yp yq, .slice yL yln ylc] 42)) (w.heap.size + 1) 42 #[.int .i64 ypr, .int .i64 yod, .slice yA yn yc, .slice yB ym yd, .slice yC yp yq, .slice yL yln ylc] := Blk.newAt _ _ _ (by simp)
  by_cases hp : xpr = ypr
  rotate_left
  · have hp2 : (xpr == ypr) = false := by rw [beq_eq_false_iff_ne]; exact hp
    rw [decide_eq_false hp] at HV
    clear ka kb H3 H4
    go_enter Tryz.func22, Tryz.ntmps22
    go_wp2_with fail
    go_ret
    exact ⟨by rw [HV.out]; first | rfl | simp, hb0⟩
  rw [decide_eq_true hp] at HV
  have hp2 : (xpr == ypr) = true := by rw [hp]; simp
  clear hp
  by_cases ho : xod = yod
  rotate_left
  · have ho2 : (xod == yod) = false := by rw [beq_eq_false_iff_ne]; exact ho
    rw [decide_eq_false ho] at HV
    clear ka kb H3 H4
    go_enter Tryz.func22, Tryz.ntmps22
    go_wp2_with fail
    go_ret
    exact ⟨by rw [HV.out]; first | rfl | simp, hb0⟩
  rw [decide_eq_true ho] at HV
  have ho2 : (xod == yod) = true := by rw [ho]; simp
  clear ho
  go_enter Tryz.func22, Tryz.ntmps22
  go_wp2_with fail
  generalize ((w.alloc (.cells #[.int .i64 xpr, .int .i64 xod, .slice xA xn xc, .slice xB xm xd, .slice xC xp xq, .slice xL xln xlc] 42)).alloc (.cells #[.int .i64 ypr, .int .i64 yod, .slice yA yn yc, .slice yB ym yd, .slice yC yp yq, .slice yL yln ylc] 42)) = W0 at *
  refine (H3.out _ hb0).mono ?_
  rintro e w1 ⟨rfl, hb1x⟩
  replace hb0 := bnext hb0 hb1x
  replace ka := ka.next hb1x
  replace kb := kb.next hb1x
  clear hb1x
  cases hv1 : b3
  · rw [hv1] at HV
    clear hv1
    go_wp2_with fail
    go_ret
    exact ⟨by rw [HV.out]; rfl, hb0⟩
  rw [hv1] at HV
  clear hv1
  obtain ⟨kaq0, kaq1, kaq2, kaq3, kaq4, kaq5⟩ := ka.cells6
  obtain ⟨kbq0, kbq1, kbq2, kbq3, kbq4, kbq5⟩ := kb.cells6
  go_wp2_with fail
  refine (H4.out _ hb0).mono ?_
  rintro e w2 ⟨rfl, hb2x⟩
  clear kaq0 kaq1 kaq2 kaq3 kaq4 kaq5 kbq0 kbq1 kbq2 kbq3 kbq4 kbq5
  replace hb0 := bnext hb0 hb2x
  replace ka := ka.next hb2x
  replace kb := kb.next hb2x
  clear hb2x
  go_wp2_with fail
  go_ret
  exact ⟨by rw [HV.out]; rfl, hb0⟩

end Go.Proofs.YtekajoifgdpmlaaGreatDoor
