/- The law DyadicRing: its walk. (Printed by gen_l8.py.) -/
import Derived.Test.YtjhokljoomeilaaDoorVar
import Derived.Laws.EntriesVeiled
namespace Go.Proofs.YtjhokljoomeilaaDoor
open Go.RowKit Pl Go.Shelf

structure RingAt (w : World) (an : Bool) (aA : Option Addr) (aS ac : Nat) (al : List Nat) (ae : Int) (bn : Bool) (bA : Option Addr) (bs bc : Nat) (bl : List Nat) (be : Int) (cn : Bool) (cA : Option Addr) (cs cc : Nat) (cl : List Nat) (ce : Int) (gf : Nat) (W : World) : Prop where
  va : Var W w.heap.size an aA aS ac al ae
  vb : Var W (w.heap.size + 1) bn bA bs bc bl be
  vc : Var W (w.heap.size + 1 + 1) cn cA cs cc cl ce
  kf : Blk W gf 44 #[.func (.func 30) #[] #[], .func (.func 31) #[] #[]]
  ht : Tabs W
  hbw : Below w.heap.size w W

set_option maxRecDepth 100000 in
set_option maxHeartbeats 16000000 in
theorem lring_any (an : Bool) (aA : Option Addr) (aS ac : Nat) (al : List Nat) (ae : Int) (bn : Bool) (bA : Option Addr) (bs bc : Nat) (bl : List Nat) (be : Int) (cn : Bool) (cA : Option Addr) (cs cc : Nat) (cl : List Nat) (ce : Int) (w : World) (ha : SL w aA aS ac al) (hb : SL w bA bs bc bl) (hc : SL w cA cs cc cl) (ht : Tabs w) :
    Calls Tryd.prog 6 #[.agg #[.bool an, .slice aA aS ac, .int .i64 ae], .agg #[.bool bn, .slice bA bs bc, .int .i64 be], .agg #[.bool cn, .slice cA cs cc, .int .i64 ce]] w fun e w' => e = .returned (.bool true) ∧ Below w.heap.size w w' := by
  have HT := Lib.hid ht
  clear ht
  go_enter Tryd.func6, Tryd.ntmps6
  go_wp2_with fail
  have hbw := bnext (bnext (ballo w (.cells #[.bool an, .slice aA aS ac, .int .i64 ae] 27)) (ballo (w.alloc (.cells #[.bool an, .slice aA aS ac, .int .i64 ae] 27)) (.cells #[.bool bn, .slice bA bs bc, .int .i64 be] 27))) (ballo ((w.alloc (.cells #[.bool an, .slice aA aS ac, .int .i64 ae] 27)).alloc (.cells #[.bool bn, .slice bA bs bc, .int .i64 be] 27)) (.cells #[.bool cn, .slice cA cs cc, .int .i64 ce] 27))
  have va := ((Var.new w an ae ha).next (ballo (w.alloc (.cells #[.bool an, .slice aA aS ac, .int .i64 ae] 27)) (.cells #[.bool bn, .slice bA bs bc, .int .i64 be] 27))).next (ballo ((w.alloc (.cells #[.bool an, .slice aA aS ac, .int .i64 ae] 27)).alloc (.cells #[.bool bn, .slice bA bs bc, .int .i64 be] 27)) (.cells #[.bool cn, .slice cA cs cc, .int .i64 ce] 27))
  have vb := (Var.newAt (w.alloc (.cells #[.bool an, .slice aA aS ac, .int .i64 ae] 27)) bn be (g := w.heap.size + 1) (by simp) (hb.below (ballo w (.cells #[.bool an, .slice aA aS ac, .int .i64 ae] 27)))).next (ballo ((w.alloc (.cells #[.bool an, .slice aA aS ac, .int .i64 ae] 27)).alloc (.cells #[.bool bn, .slice bA bs bc, .int .i64 be] 27)) (.cells #[.bool cn, .slice cA cs cc, .int .i64 ce] 27))
  have vc := Var.newAt ((w.alloc (.cells #[.bool an, .slice aA aS ac, .int .i64 ae] 27)).alloc (.cells #[.bool bn, .slice bA bs bc, .int .i64 be] 27)) cn ce (g := w.heap.size + 1 + 1) (by simp) (hc.below (bnext (ballo w (.cells #[.bool an, .slice aA aS ac, .int .i64 ae] 27)) (ballo (w.alloc (.cells #[.bool an, .slice aA aS ac, .int .i64 ae] 27)) (.cells #[.bool bn, .slice bA bs bc, .int .i64 be] 27))))
  replace HT := Lib.hid (HT.out.next hbw)
  generalize ((w.alloc (.cells #[.bool an, .slice aA aS ac, .int .i64 ae] 27)).alloc (.cells #[.bool bn, .slice bA bs bc, .int .i64 be] 27)).alloc (.cells #[.bool cn, .slice cA cs cc, .int .i64 ce] 27) = W0 at *
  go_wp2_with fail
  refine (awake_any _ HT.out).mono ?_
  rintro e w1 ⟨rfl, hb1⟩
  replace va := va.next hb1
  replace vb := vb.next hb1
  replace vc := vc.next hb1
  (try replace kf := kf.below hb1 kf.lt)
  replace hbw := bnext hbw hb1
  replace HT := Lib.hid (HT.out.next hb1)
  clear hb1
  obtain ⟨aq0, aq1, aq2⟩ := va.cells
  obtain ⟨bq0, bq1, bq2⟩ := vb.cells
  obtain ⟨cq0, cq1, cq2⟩ := vc.cells
  by_cases hma : 40 < aS
  · clear aq0 aq1 aq2 bq0 bq1 bq2 cq0 cq1 cq2
    obtain ⟨aq0, aq1, aq2⟩ := va.cells
    obtain ⟨bq0, bq1, bq2⟩ := vb.cells
    obtain ⟨cq0, cq1, cq2⟩ := vc.cells
    go_wp2_with fail
    refine (awake_any _ HT.out).mono ?_
    rintro e w2 ⟨rfl, hb2⟩
    clear aq0 aq1 aq2 bq0 bq1 bq2 cq0 cq1 cq2
    replace va := va.next hb2
    replace vb := vb.next hb2
    replace vc := vc.next hb2
    (try replace kf := kf.below hb2 kf.lt)
    replace hbw := bnext hbw hb2
    replace HT := Lib.hid (HT.out.next hb2)
    clear hb2
    go_wp2_with fail
    go_ret
    exact ⟨rfl, hbw⟩
  by_cases hmb : 40 < bs
  · clear aq0 aq1 aq2 bq0 bq1 bq2 cq0 cq1 cq2
    obtain ⟨aq0, aq1, aq2⟩ := va.cells
    obtain ⟨bq0, bq1, bq2⟩ := vb.cells
    obtain ⟨cq0, cq1, cq2⟩ := vc.cells
    go_wp2_with fail
    refine (awake_any _ HT.out).mono ?_
    rintro e w2 ⟨rfl, hb2⟩
    clear aq0 aq1 aq2 bq0 bq1 bq2 cq0 cq1 cq2
    replace va := va.next hb2
    replace vb := vb.next hb2
    replace vc := vc.next hb2
    (try replace kf := kf.below hb2 kf.lt)
    replace hbw := bnext hbw hb2
    replace HT := Lib.hid (HT.out.next hb2)
    clear hb2
    go_wp2_with fail
    go_ret
    exact ⟨rfl, hbw⟩
  by_cases hmc : 40 < cs
  · clear aq0 aq1 aq2 bq0 bq1 bq2 cq0 cq1 cq2
    obtain ⟨aq0, aq1, aq2⟩ := va.cells
    obtain ⟨bq0, bq1, bq2⟩ := vb.cells
    obtain ⟨cq0, cq1, cq2⟩ := vc.cells
    go_wp2_with fail
    refine (awake_any _ HT.out).mono ?_
    rintro e w2 ⟨rfl, hb2⟩
    clear aq0 aq1 aq2 bq0 bq1 bq2 cq0 cq1 cq2
    replace va := va.next hb2
    replace vb := vb.next hb2
    replace vc := vc.next hb2
    (try replace kf := kf.below hb2 kf.lt)
    replace hbw := bnext hbw hb2
    replace HT := Lib.hid (HT.out.next hb2)
    clear hb2
    go_wp2_with fail
    go_ret
    exact ⟨rfl, hbw⟩
  replace hma : aS ≤ 40 := by omega
  replace hmb : bs ≤ 40 := by omega
  replace hmc : cs ≤ 40 := by omega
  go_wp2_with fail
  clear aq0 aq1 aq2 bq0 bq1 bq2 cq0 cq1 cq2
  have kf := Blk.new w1 44 #[.func (.func 30) #[] #[], .func (.func 31) #[] #[]]
  have hbl := ballo w1 (.cells #[.func (.func 30) #[] #[], .func (.func 31) #[] #[]] 44)
  replace va := va.next hbl
  replace vb := vb.next hbl
  replace vc := vc.next hbl
  (try replace kf := kf.below hbl kf.lt)
  replace hbw := bnext hbw hbl
  replace HT := Lib.hid (HT.out.next hbl)
  clear hbl
  generalize w1.alloc (.cells #[.func (.func 30) #[] #[], .func (.func 31) #[] #[]] 44) = WL at *
  generalize w1.heap.size = gf at *
  go_loopw [56] (fun i wr => ∃ j : Nat, j ≤ 2 ∧ i = .int .i64 j ∧ RingAt w an aA aS ac al ae bn bA bs bc bl be cn cA cs cc cl ce gf wr) (fun i _ => 2 - (intOf i).toNat)
  case atStart => exact ⟨0, by omega, rfl, va, vb, vc, kf, HT.out, hbw⟩
  case round =>
    obtain ⟨j, hj, rfl, va, vb, vc, kf, ht, hbw⟩ := hrel
    have HT := Lib.hid ht
    clear ht
    have h3 : j = 0 ∨ j = 1 ∨ j = 2 := by omega
    rcases h3 with rfl | rfl | rfl
    · have kf0 := kf.cell 0
      simp at kf0
      obtain ⟨⟨⟨xn, xl, xe⟩, xk⟩, hx⟩ : ∃ r, r = addD ⟨an, al, ae⟩ ⟨bn, bl, be⟩ := ⟨_, rfl⟩
      have Hx := Lib.hid hx
      have HX0 := Lib.hid hx
      have hx1 := hx
      have hox := (add_out va.sl.lt vb.sl.lt hx).1
      dsimp only at hox
      clear hx
      obtain ⟨aq0, aq1, aq2⟩ := va.cells
      obtain ⟨bq0, bq1, bq2⟩ := vb.cells
      go_wp2_with fail
      refine (addD_any an bn aA bA aS ac bs bc al bl ae be _ va.sl vb.sl HT.out (by omega) (by omega)).mono ?_
      rw [← Hx.out]
      rintro e w2 ⟨xA, xs, xc, rfl, hsx, hfx, hbx⟩
      dsimp only at hsx
      clear hfx
      clear aq0 aq1 aq2 bq0 bq1 bq2
      have hbx2 := bnext hbx (ballo w2 (.cells #[.bool xn, .slice xA xs xc, .int .i64 xe] 27))
      have vx := Var.new w2 xn xe hsx
      have hmx : xs ≤ 300 := by rw [← hsx.len]; omega
      replace va := va.next hbx2
      replace vb := vb.next hbx2
      replace vc := vc.next hbx2
      (try replace kf := kf.below hbx2 kf.lt)
      replace hbw := bnext hbw hbx2
      replace HT := Lib.hid (HT.out.next hbx2)
      clear hbx hbx2 hsx hox
      skip
      have HC : Hid (addD ⟨bn, bl, be⟩ ⟨an, al, ae⟩ = (⟨xn, xl, xe⟩, xk)) := by unfold Hid; rw [add_comm', ← hx1]
      clear hx1
      obtain ⟨aq0, aq1, aq2⟩ := va.cells
      obtain ⟨bq0, bq1, bq2⟩ := vb.cells
      go_wp2_with fail
      generalize w2.alloc (.cells #[.bool xn, .slice xA xs xc, .int .i64 xe] 27) = W2 at *
      generalize w2.heap.size = gx at *
      refine (addD_any bn an bA aA bs bc aS ac bl al be ae _ vb.sl va.sl HT.out (by omega) (by omega)).mono ?_
      rw [HC.out]
      rintro e w3 ⟨yA, ys, yc, rfl, hsy, hfy, hby⟩
      dsimp only at hsy
      clear hfy
      clear aq0 aq1 aq2 bq0 bq1 bq2
      have hby2 := bnext hby (ballo w3 (.cells #[.bool xn, .slice yA ys yc, .int .i64 xe] 27))
      have vy := Var.new w3 xn xe hsy
      replace va := va.next hby2
      replace vb := vb.next hby2
      replace vc := vc.next hby2
      (try replace kf := kf.below hby2 kf.lt)
      replace vx := vx.next hby2
      replace hbw := bnext hbw hby2
      replace HT := Lib.hid (HT.out.next hby2)
      clear hby hby2 hsy HC
      obtain ⟨xq0, xq1, xq2⟩ := vx.cells
      obtain ⟨yq0, yq1, yq2⟩ := vy.cells
      go_wp2_with fail
      generalize w3.alloc (.cells #[.bool xn, .slice yA ys yc, .int .i64 xe] 27) = W3 at *
      generalize w3.heap.size = gy at *
      refine (requal_any xn xn xA yA xs xc ys yc xl xl xe xe _ vx.sl vy.sl).mono ?_
      rw [eqD_self]
      rintro e w4 ⟨rfl, hb4⟩
      clear xq0 xq1 xq2 yq0 yq1 yq2
      replace va := va.next hb4
      replace vb := vb.next hb4
      replace vc := vc.next hb4
      (try replace kf := kf.below hb4 kf.lt)
      replace vx := vx.next hb4
      replace vy := vy.next hb4
      replace hbw := bnext hbw hb4
      replace HT := Lib.hid (HT.out.next hb4)
      clear hb4
      clear vy
      obtain ⟨⟨⟨zn, zl, ze⟩, zk⟩, hz⟩ : ∃ r, r = addD ⟨bn, bl, be⟩ ⟨cn, cl, ce⟩ := ⟨_, rfl⟩
      have Hz := Lib.hid hz
      have HZ0 := Lib.hid hz
      have hoz := (add_out vb.sl.lt vc.sl.lt hz).1
      dsimp only at hoz
      clear hz
      obtain ⟨bq0, bq1, bq2⟩ := vb.cells
      obtain ⟨cq0, cq1, cq2⟩ := vc.cells
      go_wp2_with fail
      refine (addD_any bn cn bA cA bs bc cs cc bl cl be ce _ vb.sl vc.sl HT.out (by omega) (by omega)).mono ?_
      rw [← Hz.out]
      rintro e w5 ⟨zA, zs, zc, rfl, hsz, hfz, hbz⟩
      dsimp only at hsz
      clear hfz
      clear bq0 bq1 bq2 cq0 cq1 cq2
      have hbz2 := bnext hbz (ballo w5 (.cells #[.bool zn, .slice zA zs zc, .int .i64 ze] 27))
      have vz := Var.new w5 zn ze hsz
      have hmz : zs ≤ 300 := by rw [← hsz.len]; omega
      replace va := va.next hbz2
      replace vb := vb.next hbz2
      replace vc := vc.next hbz2
      (try replace kf := kf.below hbz2 kf.lt)
      replace vx := vx.next hbz2
      replace hbw := bnext hbw hbz2
      replace HT := Lib.hid (HT.out.next hbz2)
      clear hbz hbz2 hsz hoz
      obtain ⟨⟨⟨un, ul, ue⟩, uk⟩, hu⟩ : ∃ r, r = addD ⟨xn, xl, xe⟩ ⟨cn, cl, ce⟩ := ⟨_, rfl⟩
      have Hu := Lib.hid hu
      have HU0 := Lib.hid hu
      have hou := (add_out vx.sl.lt vc.sl.lt hu).1
      dsimp only at hou
      clear hu
      obtain ⟨xq0, xq1, xq2⟩ := vx.cells
      obtain ⟨cq0, cq1, cq2⟩ := vc.cells
      go_wp2_with fail
      generalize w5.alloc (.cells #[.bool zn, .slice zA zs zc, .int .i64 ze] 27) = W5 at *
      generalize w5.heap.size = gz at *
      refine (addD_any xn cn xA cA xs xc cs cc xl cl xe ce _ vx.sl vc.sl HT.out (by omega) (by omega)).mono ?_
      rw [← Hu.out]
      rintro e w6 ⟨uA, us, uc, rfl, hsu, hfu, hbu⟩
      dsimp only at hsu
      clear hfu
      clear xq0 xq1 xq2 cq0 cq1 cq2
      have hbu2 := bnext hbu (ballo w6 (.cells #[.bool un, .slice uA us uc, .int .i64 ue] 27))
      have vu := Var.new w6 un ue hsu
      have hmu : us ≤ 300 := by rw [← hsu.len]; omega
      replace va := va.next hbu2
      replace vb := vb.next hbu2
      replace vc := vc.next hbu2
      (try replace kf := kf.below hbu2 kf.lt)
      replace vx := vx.next hbu2
      replace vz := vz.next hbu2
      replace hbw := bnext hbw hbu2
      replace HT := Lib.hid (HT.out.next hbu2)
      clear hbu hbu2 hsu hou
      obtain ⟨⟨⟨rn, rl, re⟩, rk⟩, hr⟩ : ∃ r, r = addD ⟨an, al, ae⟩ ⟨zn, zl, ze⟩ := ⟨_, rfl⟩
      have Hr := Lib.hid hr
      have HLR : Hid (xk = 0 → zk = 0 → uk = 0 → rk = 0 → eqD ⟨un, ul, ue⟩ ⟨rn, rl, re⟩ = true) := by unfold Hid; intro h0 h1 h2 h3; subst h0 h1 h2 h3; exact (eqD_iff _ _).2 (add_assoc_law va.sl.lt vb.sl.lt vc.sl.lt HX0.out.symm HZ0.out.symm HU0.out.symm hr.symm)
      clear HX0 HZ0 HU0
      have hor := (add_out va.sl.lt vz.sl.lt hr).1
      dsimp only at hor
      clear hr
      obtain ⟨aq0, aq1, aq2⟩ := va.cells
      obtain ⟨zq0, zq1, zq2⟩ := vz.cells
      go_wp2_with fail
      generalize w6.alloc (.cells #[.bool un, .slice uA us uc, .int .i64 ue] 27) = W6 at *
      generalize w6.heap.size = gu at *
      refine (addD_any an zn aA zA aS ac zs zc al zl ae ze _ va.sl vz.sl HT.out (by omega) (by omega)).mono ?_
      rw [← Hr.out]
      rintro e w7 ⟨rA, rs, rc, rfl, hsr, hfr, hbr⟩
      dsimp only at hsr
      clear hfr
      clear aq0 aq1 aq2 zq0 zq1 zq2
      have hbr2 := bnext hbr (ballo w7 (.cells #[.bool rn, .slice rA rs rc, .int .i64 re] 27))
      have vr := Var.new w7 rn re hsr
      have hmr : rs ≤ 300 := by rw [← hsr.len]; omega
      replace va := va.next hbr2
      replace vb := vb.next hbr2
      replace vc := vc.next hbr2
      (try replace kf := kf.below hbr2 kf.lt)
      replace vx := vx.next hbr2
      replace vz := vz.next hbr2
      replace vu := vu.next hbr2
      replace hbw := bnext hbw hbr2
      replace HT := Lib.hid (HT.out.next hbr2)
      clear hbr hbr2 hsr hor
      obtain ⟨uq0, uq1, uq2⟩ := vu.cells
      obtain ⟨rq0, rq1, rq2⟩ := vr.cells
      by_cases hxk0 : xk = 0
      · subst hxk0
        by_cases hzk0 : zk = 0
        · subst hzk0
          by_cases huk0 : uk = 0
          · subst huk0
            by_cases hrk0 : rk = 0
            · subst hrk0
              clear uq0 uq1 uq2 rq0 rq1 rq2
              obtain ⟨uq0, uq1, uq2⟩ := vu.cells
              obtain ⟨rq0, rq1, rq2⟩ := vr.cells
              go_wp2_with fail
              generalize w7.alloc (.cells #[.bool rn, .slice rA rs rc, .int .i64 re] 27) = W7 at *
              generalize w7.heap.size = gr at *
              refine (requal_any un rn uA rA us uc rs rc ul rl ue re _ vu.sl vr.sl).mono ?_
              rw [HLR.out (by simp) (by simp) (by simp) (by simp)]
              rintro e w8 ⟨rfl, hb8⟩
              clear uq0 uq1 uq2 rq0 rq1 rq2
              replace va := va.next hb8
              replace vb := vb.next hb8
              replace vc := vc.next hb8
              (try replace kf := kf.below hb8 kf.lt)
              replace vx := vx.next hb8
              replace vz := vz.next hb8
              replace vu := vu.next hb8
              replace vr := vr.next hb8
              replace hbw := bnext hbw hb8
              replace HT := Lib.hid (HT.out.next hb8)
              clear hb8
              go_wp2_with fail
              go_roundw
              case rel => exact ⟨0 + 1, by omega, by go_num, va, vb, vc, kf, HT.out, hbw⟩
              case measure => simp [intOf]
            · have hrk1 : (rk == 0) = false := by simp; omega
              go_wp2_with fail
              generalize w7.alloc (.cells #[.bool rn, .slice rA rs rc, .int .i64 re] 27) = W7 at *
              generalize w7.heap.size = gr at *
              go_roundw
              case rel => exact ⟨0 + 1, by omega, by go_num, va, vb, vc, kf, HT.out, hbw⟩
              case measure => simp [intOf]
          · have huk1 : (uk == 0) = false := by simp; omega
            go_wp2_with fail
            generalize w7.alloc (.cells #[.bool rn, .slice rA rs rc, .int .i64 re] 27) = W7 at *
            generalize w7.heap.size = gr at *
            go_roundw
            case rel => exact ⟨0 + 1, by omega, by go_num, va, vb, vc, kf, HT.out, hbw⟩
            case measure => simp [intOf]
        · have hzk1 : (zk == 0) = false := by simp; omega
          go_wp2_with fail
          generalize w7.alloc (.cells #[.bool rn, .slice rA rs rc, .int .i64 re] 27) = W7 at *
          generalize w7.heap.size = gr at *
          go_roundw
          case rel => exact ⟨0 + 1, by omega, by go_num, va, vb, vc, kf, HT.out, hbw⟩
          case measure => simp [intOf]
      · have hxk1 : (xk == 0) = false := by simp; omega
        go_wp2_with fail
        generalize w7.alloc (.cells #[.bool rn, .slice rA rs rc, .int .i64 re] 27) = W7 at *
        generalize w7.heap.size = gr at *
        go_roundw
        case rel => exact ⟨0 + 1, by omega, by go_num, va, vb, vc, kf, HT.out, hbw⟩
        case measure => simp [intOf]
    · have kf0 := kf.cell 1
      simp at kf0
      obtain ⟨⟨⟨xn, xl, xe⟩, xk⟩, hx⟩ : ∃ r, r = mulD ⟨an, al, ae⟩ ⟨bn, bl, be⟩ := ⟨_, rfl⟩
      have Hx := Lib.hid hx
      have HX0 := Lib.hid hx
      have hx1 := hx
      have hox := (mul_out hx).1
      dsimp only at hox
      clear hx
      obtain ⟨aq0, aq1, aq2⟩ := va.cells
      obtain ⟨bq0, bq1, bq2⟩ := vb.cells
      go_wp2_with fail
      refine (mulD_any an bn aA bA aS ac bs bc al bl ae be _ va.sl vb.sl HT.out (by omega) (by omega)).mono ?_
      rw [← Hx.out]
      rintro e w2 ⟨xA, xs, xc, rfl, hsx, hfx, hbx⟩
      dsimp only at hsx
      clear hfx
      clear aq0 aq1 aq2 bq0 bq1 bq2
      have hbx2 := bnext hbx (ballo w2 (.cells #[.bool xn, .slice xA xs xc, .int .i64 xe] 27))
      have vx := Var.new w2 xn xe hsx
      have hmx : xs ≤ 300 := by rw [← hsx.len]; omega
      replace va := va.next hbx2
      replace vb := vb.next hbx2
      replace vc := vc.next hbx2
      (try replace kf := kf.below hbx2 kf.lt)
      replace hbw := bnext hbw hbx2
      replace HT := Lib.hid (HT.out.next hbx2)
      clear hbx hbx2 hsx hox
      skip
      have HC : Hid (mulD ⟨bn, bl, be⟩ ⟨an, al, ae⟩ = (⟨xn, xl, xe⟩, xk)) := by unfold Hid; rw [mul_comm', ← hx1]
      clear hx1
      obtain ⟨aq0, aq1, aq2⟩ := va.cells
      obtain ⟨bq0, bq1, bq2⟩ := vb.cells
      go_wp2_with fail
      generalize w2.alloc (.cells #[.bool xn, .slice xA xs xc, .int .i64 xe] 27) = W2 at *
      generalize w2.heap.size = gx at *
      refine (mulD_any bn an bA aA bs bc aS ac bl al be ae _ vb.sl va.sl HT.out (by omega) (by omega)).mono ?_
      rw [HC.out]
      rintro e w3 ⟨yA, ys, yc, rfl, hsy, hfy, hby⟩
      dsimp only at hsy
      clear hfy
      clear aq0 aq1 aq2 bq0 bq1 bq2
      have hby2 := bnext hby (ballo w3 (.cells #[.bool xn, .slice yA ys yc, .int .i64 xe] 27))
      have vy := Var.new w3 xn xe hsy
      replace va := va.next hby2
      replace vb := vb.next hby2
      replace vc := vc.next hby2
      (try replace kf := kf.below hby2 kf.lt)
      replace vx := vx.next hby2
      replace hbw := bnext hbw hby2
      replace HT := Lib.hid (HT.out.next hby2)
      clear hby hby2 hsy HC
      obtain ⟨xq0, xq1, xq2⟩ := vx.cells
      obtain ⟨yq0, yq1, yq2⟩ := vy.cells
      go_wp2_with fail
      generalize w3.alloc (.cells #[.bool xn, .slice yA ys yc, .int .i64 xe] 27) = W3 at *
      generalize w3.heap.size = gy at *
      refine (requal_any xn xn xA yA xs xc ys yc xl xl xe xe _ vx.sl vy.sl).mono ?_
      rw [eqD_self]
      rintro e w4 ⟨rfl, hb4⟩
      clear xq0 xq1 xq2 yq0 yq1 yq2
      replace va := va.next hb4
      replace vb := vb.next hb4
      replace vc := vc.next hb4
      (try replace kf := kf.below hb4 kf.lt)
      replace vx := vx.next hb4
      replace vy := vy.next hb4
      replace hbw := bnext hbw hb4
      replace HT := Lib.hid (HT.out.next hb4)
      clear hb4
      clear vy
      obtain ⟨⟨⟨zn, zl, ze⟩, zk⟩, hz⟩ : ∃ r, r = mulD ⟨bn, bl, be⟩ ⟨cn, cl, ce⟩ := ⟨_, rfl⟩
      have Hz := Lib.hid hz
      have HZ0 := Lib.hid hz
      have hoz := (mul_out hz).1
      dsimp only at hoz
      clear hz
      obtain ⟨bq0, bq1, bq2⟩ := vb.cells
      obtain ⟨cq0, cq1, cq2⟩ := vc.cells
      go_wp2_with fail
      refine (mulD_any bn cn bA cA bs bc cs cc bl cl be ce _ vb.sl vc.sl HT.out (by omega) (by omega)).mono ?_
      rw [← Hz.out]
      rintro e w5 ⟨zA, zs, zc, rfl, hsz, hfz, hbz⟩
      dsimp only at hsz
      clear hfz
      clear bq0 bq1 bq2 cq0 cq1 cq2
      have hbz2 := bnext hbz (ballo w5 (.cells #[.bool zn, .slice zA zs zc, .int .i64 ze] 27))
      have vz := Var.new w5 zn ze hsz
      have hmz : zs ≤ 300 := by rw [← hsz.len]; omega
      replace va := va.next hbz2
      replace vb := vb.next hbz2
      replace vc := vc.next hbz2
      (try replace kf := kf.below hbz2 kf.lt)
      replace vx := vx.next hbz2
      replace hbw := bnext hbw hbz2
      replace HT := Lib.hid (HT.out.next hbz2)
      clear hbz hbz2 hsz hoz
      obtain ⟨⟨⟨un, ul, ue⟩, uk⟩, hu⟩ : ∃ r, r = mulD ⟨xn, xl, xe⟩ ⟨cn, cl, ce⟩ := ⟨_, rfl⟩
      have Hu := Lib.hid hu
      have HU0 := Lib.hid hu
      have hou := (mul_out hu).1
      dsimp only at hou
      clear hu
      obtain ⟨xq0, xq1, xq2⟩ := vx.cells
      obtain ⟨cq0, cq1, cq2⟩ := vc.cells
      go_wp2_with fail
      generalize w5.alloc (.cells #[.bool zn, .slice zA zs zc, .int .i64 ze] 27) = W5 at *
      generalize w5.heap.size = gz at *
      refine (mulD_any xn cn xA cA xs xc cs cc xl cl xe ce _ vx.sl vc.sl HT.out (by omega) (by omega)).mono ?_
      rw [← Hu.out]
      rintro e w6 ⟨uA, us, uc, rfl, hsu, hfu, hbu⟩
      dsimp only at hsu
      clear hfu
      clear xq0 xq1 xq2 cq0 cq1 cq2
      have hbu2 := bnext hbu (ballo w6 (.cells #[.bool un, .slice uA us uc, .int .i64 ue] 27))
      have vu := Var.new w6 un ue hsu
      have hmu : us ≤ 300 := by rw [← hsu.len]; omega
      replace va := va.next hbu2
      replace vb := vb.next hbu2
      replace vc := vc.next hbu2
      (try replace kf := kf.below hbu2 kf.lt)
      replace vx := vx.next hbu2
      replace vz := vz.next hbu2
      replace hbw := bnext hbw hbu2
      replace HT := Lib.hid (HT.out.next hbu2)
      clear hbu hbu2 hsu hou
      obtain ⟨⟨⟨rn, rl, re⟩, rk⟩, hr⟩ : ∃ r, r = mulD ⟨an, al, ae⟩ ⟨zn, zl, ze⟩ := ⟨_, rfl⟩
      have Hr := Lib.hid hr
      have HLR : Hid (xk = 0 → zk = 0 → uk = 0 → rk = 0 → eqD ⟨un, ul, ue⟩ ⟨rn, rl, re⟩ = true) := by unfold Hid; intro h0 h1 h2 h3; subst h0 h1 h2 h3; exact (eqD_iff _ _).2 (mul_assoc_law HX0.out.symm HZ0.out.symm HU0.out.symm hr.symm)
      clear HX0 HZ0 HU0
      have hor := (mul_out hr).1
      dsimp only at hor
      clear hr
      obtain ⟨aq0, aq1, aq2⟩ := va.cells
      obtain ⟨zq0, zq1, zq2⟩ := vz.cells
      go_wp2_with fail
      generalize w6.alloc (.cells #[.bool un, .slice uA us uc, .int .i64 ue] 27) = W6 at *
      generalize w6.heap.size = gu at *
      refine (mulD_any an zn aA zA aS ac zs zc al zl ae ze _ va.sl vz.sl HT.out (by omega) (by omega)).mono ?_
      rw [← Hr.out]
      rintro e w7 ⟨rA, rs, rc, rfl, hsr, hfr, hbr⟩
      dsimp only at hsr
      clear hfr
      clear aq0 aq1 aq2 zq0 zq1 zq2
      have hbr2 := bnext hbr (ballo w7 (.cells #[.bool rn, .slice rA rs rc, .int .i64 re] 27))
      have vr := Var.new w7 rn re hsr
      have hmr : rs ≤ 300 := by rw [← hsr.len]; omega
      replace va := va.next hbr2
      replace vb := vb.next hbr2
      replace vc := vc.next hbr2
      (try replace kf := kf.below hbr2 kf.lt)
      replace vx := vx.next hbr2
      replace vz := vz.next hbr2
      replace vu := vu.next hbr2
      replace hbw := bnext hbw hbr2
      replace HT := Lib.hid (HT.out.next hbr2)
      clear hbr hbr2 hsr hor
      obtain ⟨uq0, uq1, uq2⟩ := vu.cells
      obtain ⟨rq0, rq1, rq2⟩ := vr.cells
      by_cases hxk0 : xk = 0
      · subst hxk0
        by_cases hzk0 : zk = 0
        · subst hzk0
          by_cases huk0 : uk = 0
          · subst huk0
            by_cases hrk0 : rk = 0
            · subst hrk0
              clear uq0 uq1 uq2 rq0 rq1 rq2
              obtain ⟨uq0, uq1, uq2⟩ := vu.cells
              obtain ⟨rq0, rq1, rq2⟩ := vr.cells
              go_wp2_with fail
              generalize w7.alloc (.cells #[.bool rn, .slice rA rs rc, .int .i64 re] 27) = W7 at *
              generalize w7.heap.size = gr at *
              refine (requal_any un rn uA rA us uc rs rc ul rl ue re _ vu.sl vr.sl).mono ?_
              rw [HLR.out (by simp) (by simp) (by simp) (by simp)]
              rintro e w8 ⟨rfl, hb8⟩
              clear uq0 uq1 uq2 rq0 rq1 rq2
              replace va := va.next hb8
              replace vb := vb.next hb8
              replace vc := vc.next hb8
              (try replace kf := kf.below hb8 kf.lt)
              replace vx := vx.next hb8
              replace vz := vz.next hb8
              replace vu := vu.next hb8
              replace vr := vr.next hb8
              replace hbw := bnext hbw hb8
              replace HT := Lib.hid (HT.out.next hb8)
              clear hb8
              go_wp2_with fail
              go_roundw
              case rel => exact ⟨1 + 1, by omega, by go_num, va, vb, vc, kf, HT.out, hbw⟩
              case measure => simp [intOf]
            · have hrk1 : (rk == 0) = false := by simp; omega
              go_wp2_with fail
              generalize w7.alloc (.cells #[.bool rn, .slice rA rs rc, .int .i64 re] 27) = W7 at *
              generalize w7.heap.size = gr at *
              go_roundw
              case rel => exact ⟨1 + 1, by omega, by go_num, va, vb, vc, kf, HT.out, hbw⟩
              case measure => simp [intOf]
          · have huk1 : (uk == 0) = false := by simp; omega
            go_wp2_with fail
            generalize w7.alloc (.cells #[.bool rn, .slice rA rs rc, .int .i64 re] 27) = W7 at *
            generalize w7.heap.size = gr at *
            go_roundw
            case rel => exact ⟨1 + 1, by omega, by go_num, va, vb, vc, kf, HT.out, hbw⟩
            case measure => simp [intOf]
        · have hzk1 : (zk == 0) = false := by simp; omega
          go_wp2_with fail
          generalize w7.alloc (.cells #[.bool rn, .slice rA rs rc, .int .i64 re] 27) = W7 at *
          generalize w7.heap.size = gr at *
          go_roundw
          case rel => exact ⟨1 + 1, by omega, by go_num, va, vb, vc, kf, HT.out, hbw⟩
          case measure => simp [intOf]
      · have hxk1 : (xk == 0) = false := by simp; omega
        go_wp2_with fail
        generalize w7.alloc (.cells #[.bool rn, .slice rA rs rc, .int .i64 re] 27) = W7 at *
        generalize w7.heap.size = gr at *
        go_roundw
        case rel => exact ⟨1 + 1, by omega, by go_num, va, vb, vc, kf, HT.out, hbw⟩
        case measure => simp [intOf]
    · obtain ⟨⟨⟨sn, sl, se⟩, sk⟩, hs⟩ : ∃ r, r = addD ⟨bn, bl, be⟩ ⟨cn, cl, ce⟩ := ⟨_, rfl⟩
      have Hs := Lib.hid hs
      have HS0 := Lib.hid hs
      have hos := (add_out vb.sl.lt vc.sl.lt hs).1
      dsimp only at hos
      clear hs
      obtain ⟨bq0, bq1, bq2⟩ := vb.cells
      obtain ⟨cq0, cq1, cq2⟩ := vc.cells
      go_wp2_with fail
      refine (addD_any bn cn bA cA bs bc cs cc bl cl be ce _ vb.sl vc.sl HT.out (by omega) (by omega)).mono ?_
      rw [← Hs.out]
      rintro e w2 ⟨sA, ss, sc, rfl, hss, hfs, hbs⟩
      dsimp only at hss
      clear hfs
      clear bq0 bq1 bq2 cq0 cq1 cq2
      have hbs2 := bnext hbs (ballo w2 (.cells #[.bool sn, .slice sA ss sc, .int .i64 se] 27))
      have vs := Var.new w2 sn se hss
      have hms : ss ≤ 300 := by rw [← hss.len]; omega
      replace va := va.next hbs2
      replace vb := vb.next hbs2
      replace vc := vc.next hbs2
      (try replace kf := kf.below hbs2 kf.lt)
      replace hbw := bnext hbw hbs2
      replace HT := Lib.hid (HT.out.next hbs2)
      clear hbs hbs2 hss hos
      obtain ⟨⟨⟨pn, pl, pe⟩, pk⟩, hp⟩ : ∃ r, r = mulD ⟨an, al, ae⟩ ⟨sn, sl, se⟩ := ⟨_, rfl⟩
      have Hp := Lib.hid hp
      have HP0 := Lib.hid hp
      have hop := (mul_out hp).1
      dsimp only at hop
      clear hp
      obtain ⟨aq0, aq1, aq2⟩ := va.cells
      obtain ⟨sq0, sq1, sq2⟩ := vs.cells
      go_wp2_with fail
      generalize w2.alloc (.cells #[.bool sn, .slice sA ss sc, .int .i64 se] 27) = W2 at *
      generalize w2.heap.size = gs at *
      refine (mulD_any an sn aA sA aS ac ss sc al sl ae se _ va.sl vs.sl HT.out (by omega) (by omega)).mono ?_
      rw [← Hp.out]
      rintro e w3 ⟨pA, ps, pc, rfl, hsp, hfp, hbp⟩
      dsimp only at hsp
      clear hfp
      clear aq0 aq1 aq2 sq0 sq1 sq2
      have hbp2 := bnext hbp (ballo w3 (.cells #[.bool pn, .slice pA ps pc, .int .i64 pe] 27))
      have vp := Var.new w3 pn pe hsp
      have hmp : ps ≤ 300 := by rw [← hsp.len]; omega
      replace va := va.next hbp2
      replace vb := vb.next hbp2
      replace vc := vc.next hbp2
      (try replace kf := kf.below hbp2 kf.lt)
      replace vs := vs.next hbp2
      replace hbw := bnext hbw hbp2
      replace HT := Lib.hid (HT.out.next hbp2)
      clear hbp hbp2 hsp hop
      obtain ⟨⟨⟨qn, ql, qe⟩, qk⟩, hq⟩ : ∃ r, r = mulD ⟨an, al, ae⟩ ⟨bn, bl, be⟩ := ⟨_, rfl⟩
      have Hq := Lib.hid hq
      have HQ0 := Lib.hid hq
      have hoq := (mul_out hq).1
      dsimp only at hoq
      clear hq
      obtain ⟨aq0, aq1, aq2⟩ := va.cells
      obtain ⟨bq0, bq1, bq2⟩ := vb.cells
      go_wp2_with fail
      generalize w3.alloc (.cells #[.bool pn, .slice pA ps pc, .int .i64 pe] 27) = W3 at *
      generalize w3.heap.size = gp at *
      refine (mulD_any an bn aA bA aS ac bs bc al bl ae be _ va.sl vb.sl HT.out (by omega) (by omega)).mono ?_
      rw [← Hq.out]
      rintro e w4 ⟨qA, qs, qc, rfl, hsq, hfq, hbq⟩
      dsimp only at hsq
      clear hfq
      clear aq0 aq1 aq2 bq0 bq1 bq2
      have hbq2 := bnext hbq (ballo w4 (.cells #[.bool qn, .slice qA qs qc, .int .i64 qe] 27))
      have vq := Var.new w4 qn qe hsq
      have hmq : qs ≤ 300 := by rw [← hsq.len]; omega
      replace va := va.next hbq2
      replace vb := vb.next hbq2
      replace vc := vc.next hbq2
      (try replace kf := kf.below hbq2 kf.lt)
      replace vs := vs.next hbq2
      replace vp := vp.next hbq2
      replace hbw := bnext hbw hbq2
      replace HT := Lib.hid (HT.out.next hbq2)
      clear hbq hbq2 hsq hoq
      obtain ⟨⟨⟨rn, rl, re⟩, rk⟩, hr⟩ : ∃ r, r = mulD ⟨an, al, ae⟩ ⟨cn, cl, ce⟩ := ⟨_, rfl⟩
      have Hr := Lib.hid hr
      have HR0 := Lib.hid hr
      have hor := (mul_out hr).1
      dsimp only at hor
      clear hr
      obtain ⟨aq0, aq1, aq2⟩ := va.cells
      obtain ⟨cq0, cq1, cq2⟩ := vc.cells
      go_wp2_with fail
      generalize w4.alloc (.cells #[.bool qn, .slice qA qs qc, .int .i64 qe] 27) = W4 at *
      generalize w4.heap.size = gq at *
      refine (mulD_any an cn aA cA aS ac cs cc al cl ae ce _ va.sl vc.sl HT.out (by omega) (by omega)).mono ?_
      rw [← Hr.out]
      rintro e w5 ⟨rA, rs, rc, rfl, hsr, hfr, hbr⟩
      dsimp only at hsr
      clear hfr
      clear aq0 aq1 aq2 cq0 cq1 cq2
      have hbr2 := bnext hbr (ballo w5 (.cells #[.bool rn, .slice rA rs rc, .int .i64 re] 27))
      have vr := Var.new w5 rn re hsr
      have hmr : rs ≤ 300 := by rw [← hsr.len]; omega
      replace va := va.next hbr2
      replace vb := vb.next hbr2
      replace vc := vc.next hbr2
      (try replace kf := kf.below hbr2 kf.lt)
      replace vs := vs.next hbr2
      replace vp := vp.next hbr2
      replace vq := vq.next hbr2
      replace hbw := bnext hbw hbr2
      replace HT := Lib.hid (HT.out.next hbr2)
      clear hbr hbr2 hsr hor
      obtain ⟨⟨⟨tn, tl, te⟩, tk⟩, ht⟩ : ∃ r, r = addD ⟨qn, ql, qe⟩ ⟨rn, rl, re⟩ := ⟨_, rfl⟩
      have Ht := Lib.hid ht
      have HPT : Hid (sk = 0 → pk = 0 → qk = 0 → rk = 0 → tk = 0 → eqD ⟨pn, pl, pe⟩ ⟨tn, tl, te⟩ = true) := by unfold Hid; intro h0 h1 h2 h3 h4; subst h0 h1 h2 h3 h4; exact (eqD_iff _ _).2 (distrib_law vb.sl.lt vc.sl.lt HS0.out.symm HP0.out.symm HQ0.out.symm HR0.out.symm ht.symm)
      clear HS0 HP0 HQ0 HR0
      have hot := (add_out vq.sl.lt vr.sl.lt ht).1
      dsimp only at hot
      clear ht
      obtain ⟨qq0, qq1, qq2⟩ := vq.cells
      obtain ⟨rq0, rq1, rq2⟩ := vr.cells
      go_wp2_with fail
      generalize w5.alloc (.cells #[.bool rn, .slice rA rs rc, .int .i64 re] 27) = W5 at *
      generalize w5.heap.size = gr at *
      refine (addD_any qn rn qA rA qs qc rs rc ql rl qe re _ vq.sl vr.sl HT.out (by omega) (by omega)).mono ?_
      rw [← Ht.out]
      rintro e w6 ⟨tA, ts, tc, rfl, hst, hft, hbt⟩
      dsimp only at hst
      clear hft
      clear qq0 qq1 qq2 rq0 rq1 rq2
      have hbt2 := bnext hbt (ballo w6 (.cells #[.bool tn, .slice tA ts tc, .int .i64 te] 27))
      have vt := Var.new w6 tn te hst
      have hmt : ts ≤ 300 := by rw [← hst.len]; omega
      replace va := va.next hbt2
      replace vb := vb.next hbt2
      replace vc := vc.next hbt2
      (try replace kf := kf.below hbt2 kf.lt)
      replace vs := vs.next hbt2
      replace vp := vp.next hbt2
      replace vq := vq.next hbt2
      replace vr := vr.next hbt2
      replace hbw := bnext hbw hbt2
      replace HT := Lib.hid (HT.out.next hbt2)
      clear hbt hbt2 hst hot
      obtain ⟨pq0, pq1, pq2⟩ := vp.cells
      obtain ⟨tq0, tq1, tq2⟩ := vt.cells
      by_cases hsk0 : sk = 0
      · subst hsk0
        by_cases hpk0 : pk = 0
        · subst hpk0
          by_cases hqk0 : qk = 0
          · subst hqk0
            by_cases hrk0 : rk = 0
            · subst hrk0
              by_cases htk0 : tk = 0
              · subst htk0
                clear pq0 pq1 pq2 tq0 tq1 tq2
                obtain ⟨pq0, pq1, pq2⟩ := vp.cells
                obtain ⟨tq0, tq1, tq2⟩ := vt.cells
                go_wp2_with fail
                generalize w6.alloc (.cells #[.bool tn, .slice tA ts tc, .int .i64 te] 27) = W6 at *
                generalize w6.heap.size = gt at *
                refine (requal_any pn tn pA tA ps pc ts tc pl tl pe te _ vp.sl vt.sl).mono ?_
                rw [HPT.out (by simp) (by simp) (by simp) (by simp) (by simp)]
                rintro e w7 ⟨rfl, hb7⟩
                clear pq0 pq1 pq2 tq0 tq1 tq2
                replace va := va.next hb7
                replace vb := vb.next hb7
                replace vc := vc.next hb7
                (try replace kf := kf.below hb7 kf.lt)
                replace vs := vs.next hb7
                replace vp := vp.next hb7
                replace vq := vq.next hb7
                replace vr := vr.next hb7
                replace vt := vt.next hb7
                replace hbw := bnext hbw hb7
                replace HT := Lib.hid (HT.out.next hb7)
                clear hb7
                clear vs vp vq vr
                obtain ⟨⟨⟨dn, dl, de⟩, dk⟩, hd⟩ : ∃ r, r = subD ⟨an, al, ae⟩ ⟨bn, bl, be⟩ := ⟨_, rfl⟩
                have Hd := Lib.hid hd
                have HD0 := Lib.hid hd
                have hod := (sub_out va.sl.lt vb.sl.lt hd).1
                dsimp only at hod
                clear hd
                obtain ⟨aq0, aq1, aq2⟩ := va.cells
                obtain ⟨bq0, bq1, bq2⟩ := vb.cells
                go_wp2_with fail
                refine (subD_any an bn aA bA aS ac bs bc al bl ae be _ va.sl vb.sl HT.out (by omega) (by omega)).mono ?_
                rw [← Hd.out]
                rintro e w8 ⟨dA, ds, dc, rfl, hsd, hfd, hbd⟩
                dsimp only at hsd
                clear hfd
                clear aq0 aq1 aq2 bq0 bq1 bq2
                have hbd2 := bnext hbd (ballo w8 (.cells #[.bool dn, .slice dA ds dc, .int .i64 de] 27))
                have vd := Var.new w8 dn de hsd
                have hmd : ds ≤ 300 := by rw [← hsd.len]; omega
                replace va := va.next hbd2
                replace vb := vb.next hbd2
                replace vc := vc.next hbd2
                (try replace kf := kf.below hbd2 kf.lt)
                replace vt := vt.next hbd2
                replace hbw := bnext hbw hbd2
                replace HT := Lib.hid (HT.out.next hbd2)
                clear hbd hbd2 hsd hod
                obtain ⟨⟨⟨un, ul, ue⟩, uk⟩, hu⟩ : ∃ r, r = addD ⟨dn, dl, de⟩ ⟨bn, bl, be⟩ := ⟨_, rfl⟩
                have Hu := Lib.hid hu
                have HUA : Hid (dk = 0 → uk = 0 → eqD ⟨un, ul, ue⟩ ⟨an, al, ae⟩ = true) := by unfold Hid; intro h0 h1; subst h0 h1; exact (eqD_iff _ _).2 (subadd_law va.sl.lt vb.sl.lt HD0.out.symm hu.symm)
                clear HD0
                have hou := (add_out vd.sl.lt vb.sl.lt hu).1
                dsimp only at hou
                clear hu
                obtain ⟨dq0, dq1, dq2⟩ := vd.cells
                obtain ⟨bq0, bq1, bq2⟩ := vb.cells
                go_wp2_with fail
                generalize w8.alloc (.cells #[.bool dn, .slice dA ds dc, .int .i64 de] 27) = W8 at *
                generalize w8.heap.size = gd at *
                refine (addD_any dn bn dA bA ds dc bs bc dl bl de be _ vd.sl vb.sl HT.out (by omega) (by omega)).mono ?_
                rw [← Hu.out]
                rintro e w9 ⟨uA, us, uc, rfl, hsu, hfu, hbu⟩
                dsimp only at hsu
                clear hfu
                clear dq0 dq1 dq2 bq0 bq1 bq2
                have hbu2 := bnext hbu (ballo w9 (.cells #[.bool un, .slice uA us uc, .int .i64 ue] 27))
                have vu := Var.new w9 un ue hsu
                have hmu : us ≤ 300 := by rw [← hsu.len]; omega
                replace va := va.next hbu2
                replace vb := vb.next hbu2
                replace vc := vc.next hbu2
                (try replace kf := kf.below hbu2 kf.lt)
                replace vt := vt.next hbu2
                replace vd := vd.next hbu2
                replace hbw := bnext hbw hbu2
                replace HT := Lib.hid (HT.out.next hbu2)
                clear hbu hbu2 hsu hou
                obtain ⟨uq0, uq1, uq2⟩ := vu.cells
                obtain ⟨aq0, aq1, aq2⟩ := va.cells
                by_cases hdk0 : dk = 0
                · subst hdk0
                  by_cases huk0 : uk = 0
                  · subst huk0
                    clear uq0 uq1 uq2 aq0 aq1 aq2
                    obtain ⟨uq0, uq1, uq2⟩ := vu.cells
                    obtain ⟨aq0, aq1, aq2⟩ := va.cells
                    go_wp2_with fail
                    generalize w9.alloc (.cells #[.bool un, .slice uA us uc, .int .i64 ue] 27) = W9 at *
                    generalize w9.heap.size = gu at *
                    refine (requal_any un an uA aA us uc aS ac ul al ue ae _ vu.sl va.sl).mono ?_
                    rw [HUA.out (by simp) (by simp)]
                    rintro e w10 ⟨rfl, hb10⟩
                    clear uq0 uq1 uq2 aq0 aq1 aq2
                    replace va := va.next hb10
                    replace vb := vb.next hb10
                    replace vc := vc.next hb10
                    (try replace kf := kf.below hb10 kf.lt)
                    replace vt := vt.next hb10
                    replace vd := vd.next hb10
                    replace vu := vu.next hb10
                    replace hbw := bnext hbw hb10
                    replace HT := Lib.hid (HT.out.next hb10)
                    clear hb10
                    go_wp2_with fail
                    go_ret
                    exact ⟨rfl, hbw⟩
                  · have huk1 : (uk == 0) = false := by simp; omega
                    go_wp2_with fail
                    generalize w9.alloc (.cells #[.bool un, .slice uA us uc, .int .i64 ue] 27) = W9 at *
                    generalize w9.heap.size = gu at *
                    go_ret
                    exact ⟨rfl, hbw⟩
                · have hdk1 : (dk == 0) = false := by simp; omega
                  go_wp2_with fail
                  generalize w9.alloc (.cells #[.bool un, .slice uA us uc, .int .i64 ue] 27) = W9 at *
                  generalize w9.heap.size = gu at *
                  go_ret
                  exact ⟨rfl, hbw⟩
              · have htk1 : (tk == 0) = false := by simp; omega
                clear pq0 pq1 pq2 tq0 tq1 tq2
                clear vs vp vq vr
                obtain ⟨⟨⟨dn, dl, de⟩, dk⟩, hd⟩ : ∃ r, r = subD ⟨an, al, ae⟩ ⟨bn, bl, be⟩ := ⟨_, rfl⟩
                have Hd := Lib.hid hd
                have HD0 := Lib.hid hd
                have hod := (sub_out va.sl.lt vb.sl.lt hd).1
                dsimp only at hod
                clear hd
                obtain ⟨aq0, aq1, aq2⟩ := va.cells
                obtain ⟨bq0, bq1, bq2⟩ := vb.cells
                go_wp2_with fail
                generalize w6.alloc (.cells #[.bool tn, .slice tA ts tc, .int .i64 te] 27) = W6 at *
                generalize w6.heap.size = gt at *
                refine (subD_any an bn aA bA aS ac bs bc al bl ae be _ va.sl vb.sl HT.out (by omega) (by omega)).mono ?_
                rw [← Hd.out]
                rintro e w7 ⟨dA, ds, dc, rfl, hsd, hfd, hbd⟩
                dsimp only at hsd
                clear hfd
                clear aq0 aq1 aq2 bq0 bq1 bq2
                have hbd2 := bnext hbd (ballo w7 (.cells #[.bool dn, .slice dA ds dc, .int .i64 de] 27))
                have vd := Var.new w7 dn de hsd
                have hmd : ds ≤ 300 := by rw [← hsd.len]; omega
                replace va := va.next hbd2
                replace vb := vb.next hbd2
                replace vc := vc.next hbd2
                (try replace kf := kf.below hbd2 kf.lt)
                replace vt := vt.next hbd2
                replace hbw := bnext hbw hbd2
                replace HT := Lib.hid (HT.out.next hbd2)
                clear hbd hbd2 hsd hod
                obtain ⟨⟨⟨un, ul, ue⟩, uk⟩, hu⟩ : ∃ r, r = addD ⟨dn, dl, de⟩ ⟨bn, bl, be⟩ := ⟨_, rfl⟩
                have Hu := Lib.hid hu
                have HUA : Hid (dk = 0 → uk = 0 → eqD ⟨un, ul, ue⟩ ⟨an, al, ae⟩ = true) := by unfold Hid; intro h0 h1; subst h0 h1; exact (eqD_iff _ _).2 (subadd_law va.sl.lt vb.sl.lt HD0.out.symm hu.symm)
                clear HD0
                have hou := (add_out vd.sl.lt vb.sl.lt hu).1
                dsimp only at hou
                clear hu
                obtain ⟨dq0, dq1, dq2⟩ := vd.cells
                obtain ⟨bq0, bq1, bq2⟩ := vb.cells
                go_wp2_with fail
                generalize w7.alloc (.cells #[.bool dn, .slice dA ds dc, .int .i64 de] 27) = W7 at *
                generalize w7.heap.size = gd at *
                refine (addD_any dn bn dA bA ds dc bs bc dl bl de be _ vd.sl vb.sl HT.out (by omega) (by omega)).mono ?_
                rw [← Hu.out]
                rintro e w8 ⟨uA, us, uc, rfl, hsu, hfu, hbu⟩
                dsimp only at hsu
                clear hfu
                clear dq0 dq1 dq2 bq0 bq1 bq2
                have hbu2 := bnext hbu (ballo w8 (.cells #[.bool un, .slice uA us uc, .int .i64 ue] 27))
                have vu := Var.new w8 un ue hsu
                have hmu : us ≤ 300 := by rw [← hsu.len]; omega
                replace va := va.next hbu2
                replace vb := vb.next hbu2
                replace vc := vc.next hbu2
                (try replace kf := kf.below hbu2 kf.lt)
                replace vt := vt.next hbu2
                replace vd := vd.next hbu2
                replace hbw := bnext hbw hbu2
                replace HT := Lib.hid (HT.out.next hbu2)
                clear hbu hbu2 hsu hou
                obtain ⟨uq0, uq1, uq2⟩ := vu.cells
                obtain ⟨aq0, aq1, aq2⟩ := va.cells
                by_cases hdk0 : dk = 0
                · subst hdk0
                  by_cases huk0 : uk = 0
                  · subst huk0
                    clear uq0 uq1 uq2 aq0 aq1 aq2
                    obtain ⟨uq0, uq1, uq2⟩ := vu.cells
                    obtain ⟨aq0, aq1, aq2⟩ := va.cells
                    go_wp2_with fail
                    generalize w8.alloc (.cells #[.bool un, .slice uA us uc, .int .i64 ue] 27) = W8 at *
                    generalize w8.heap.size = gu at *
                    refine (requal_any un an uA aA us uc aS ac ul al ue ae _ vu.sl va.sl).mono ?_
                    rw [HUA.out (by simp) (by simp)]
                    rintro e w9 ⟨rfl, hb9⟩
                    clear uq0 uq1 uq2 aq0 aq1 aq2
                    replace va := va.next hb9
                    replace vb := vb.next hb9
                    replace vc := vc.next hb9
                    (try replace kf := kf.below hb9 kf.lt)
                    replace vt := vt.next hb9
                    replace vd := vd.next hb9
                    replace vu := vu.next hb9
                    replace hbw := bnext hbw hb9
                    replace HT := Lib.hid (HT.out.next hb9)
                    clear hb9
                    go_wp2_with fail
                    go_ret
                    exact ⟨rfl, hbw⟩
                  · have huk1 : (uk == 0) = false := by simp; omega
                    go_wp2_with fail
                    generalize w8.alloc (.cells #[.bool un, .slice uA us uc, .int .i64 ue] 27) = W8 at *
                    generalize w8.heap.size = gu at *
                    go_ret
                    exact ⟨rfl, hbw⟩
                · have hdk1 : (dk == 0) = false := by simp; omega
                  go_wp2_with fail
                  generalize w8.alloc (.cells #[.bool un, .slice uA us uc, .int .i64 ue] 27) = W8 at *
                  generalize w8.heap.size = gu at *
                  go_ret
                  exact ⟨rfl, hbw⟩
            · have hrk1 : (rk == 0) = false := by simp; omega
              clear pq0 pq1 pq2 tq0 tq1 tq2
              clear vs vp vq vr
              obtain ⟨⟨⟨dn, dl, de⟩, dk⟩, hd⟩ : ∃ r, r = subD ⟨an, al, ae⟩ ⟨bn, bl, be⟩ := ⟨_, rfl⟩
              have Hd := Lib.hid hd
              have HD0 := Lib.hid hd
              have hod := (sub_out va.sl.lt vb.sl.lt hd).1
              dsimp only at hod
              clear hd
              obtain ⟨aq0, aq1, aq2⟩ := va.cells
              obtain ⟨bq0, bq1, bq2⟩ := vb.cells
              go_wp2_with fail
              generalize w6.alloc (.cells #[.bool tn, .slice tA ts tc, .int .i64 te] 27) = W6 at *
              generalize w6.heap.size = gt at *
              refine (subD_any an bn aA bA aS ac bs bc al bl ae be _ va.sl vb.sl HT.out (by omega) (by omega)).mono ?_
              rw [← Hd.out]
              rintro e w7 ⟨dA, ds, dc, rfl, hsd, hfd, hbd⟩
              dsimp only at hsd
              clear hfd
              clear aq0 aq1 aq2 bq0 bq1 bq2
              have hbd2 := bnext hbd (ballo w7 (.cells #[.bool dn, .slice dA ds dc, .int .i64 de] 27))
              have vd := Var.new w7 dn de hsd
              have hmd : ds ≤ 300 := by rw [← hsd.len]; omega
              replace va := va.next hbd2
              replace vb := vb.next hbd2
              replace vc := vc.next hbd2
              (try replace kf := kf.below hbd2 kf.lt)
              replace vt := vt.next hbd2
              replace hbw := bnext hbw hbd2
              replace HT := Lib.hid (HT.out.next hbd2)
              clear hbd hbd2 hsd hod
              obtain ⟨⟨⟨un, ul, ue⟩, uk⟩, hu⟩ : ∃ r, r = addD ⟨dn, dl, de⟩ ⟨bn, bl, be⟩ := ⟨_, rfl⟩
              have Hu := Lib.hid hu
              have HUA : Hid (dk = 0 → uk = 0 → eqD ⟨un, ul, ue⟩ ⟨an, al, ae⟩ = true) := by unfold Hid; intro h0 h1; subst h0 h1; exact (eqD_iff _ _).2 (subadd_law va.sl.lt vb.sl.lt HD0.out.symm hu.symm)
              clear HD0
              have hou := (add_out vd.sl.lt vb.sl.lt hu).1
              dsimp only at hou
              clear hu
              obtain ⟨dq0, dq1, dq2⟩ := vd.cells
              obtain ⟨bq0, bq1, bq2⟩ := vb.cells
              go_wp2_with fail
              generalize w7.alloc (.cells #[.bool dn, .slice dA ds dc, .int .i64 de] 27) = W7 at *
              generalize w7.heap.size = gd at *
              refine (addD_any dn bn dA bA ds dc bs bc dl bl de be _ vd.sl vb.sl HT.out (by omega) (by omega)).mono ?_
              rw [← Hu.out]
              rintro e w8 ⟨uA, us, uc, rfl, hsu, hfu, hbu⟩
              dsimp only at hsu
              clear hfu
              clear dq0 dq1 dq2 bq0 bq1 bq2
              have hbu2 := bnext hbu (ballo w8 (.cells #[.bool un, .slice uA us uc, .int .i64 ue] 27))
              have vu := Var.new w8 un ue hsu
              have hmu : us ≤ 300 := by rw [← hsu.len]; omega
              replace va := va.next hbu2
              replace vb := vb.next hbu2
              replace vc := vc.next hbu2
              (try replace kf := kf.below hbu2 kf.lt)
              replace vt := vt.next hbu2
              replace vd := vd.next hbu2
              replace hbw := bnext hbw hbu2
              replace HT := Lib.hid (HT.out.next hbu2)
              clear hbu hbu2 hsu hou
              obtain ⟨uq0, uq1, uq2⟩ := vu.cells
              obtain ⟨aq0, aq1, aq2⟩ := va.cells
              by_cases hdk0 : dk = 0
              · subst hdk0
                by_cases huk0 : uk = 0
                · subst huk0
                  clear uq0 uq1 uq2 aq0 aq1 aq2
                  obtain ⟨uq0, uq1, uq2⟩ := vu.cells
                  obtain ⟨aq0, aq1, aq2⟩ := va.cells
                  go_wp2_with fail
                  generalize w8.alloc (.cells #[.bool un, .slice uA us uc, .int .i64 ue] 27) = W8 at *
                  generalize w8.heap.size = gu at *
                  refine (requal_any un an uA aA us uc aS ac ul al ue ae _ vu.sl va.sl).mono ?_
                  rw [HUA.out (by simp) (by simp)]
                  rintro e w9 ⟨rfl, hb9⟩
                  clear uq0 uq1 uq2 aq0 aq1 aq2
                  replace va := va.next hb9
                  replace vb := vb.next hb9
                  replace vc := vc.next hb9
                  (try replace kf := kf.below hb9 kf.lt)
                  replace vt := vt.next hb9
                  replace vd := vd.next hb9
                  replace vu := vu.next hb9
                  replace hbw := bnext hbw hb9
                  replace HT := Lib.hid (HT.out.next hb9)
                  clear hb9
                  go_wp2_with fail
                  go_ret
                  exact ⟨rfl, hbw⟩
                · have huk1 : (uk == 0) = false := by simp; omega
                  go_wp2_with fail
                  generalize w8.alloc (.cells #[.bool un, .slice uA us uc, .int .i64 ue] 27) = W8 at *
                  generalize w8.heap.size = gu at *
                  go_ret
                  exact ⟨rfl, hbw⟩
              · have hdk1 : (dk == 0) = false := by simp; omega
                go_wp2_with fail
                generalize w8.alloc (.cells #[.bool un, .slice uA us uc, .int .i64 ue] 27) = W8 at *
                generalize w8.heap.size = gu at *
                go_ret
                exact ⟨rfl, hbw⟩
          · have hqk1 : (qk == 0) = false := by simp; omega
            clear pq0 pq1 pq2 tq0 tq1 tq2
            clear vs vp vq vr
            obtain ⟨⟨⟨dn, dl, de⟩, dk⟩, hd⟩ : ∃ r, r = subD ⟨an, al, ae⟩ ⟨bn, bl, be⟩ := ⟨_, rfl⟩
            have Hd := Lib.hid hd
            have HD0 := Lib.hid hd
            have hod := (sub_out va.sl.lt vb.sl.lt hd).1
            dsimp only at hod
            clear hd
            obtain ⟨aq0, aq1, aq2⟩ := va.cells
            obtain ⟨bq0, bq1, bq2⟩ := vb.cells
            go_wp2_with fail
            generalize w6.alloc (.cells #[.bool tn, .slice tA ts tc, .int .i64 te] 27) = W6 at *
            generalize w6.heap.size = gt at *
            refine (subD_any an bn aA bA aS ac bs bc al bl ae be _ va.sl vb.sl HT.out (by omega) (by omega)).mono ?_
            rw [← Hd.out]
            rintro e w7 ⟨dA, ds, dc, rfl, hsd, hfd, hbd⟩
            dsimp only at hsd
            clear hfd
            clear aq0 aq1 aq2 bq0 bq1 bq2
            have hbd2 := bnext hbd (ballo w7 (.cells #[.bool dn, .slice dA ds dc, .int .i64 de] 27))
            have vd := Var.new w7 dn de hsd
            have hmd : ds ≤ 300 := by rw [← hsd.len]; omega
            replace va := va.next hbd2
            replace vb := vb.next hbd2
            replace vc := vc.next hbd2
            (try replace kf := kf.below hbd2 kf.lt)
            replace vt := vt.next hbd2
            replace hbw := bnext hbw hbd2
            replace HT := Lib.hid (HT.out.next hbd2)
            clear hbd hbd2 hsd hod
            obtain ⟨⟨⟨un, ul, ue⟩, uk⟩, hu⟩ : ∃ r, r = addD ⟨dn, dl, de⟩ ⟨bn, bl, be⟩ := ⟨_, rfl⟩
            have Hu := Lib.hid hu
            have HUA : Hid (dk = 0 → uk = 0 → eqD ⟨un, ul, ue⟩ ⟨an, al, ae⟩ = true) := by unfold Hid; intro h0 h1; subst h0 h1; exact (eqD_iff _ _).2 (subadd_law va.sl.lt vb.sl.lt HD0.out.symm hu.symm)
            clear HD0
            have hou := (add_out vd.sl.lt vb.sl.lt hu).1
            dsimp only at hou
            clear hu
            obtain ⟨dq0, dq1, dq2⟩ := vd.cells
            obtain ⟨bq0, bq1, bq2⟩ := vb.cells
            go_wp2_with fail
            generalize w7.alloc (.cells #[.bool dn, .slice dA ds dc, .int .i64 de] 27) = W7 at *
            generalize w7.heap.size = gd at *
            refine (addD_any dn bn dA bA ds dc bs bc dl bl de be _ vd.sl vb.sl HT.out (by omega) (by omega)).mono ?_
            rw [← Hu.out]
            rintro e w8 ⟨uA, us, uc, rfl, hsu, hfu, hbu⟩
            dsimp only at hsu
            clear hfu
            clear dq0 dq1 dq2 bq0 bq1 bq2
            have hbu2 := bnext hbu (ballo w8 (.cells #[.bool un, .slice uA us uc, .int .i64 ue] 27))
            have vu := Var.new w8 un ue hsu
            have hmu : us ≤ 300 := by rw [← hsu.len]; omega
            replace va := va.next hbu2
            replace vb := vb.next hbu2
            replace vc := vc.next hbu2
            (try replace kf := kf.below hbu2 kf.lt)
            replace vt := vt.next hbu2
            replace vd := vd.next hbu2
            replace hbw := bnext hbw hbu2
            replace HT := Lib.hid (HT.out.next hbu2)
            clear hbu hbu2 hsu hou
            obtain ⟨uq0, uq1, uq2⟩ := vu.cells
            obtain ⟨aq0, aq1, aq2⟩ := va.cells
            by_cases hdk0 : dk = 0
            · subst hdk0
              by_cases huk0 : uk = 0
              · subst huk0
                clear uq0 uq1 uq2 aq0 aq1 aq2
                obtain ⟨uq0, uq1, uq2⟩ := vu.cells
                obtain ⟨aq0, aq1, aq2⟩ := va.cells
                go_wp2_with fail
                generalize w8.alloc (.cells #[.bool un, .slice uA us uc, .int .i64 ue] 27) = W8 at *
                generalize w8.heap.size = gu at *
                refine (requal_any un an uA aA us uc aS ac ul al ue ae _ vu.sl va.sl).mono ?_
                rw [HUA.out (by simp) (by simp)]
                rintro e w9 ⟨rfl, hb9⟩
                clear uq0 uq1 uq2 aq0 aq1 aq2
                replace va := va.next hb9
                replace vb := vb.next hb9
                replace vc := vc.next hb9
                (try replace kf := kf.below hb9 kf.lt)
                replace vt := vt.next hb9
                replace vd := vd.next hb9
                replace vu := vu.next hb9
                replace hbw := bnext hbw hb9
                replace HT := Lib.hid (HT.out.next hb9)
                clear hb9
                go_wp2_with fail
                go_ret
                exact ⟨rfl, hbw⟩
              · have huk1 : (uk == 0) = false := by simp; omega
                go_wp2_with fail
                generalize w8.alloc (.cells #[.bool un, .slice uA us uc, .int .i64 ue] 27) = W8 at *
                generalize w8.heap.size = gu at *
                go_ret
                exact ⟨rfl, hbw⟩
            · have hdk1 : (dk == 0) = false := by simp; omega
              go_wp2_with fail
              generalize w8.alloc (.cells #[.bool un, .slice uA us uc, .int .i64 ue] 27) = W8 at *
              generalize w8.heap.size = gu at *
              go_ret
              exact ⟨rfl, hbw⟩
        · have hpk1 : (pk == 0) = false := by simp; omega
          clear pq0 pq1 pq2 tq0 tq1 tq2
          clear vs vp vq vr
          obtain ⟨⟨⟨dn, dl, de⟩, dk⟩, hd⟩ : ∃ r, r = subD ⟨an, al, ae⟩ ⟨bn, bl, be⟩ := ⟨_, rfl⟩
          have Hd := Lib.hid hd
          have HD0 := Lib.hid hd
          have hod := (sub_out va.sl.lt vb.sl.lt hd).1
          dsimp only at hod
          clear hd
          obtain ⟨aq0, aq1, aq2⟩ := va.cells
          obtain ⟨bq0, bq1, bq2⟩ := vb.cells
          go_wp2_with fail
          generalize w6.alloc (.cells #[.bool tn, .slice tA ts tc, .int .i64 te] 27) = W6 at *
          generalize w6.heap.size = gt at *
          refine (subD_any an bn aA bA aS ac bs bc al bl ae be _ va.sl vb.sl HT.out (by omega) (by omega)).mono ?_
          rw [← Hd.out]
          rintro e w7 ⟨dA, ds, dc, rfl, hsd, hfd, hbd⟩
          dsimp only at hsd
          clear hfd
          clear aq0 aq1 aq2 bq0 bq1 bq2
          have hbd2 := bnext hbd (ballo w7 (.cells #[.bool dn, .slice dA ds dc, .int .i64 de] 27))
          have vd := Var.new w7 dn de hsd
          have hmd : ds ≤ 300 := by rw [← hsd.len]; omega
          replace va := va.next hbd2
          replace vb := vb.next hbd2
          replace vc := vc.next hbd2
          (try replace kf := kf.below hbd2 kf.lt)
          replace vt := vt.next hbd2
          replace hbw := bnext hbw hbd2
          replace HT := Lib.hid (HT.out.next hbd2)
          clear hbd hbd2 hsd hod
          obtain ⟨⟨⟨un, ul, ue⟩, uk⟩, hu⟩ : ∃ r, r = addD ⟨dn, dl, de⟩ ⟨bn, bl, be⟩ := ⟨_, rfl⟩
          have Hu := Lib.hid hu
          have HUA : Hid (dk = 0 → uk = 0 → eqD ⟨un, ul, ue⟩ ⟨an, al, ae⟩ = true) := by unfold Hid; intro h0 h1; subst h0 h1; exact (eqD_iff _ _).2 (subadd_law va.sl.lt vb.sl.lt HD0.out.symm hu.symm)
          clear HD0
          have hou := (add_out vd.sl.lt vb.sl.lt hu).1
          dsimp only at hou
          clear hu
          obtain ⟨dq0, dq1, dq2⟩ := vd.cells
          obtain ⟨bq0, bq1, bq2⟩ := vb.cells
          go_wp2_with fail
          generalize w7.alloc (.cells #[.bool dn, .slice dA ds dc, .int .i64 de] 27) = W7 at *
          generalize w7.heap.size = gd at *
          refine (addD_any dn bn dA bA ds dc bs bc dl bl de be _ vd.sl vb.sl HT.out (by omega) (by omega)).mono ?_
          rw [← Hu.out]
          rintro e w8 ⟨uA, us, uc, rfl, hsu, hfu, hbu⟩
          dsimp only at hsu
          clear hfu
          clear dq0 dq1 dq2 bq0 bq1 bq2
          have hbu2 := bnext hbu (ballo w8 (.cells #[.bool un, .slice uA us uc, .int .i64 ue] 27))
          have vu := Var.new w8 un ue hsu
          have hmu : us ≤ 300 := by rw [← hsu.len]; omega
          replace va := va.next hbu2
          replace vb := vb.next hbu2
          replace vc := vc.next hbu2
          (try replace kf := kf.below hbu2 kf.lt)
          replace vt := vt.next hbu2
          replace vd := vd.next hbu2
          replace hbw := bnext hbw hbu2
          replace HT := Lib.hid (HT.out.next hbu2)
          clear hbu hbu2 hsu hou
          obtain ⟨uq0, uq1, uq2⟩ := vu.cells
          obtain ⟨aq0, aq1, aq2⟩ := va.cells
          by_cases hdk0 : dk = 0
          · subst hdk0
            by_cases huk0 : uk = 0
            · subst huk0
              clear uq0 uq1 uq2 aq0 aq1 aq2
              obtain ⟨uq0, uq1, uq2⟩ := vu.cells
              obtain ⟨aq0, aq1, aq2⟩ := va.cells
              go_wp2_with fail
              generalize w8.alloc (.cells #[.bool un, .slice uA us uc, .int .i64 ue] 27) = W8 at *
              generalize w8.heap.size = gu at *
              refine (requal_any un an uA aA us uc aS ac ul al ue ae _ vu.sl va.sl).mono ?_
              rw [HUA.out (by simp) (by simp)]
              rintro e w9 ⟨rfl, hb9⟩
              clear uq0 uq1 uq2 aq0 aq1 aq2
              replace va := va.next hb9
              replace vb := vb.next hb9
              replace vc := vc.next hb9
              (try replace kf := kf.below hb9 kf.lt)
              replace vt := vt.next hb9
              replace vd := vd.next hb9
              replace vu := vu.next hb9
              replace hbw := bnext hbw hb9
              replace HT := Lib.hid (HT.out.next hb9)
              clear hb9
              go_wp2_with fail
              go_ret
              exact ⟨rfl, hbw⟩
            · have huk1 : (uk == 0) = false := by simp; omega
              go_wp2_with fail
              generalize w8.alloc (.cells #[.bool un, .slice uA us uc, .int .i64 ue] 27) = W8 at *
              generalize w8.heap.size = gu at *
              go_ret
              exact ⟨rfl, hbw⟩
          · have hdk1 : (dk == 0) = false := by simp; omega
            go_wp2_with fail
            generalize w8.alloc (.cells #[.bool un, .slice uA us uc, .int .i64 ue] 27) = W8 at *
            generalize w8.heap.size = gu at *
            go_ret
            exact ⟨rfl, hbw⟩
      · have hsk1 : (sk == 0) = false := by simp; omega
        clear pq0 pq1 pq2 tq0 tq1 tq2
        clear vs vp vq vr
        obtain ⟨⟨⟨dn, dl, de⟩, dk⟩, hd⟩ : ∃ r, r = subD ⟨an, al, ae⟩ ⟨bn, bl, be⟩ := ⟨_, rfl⟩
        have Hd := Lib.hid hd
        have HD0 := Lib.hid hd
        have hod := (sub_out va.sl.lt vb.sl.lt hd).1
        dsimp only at hod
        clear hd
        obtain ⟨aq0, aq1, aq2⟩ := va.cells
        obtain ⟨bq0, bq1, bq2⟩ := vb.cells
        go_wp2_with fail
        generalize w6.alloc (.cells #[.bool tn, .slice tA ts tc, .int .i64 te] 27) = W6 at *
        generalize w6.heap.size = gt at *
        refine (subD_any an bn aA bA aS ac bs bc al bl ae be _ va.sl vb.sl HT.out (by omega) (by omega)).mono ?_
        rw [← Hd.out]
        rintro e w7 ⟨dA, ds, dc, rfl, hsd, hfd, hbd⟩
        dsimp only at hsd
        clear hfd
        clear aq0 aq1 aq2 bq0 bq1 bq2
        have hbd2 := bnext hbd (ballo w7 (.cells #[.bool dn, .slice dA ds dc, .int .i64 de] 27))
        have vd := Var.new w7 dn de hsd
        have hmd : ds ≤ 300 := by rw [← hsd.len]; omega
        replace va := va.next hbd2
        replace vb := vb.next hbd2
        replace vc := vc.next hbd2
        (try replace kf := kf.below hbd2 kf.lt)
        replace vt := vt.next hbd2
        replace hbw := bnext hbw hbd2
        replace HT := Lib.hid (HT.out.next hbd2)
        clear hbd hbd2 hsd hod
        obtain ⟨⟨⟨un, ul, ue⟩, uk⟩, hu⟩ : ∃ r, r = addD ⟨dn, dl, de⟩ ⟨bn, bl, be⟩ := ⟨_, rfl⟩
        have Hu := Lib.hid hu
        have HUA : Hid (dk = 0 → uk = 0 → eqD ⟨un, ul, ue⟩ ⟨an, al, ae⟩ = true) := by unfold Hid; intro h0 h1; subst h0 h1; exact (eqD_iff _ _).2 (subadd_law va.sl.lt vb.sl.lt HD0.out.symm hu.symm)
        clear HD0
        have hou := (add_out vd.sl.lt vb.sl.lt hu).1
        dsimp only at hou
        clear hu
        obtain ⟨dq0, dq1, dq2⟩ := vd.cells
        obtain ⟨bq0, bq1, bq2⟩ := vb.cells
        go_wp2_with fail
        generalize w7.alloc (.cells #[.bool dn, .slice dA ds dc, .int .i64 de] 27) = W7 at *
        generalize w7.heap.size = gd at *
        refine (addD_any dn bn dA bA ds dc bs bc dl bl de be _ vd.sl vb.sl HT.out (by omega) (by omega)).mono ?_
        rw [← Hu.out]
        rintro e w8 ⟨uA, us, uc, rfl, hsu, hfu, hbu⟩
        dsimp only at hsu
        clear hfu
        clear dq0 dq1 dq2 bq0 bq1 bq2
        have hbu2 := bnext hbu (ballo w8 (.cells #[.bool un, .slice uA us uc, .int .i64 ue] 27))
        have vu := Var.new w8 un ue hsu
        have hmu : us ≤ 300 := by rw [← hsu.len]; omega
        replace va := va.next hbu2
        replace vb := vb.next hbu2
        replace vc := vc.next hbu2
        (try replace kf := kf.below hbu2 kf.lt)
        replace vt := vt.next hbu2
        replace vd := vd.next hbu2
        replace hbw := bnext hbw hbu2
        replace HT := Lib.hid (HT.out.next hbu2)
        clear hbu hbu2 hsu hou
        obtain ⟨uq0, uq1, uq2⟩ := vu.cells
        obtain ⟨aq0, aq1, aq2⟩ := va.cells
        by_cases hdk0 : dk = 0
        · subst hdk0
          by_cases huk0 : uk = 0
          · subst huk0
            clear uq0 uq1 uq2 aq0 aq1 aq2
            obtain ⟨uq0, uq1, uq2⟩ := vu.cells
            obtain ⟨aq0, aq1, aq2⟩ := va.cells
            go_wp2_with fail
            generalize w8.alloc (.cells #[.bool un, .slice uA us uc, .int .i64 ue] 27) = W8 at *
            generalize w8.heap.size = gu at *
            refine (requal_any un an uA aA us uc aS ac ul al ue ae _ vu.sl va.sl).mono ?_
            rw [HUA.out (by simp) (by simp)]
            rintro e w9 ⟨rfl, hb9⟩
            clear uq0 uq1 uq2 aq0 aq1 aq2
            replace va := va.next hb9
            replace vb := vb.next hb9
            replace vc := vc.next hb9
            (try replace kf := kf.below hb9 kf.lt)
            replace vt := vt.next hb9
            replace vd := vd.next hb9
            replace vu := vu.next hb9
            replace hbw := bnext hbw hb9
            replace HT := Lib.hid (HT.out.next hb9)
            clear hb9
            go_wp2_with fail
            go_ret
            exact ⟨rfl, hbw⟩
          · have huk1 : (uk == 0) = false := by simp; omega
            go_wp2_with fail
            generalize w8.alloc (.cells #[.bool un, .slice uA us uc, .int .i64 ue] 27) = W8 at *
            generalize w8.heap.size = gu at *
            go_ret
            exact ⟨rfl, hbw⟩
        · have hdk1 : (dk == 0) = false := by simp; omega
          go_wp2_with fail
          generalize w8.alloc (.cells #[.bool un, .slice uA us uc, .int .i64 ue] 27) = W8 at *
          generalize w8.heap.size = gu at *
          go_ret
          exact ⟨rfl, hbw⟩

end Go.Proofs.YtjhokljoomeilaaDoor
