/- The law DyadicComputes: its walk. (Printed by gen_l11.py.) -/
import Derived.Test.YtjhokljoomeilaaGreatDoorR7
import Derived.Test.YtjhokljoomeilaaGreatDoorE1
namespace Go.Proofs.YtjhokljoomeilaaGreatDoor
open Go.RowKit Pl Go.Shelf

theorem dlong_two (g : Nat) (a b : DV) (w : World) (t : TypeId) (h : Blk w g t #[.bool a.neg, .slice a.A a.n a.c, .int .i64 a.x, .bool b.neg, .slice b.A b.n b.c, .int .i64 b.x]) :
    Calls Tryz.prog 7 #[.slice (some ⟨g, 0, none⟩) 2 2] w fun e w' => e = .returned (.bool (decide (300 < a.n ∨ 300 < b.n))) ∧ Below w.heap.size w w' := by
  refine (dlong_any g 2 (fun j => if j = 0 then a else b) w (by omega) h.lt (fun j hj => by
    have h3 : j = 0 ∨ j = 1 := by omega
    rcases h3 with rfl | rfl <;> exact ⟨by rw [h.cell]; rfl, by rw [h.cell]; rfl, by rw [h.cell]; rfl⟩)).mono ?_
  rintro e w' ⟨rfl, hb⟩
  refine ⟨?_, hb⟩
  rw [longD]
  congr 2
  refine decide_eq_decide.2 ⟨?_, ?_⟩
  · rintro ⟨j, hj, h⟩
    have h3 : j = 0 ∨ j = 1 := by omega
    rcases h3 with rfl | rfl
    · exact .inl h
    · exact .inr h
  · rintro (h | h)
    · exact ⟨0, by omega, h⟩
    · exact ⟨1, by omega, h⟩

set_option maxRecDepth 100000 in
set_option maxHeartbeats 8000000 in
theorem lcomputes_any (an : Bool) (aA : Option Addr) (aS ac : Nat) (al : List Nat) (ae : Int) (bn : Bool) (bA : Option Addr) (bs bc : Nat) (bl : List Nat) (be : Int) (k : Int) (w : World) (ha : SL w aA aS ac al) (hb : SL w bA bs bc bl) (ht : Tabs w) :
    Calls Tryz.prog 3 #[.agg #[.bool an, .slice aA aS ac, .int .i64 ae], .agg #[.bool bn, .slice bA bs bc, .int .i64 be], .int .i64 k] w fun e w' => e = .returned (.bool true) ∧ Below w.heap.size w w' := by
  have HT := Lib.hid ht
  clear ht
  go_enter Tryz.func3, Tryz.ntmps3
  go_wp2_with fail
  have hbw := bnext (ballo w (.cells #[.bool an, .slice aA aS ac, .int .i64 ae] 24)) (ballo (w.alloc (.cells #[.bool an, .slice aA aS ac, .int .i64 ae] 24)) (.cells #[.bool bn, .slice bA bs bc, .int .i64 be] 24))
  have va := (Var.new w an ae ha).next (ballo (w.alloc (.cells #[.bool an, .slice aA aS ac, .int .i64 ae] 24)) (.cells #[.bool bn, .slice bA bs bc, .int .i64 be] 24))
  have vb := Var.newAt (w.alloc (.cells #[.bool an, .slice aA aS ac, .int .i64 ae] 24)) bn be (g := w.heap.size + 1) (by simp) (hb.below (ballo w (.cells #[.bool an, .slice aA aS ac, .int .i64 ae] 24)))
  generalize (w.alloc (.cells #[.bool an, .slice aA aS ac, .int .i64 ae] 24)).alloc (.cells #[.bool bn, .slice bA bs bc, .int .i64 be] 24) = W0 at *
  refine (awake_any _ (HT.out.next hbw)).mono ?_
  rintro e w1 ⟨rfl, hb1⟩
  replace va := va.next hb1
  replace vb := vb.next hb1
  replace hbw := bnext hbw hb1
  clear hb1
  obtain ⟨aq0, aq1, aq2⟩ := va.cells
  obtain ⟨bq0, bq1, bq2⟩ := vb.cells
  have kL := Blk.new w1 24 #[.bool an, .slice aA aS ac, .int .i64 ae, .bool bn, .slice bA bs bc, .int .i64 be]
  have hbl := ballo w1 (.cells #[.bool an, .slice aA aS ac, .int .i64 ae, .bool bn, .slice bA bs bc, .int .i64 be] 24)
  go_wp2_with fail
  replace va := va.next hbl
  replace vb := vb.next hbl
  replace hbw := bnext hbw hbl
  generalize w1.alloc (.cells #[.bool an, .slice aA aS ac, .int .i64 ae, .bool bn, .slice bA bs bc, .int .i64 be] 24) = WL at *
  refine (dlong_two _ ⟨an, aA, aS, ac, ae⟩ ⟨bn, bA, bs, bc, be⟩ _ _ kL).mono ?_
  rintro e wl ⟨rfl, hbl2⟩
  dsimp only
  clear aq0 aq1 aq2 bq0 bq1 bq2
  replace va := va.next hbl2
  replace vb := vb.next hbl2
  replace hbw := bnext hbw hbl2
  clear hbl hbl2 kL
  by_cases hlong : 300 < aS ∨ 300 < bs
  · rw [decide_eq_true hlong]
    go_wp2_with fail
    refine (awake_any _ (HT.out.next hbw)).mono ?_
    rintro e w2 ⟨rfl, hb2⟩
    replace va := va.next hb2
    replace vb := vb.next hb2
    replace hbw := bnext hbw hb2
    clear hb2
    go_wp2_with fail
    go_ret
    exact ⟨rfl, hbw⟩
  rw [decide_eq_false hlong]
  have hma : aS ≤ 300 := by omega
  have hmb : bs ≤ 300 := by omega
  clear hlong
  obtain ⟨⟨⟨rn, rl, re⟩, rk⟩, hr⟩ : ∃ r, r = addD ⟨an, al, ae⟩ ⟨bn, bl, be⟩ := ⟨_, rfl⟩
  have Hr := Lib.hid hr
  clear hr
  obtain ⟨aq0, aq1, aq2⟩ := va.cells
  obtain ⟨bq0, bq1, bq2⟩ := vb.cells
  go_wp2_with fail
  clear aq0 aq1 aq2 bq0 bq1 bq2
  refine (addD_any an bn aA bA aS ac bs bc al bl ae be _ va.sl vb.sl (HT.out.next hbw) (by omega) (by omega)).mono ?_
  rw [← Hr.out]
  rintro e w3 ⟨rpA, rps, rpc, rfl, hsp, hfp, hc⟩
  dsimp only at hsp
  have hba := ballo w3 (.cells #[.bool rn, .slice rpA rps rpc, .int .i64 re] 24)
  replace va := va.next hc
  replace vb := vb.next hc
  replace hbw := bnext hbw hc
  clear hc hfp
  have gp1 : w.heap.size + 1 < w3.heap.size := vb.lt
  have kp := Blk.new w3 24 #[.bool rn, .slice rpA rps rpc, .int .i64 re]
  replace hsp := hsp.below hba
  replace va := va.next hba
  replace vb := vb.next hba
  replace hbw := bnext hbw hba
  clear hba
  obtain ⟨aq0, aq1, aq2⟩ := va.cells
  obtain ⟨bq0, bq1, bq2⟩ := vb.cells
  go_wp2_with fail
  clear aq0 aq1 aq2 bq0 bq1 bq2
  generalize w3.alloc (.cells #[.bool rn, .slice rpA rps rpc, .int .i64 re] 24) = WP at *
  generalize w3.heap.size = gp at *
  refine (radd_any an aA aS ac al ae bn bA bs bc bl be _ va.sl vb.sl (by omega) (by omega)).mono ?_
  rw [← Hr.out]
  rintro e w4 ⟨rxA, rxs, rxc, rfl, hsx, hox, hc⟩
  dsimp only at hsx
  replace hsp := hsp.below hc
  replace va := va.next hc
  replace vb := vb.next hc
  replace kp := kp.below hc kp.lt
  replace hbw := bnext hbw hc
  clear hc hox
  have hba := ballo w4 (.cells #[.bool rn, .slice rxA rxs rxc, .int .i64 re] 24)
  have gx1 : gp < w4.heap.size := kp.lt
  have kx := Blk.new w4 24 #[.bool rn, .slice rxA rxs rxc, .int .i64 re]
  replace hsx := hsx.below hba
  replace hsp := hsp.below hba
  replace va := va.next hba
  replace vb := vb.next hba
  replace kp := kp.below hba kp.lt
  replace hbw := bnext hbw hba
  clear hba
  obtain ⟨pq0, pq1, pq2⟩ := kp.cells3
  obtain ⟨xq0, xq1, xq2⟩ := kx.cells3
  go_wp2_with fail
  clear pq0 pq1 pq2 xq0 xq1 xq2
  generalize w4.alloc (.cells #[.bool rn, .slice rxA rxs rxc, .int .i64 re] 24) = WX at *
  generalize w4.heap.size = gx at *
  refine (is_same rn rpA rxA rps rpc rxs rxc rl re rk _ hsp hsx).mono ?_
  rintro e w5 ⟨rfl, hc⟩
  replace va := va.next hc
  replace vb := vb.next hc
  replace kp := kp.below hc kp.lt
  replace kx := kx.below hc kx.lt
  replace hbw := bnext hbw hc
  clear hc hsp hsx
  obtain ⟨aq0, aq1, aq2⟩ := va.cells
  obtain ⟨bq0, bq1, bq2⟩ := vb.cells
  go_wp2_with fail
  clear aq0 aq1 aq2 bq0 bq1 bq2
  obtain ⟨⟨⟨sn, sl, se⟩, sk⟩, hs⟩ : ∃ r, r = subD ⟨an, al, ae⟩ ⟨bn, bl, be⟩ := ⟨_, rfl⟩
  have Hs := Lib.hid hs
  clear hs
  refine (subD_any an bn aA bA aS ac bs bc al bl ae be _ va.sl vb.sl (HT.out.next hbw) (by omega) (by omega)).mono ?_
  rw [← Hs.out]
  rintro e w6 ⟨spA, sps, spc, rfl, hsp, hfp, hc⟩
  dsimp only at hsp
  have op : Off spA sps gp := Off.fresh hfp kp.lt
  have oq : Off spA sps gx := Off.fresh hfp kx.lt
  replace va := va.next hc
  replace vb := vb.next hc
  replace kp := kp.below hc kp.lt
  replace kx := kx.below hc kx.lt
  replace hbw := bnext hbw hc
  clear hc hfp
  obtain ⟨z0, z1, z2⟩ := kp.cells3
  have f0 := kp.frozen 0
  have f1 := kp.frozen 1
  have f2 := kp.frozen 2
  replace kp := kp.set3 (.bool sn) (.slice spA sps spc) (.int .i64 se)
  replace kx := kx.off3 (g := gp) (by omega) (.bool sn) (.slice spA sps spc) (.int .i64 se)
  replace hsp := hsp.off3 op (.bool sn) (.slice spA sps spc) (.int .i64 se)
  replace va : Var _ _ _ _ _ _ _ _ := ⟨va.blk.off3 (g := gp) (by omega) (.bool sn) (.slice spA sps spc) (.int .i64 se), va.sl.off3 (g := gp) (Off.old ha (by omega)) (.bool sn) (.slice spA sps spc) (.int .i64 se)⟩
  replace vb : Var _ _ _ _ _ _ _ _ := ⟨vb.blk.off3 (g := gp) (by omega) (.bool sn) (.slice spA sps spc) (.int .i64 se), vb.sl.off3 (g := gp) (Off.old hb (by omega)) (.bool sn) (.slice spA sps spc) (.int .i64 se)⟩
  replace hbw := below_set3 (g := gp) hbw (by omega) (.bool sn) (.slice spA sps spc) (.int .i64 se)
  obtain ⟨aq0, aq1, aq2⟩ := va.cells
  obtain ⟨bq0, bq1, bq2⟩ := vb.cells
  go_wp2_with fail
  clear aq0 aq1 aq2 bq0 bq1 bq2
  clear z0 z1 z2 f0 f1 f2
  generalize ((w6.setCell ⟨gp, 0, none⟩ (.bool sn)).setCell ⟨gp, 1, none⟩ (.slice spA sps spc)).setCell ⟨gp, 2, none⟩ (.int .i64 se) = WP at *
  refine (rsub_any an aA aS ac al ae bn bA bs bc bl be _ va.sl vb.sl (by omega) (by omega)).mono ?_
  rw [← Hs.out]
  rintro e w7 ⟨sxA, sxs, sxc, rfl, hsx, hox, hc⟩
  dsimp only at hsx
  replace hsp := hsp.below hc
  have ox : Off sxA sxs gx := hox gx kx.lt ⟨Off.old ha (by omega), Off.old hb (by omega)⟩
  replace va := va.next hc
  replace vb := vb.next hc
  replace kp := kp.below hc kp.lt
  replace kx := kx.below hc kx.lt
  replace hbw := bnext hbw hc
  clear hc hox
  obtain ⟨z0, z1, z2⟩ := kx.cells3
  have f0 := kx.frozen 0
  have f1 := kx.frozen 1
  have f2 := kx.frozen 2
  replace kx := kx.set3 (.bool sn) (.slice sxA sxs sxc) (.int .i64 se)
  replace kp := kp.off3 (g := gx) (by omega) (.bool sn) (.slice sxA sxs sxc) (.int .i64 se)
  replace hsx := hsx.off3 ox (.bool sn) (.slice sxA sxs sxc) (.int .i64 se)
  replace hsp := hsp.off3 oq (.bool sn) (.slice sxA sxs sxc) (.int .i64 se)
  replace va : Var _ _ _ _ _ _ _ _ := ⟨va.blk.off3 (g := gx) (by omega) (.bool sn) (.slice sxA sxs sxc) (.int .i64 se), va.sl.off3 (g := gx) (Off.old ha (by omega)) (.bool sn) (.slice sxA sxs sxc) (.int .i64 se)⟩
  replace vb : Var _ _ _ _ _ _ _ _ := ⟨vb.blk.off3 (g := gx) (by omega) (.bool sn) (.slice sxA sxs sxc) (.int .i64 se), vb.sl.off3 (g := gx) (Off.old hb (by omega)) (.bool sn) (.slice sxA sxs sxc) (.int .i64 se)⟩
  replace hbw := below_set3 (g := gx) hbw (by omega) (.bool sn) (.slice sxA sxs sxc) (.int .i64 se)
  obtain ⟨pq0, pq1, pq2⟩ := kp.cells3
  obtain ⟨xq0, xq1, xq2⟩ := kx.cells3
  go_wp2_with fail
  clear pq0 pq1 pq2 xq0 xq1 xq2
  clear z0 z1 z2 f0 f1 f2
  generalize ((w7.setCell ⟨gx, 0, none⟩ (.bool sn)).setCell ⟨gx, 1, none⟩ (.slice sxA sxs sxc)).setCell ⟨gx, 2, none⟩ (.int .i64 se) = WX at *
  clear op oq ox
  refine (is_same sn spA sxA sps spc sxs sxc sl se sk _ hsp hsx).mono ?_
  rintro e w8 ⟨rfl, hc⟩
  replace va := va.next hc
  replace vb := vb.next hc
  replace kp := kp.below hc kp.lt
  replace kx := kx.below hc kx.lt
  replace hbw := bnext hbw hc
  clear hc hsp hsx
  obtain ⟨aq0, aq1, aq2⟩ := va.cells
  obtain ⟨bq0, bq1, bq2⟩ := vb.cells
  go_wp2_with fail
  clear aq0 aq1 aq2 bq0 bq1 bq2
  obtain ⟨⟨⟨mn, ml, me⟩, mk⟩, hm⟩ : ∃ r, r = mulD ⟨an, al, ae⟩ ⟨bn, bl, be⟩ := ⟨_, rfl⟩
  have Hm := Lib.hid hm
  clear hm
  refine (mulD_any an bn aA bA aS ac bs bc al bl ae be _ va.sl vb.sl (HT.out.next hbw) (by omega) (by omega)).mono ?_
  rw [← Hm.out]
  rintro e w9 ⟨mpA, mps, mpc, rfl, hsp, hfp, hc⟩
  dsimp only at hsp
  have op : Off mpA mps gp := Off.fresh hfp kp.lt
  have oq : Off mpA mps gx := Off.fresh hfp kx.lt
  replace va := va.next hc
  replace vb := vb.next hc
  replace kp := kp.below hc kp.lt
  replace kx := kx.below hc kx.lt
  replace hbw := bnext hbw hc
  clear hc hfp
  obtain ⟨z0, z1, z2⟩ := kp.cells3
  have f0 := kp.frozen 0
  have f1 := kp.frozen 1
  have f2 := kp.frozen 2
  replace kp := kp.set3 (.bool mn) (.slice mpA mps mpc) (.int .i64 me)
  replace kx := kx.off3 (g := gp) (by omega) (.bool mn) (.slice mpA mps mpc) (.int .i64 me)
  replace hsp := hsp.off3 op (.bool mn) (.slice mpA mps mpc) (.int .i64 me)
  replace va : Var _ _ _ _ _ _ _ _ := ⟨va.blk.off3 (g := gp) (by omega) (.bool mn) (.slice mpA mps mpc) (.int .i64 me), va.sl.off3 (g := gp) (Off.old ha (by omega)) (.bool mn) (.slice mpA mps mpc) (.int .i64 me)⟩
  replace vb : Var _ _ _ _ _ _ _ _ := ⟨vb.blk.off3 (g := gp) (by omega) (.bool mn) (.slice mpA mps mpc) (.int .i64 me), vb.sl.off3 (g := gp) (Off.old hb (by omega)) (.bool mn) (.slice mpA mps mpc) (.int .i64 me)⟩
  replace hbw := below_set3 (g := gp) hbw (by omega) (.bool mn) (.slice mpA mps mpc) (.int .i64 me)
  obtain ⟨aq0, aq1, aq2⟩ := va.cells
  obtain ⟨bq0, bq1, bq2⟩ := vb.cells
  go_wp2_with fail
  clear aq0 aq1 aq2 bq0 bq1 bq2
  clear z0 z1 z2 f0 f1 f2
  generalize ((w9.setCell ⟨gp, 0, none⟩ (.bool mn)).setCell ⟨gp, 1, none⟩ (.slice mpA mps mpc)).setCell ⟨gp, 2, none⟩ (.int .i64 me) = WP at *
  refine (rmul_any an aA aS ac al ae bn bA bs bc bl be _ va.sl vb.sl (by omega) (by omega)).mono ?_
  rw [← Hm.out]
  rintro e w10 ⟨mxA, mxs, mxc, rfl, hsx, hox, hc⟩
  dsimp only at hsx
  replace hsp := hsp.below hc
  have ox : Off mxA mxs gx := hox gx kx.lt ⟨Off.old ha (by omega), Off.old hb (by omega)⟩
  replace va := va.next hc
  replace vb := vb.next hc
  replace kp := kp.below hc kp.lt
  replace kx := kx.below hc kx.lt
  replace hbw := bnext hbw hc
  clear hc hox
  obtain ⟨z0, z1, z2⟩ := kx.cells3
  have f0 := kx.frozen 0
  have f1 := kx.frozen 1
  have f2 := kx.frozen 2
  replace kx := kx.set3 (.bool mn) (.slice mxA mxs mxc) (.int .i64 me)
  replace kp := kp.off3 (g := gx) (by omega) (.bool mn) (.slice mxA mxs mxc) (.int .i64 me)
  replace hsx := hsx.off3 ox (.bool mn) (.slice mxA mxs mxc) (.int .i64 me)
  replace hsp := hsp.off3 oq (.bool mn) (.slice mxA mxs mxc) (.int .i64 me)
  replace va : Var _ _ _ _ _ _ _ _ := ⟨va.blk.off3 (g := gx) (by omega) (.bool mn) (.slice mxA mxs mxc) (.int .i64 me), va.sl.off3 (g := gx) (Off.old ha (by omega)) (.bool mn) (.slice mxA mxs mxc) (.int .i64 me)⟩
  replace vb : Var _ _ _ _ _ _ _ _ := ⟨vb.blk.off3 (g := gx) (by omega) (.bool mn) (.slice mxA mxs mxc) (.int .i64 me), vb.sl.off3 (g := gx) (Off.old hb (by omega)) (.bool mn) (.slice mxA mxs mxc) (.int .i64 me)⟩
  replace hbw := below_set3 (g := gx) hbw (by omega) (.bool mn) (.slice mxA mxs mxc) (.int .i64 me)
  obtain ⟨pq0, pq1, pq2⟩ := kp.cells3
  obtain ⟨xq0, xq1, xq2⟩ := kx.cells3
  go_wp2_with fail
  clear pq0 pq1 pq2 xq0 xq1 xq2
  clear z0 z1 z2 f0 f1 f2
  generalize ((w10.setCell ⟨gx, 0, none⟩ (.bool mn)).setCell ⟨gx, 1, none⟩ (.slice mxA mxs mxc)).setCell ⟨gx, 2, none⟩ (.int .i64 me) = WX at *
  clear op oq ox
  refine (is_same mn mpA mxA mps mpc mxs mxc ml me mk _ hsp hsx).mono ?_
  rintro e w11 ⟨rfl, hc⟩
  replace va := va.next hc
  replace vb := vb.next hc
  replace kp := kp.below hc kp.lt
  replace kx := kx.below hc kx.lt
  replace hbw := bnext hbw hc
  clear hc hsp hsx
  obtain ⟨aq0, aq1, aq2⟩ := va.cells
  go_wp2_with fail
  clear aq0 aq1 aq2
  obtain ⟨⟨⟨tn, tl, te⟩, tk⟩, ht⟩ : ∃ r, r = scaleD ⟨an, al, ae⟩ k := ⟨_, rfl⟩
  have Ht := Lib.hid ht
  clear ht
  refine (scaleD_any an aA aS ac al ae k _ va.sl (HT.out.next hbw) (by omega)).mono ?_
  rw [← Ht.out]
  rintro e w12 ⟨tpA, tps, tpc, rfl, hsp, hfp, hc⟩
  dsimp only at hsp
  have op : Off tpA tps gp := Off.fresh hfp kp.lt
  have oq : Off tpA tps gx := Off.fresh hfp kx.lt
  replace va := va.next hc
  replace vb := vb.next hc
  replace kp := kp.below hc kp.lt
  replace kx := kx.below hc kx.lt
  replace hbw := bnext hbw hc
  clear hc hfp
  obtain ⟨z0, z1, z2⟩ := kp.cells3
  have f0 := kp.frozen 0
  have f1 := kp.frozen 1
  have f2 := kp.frozen 2
  replace kp := kp.set3 (.bool tn) (.slice tpA tps tpc) (.int .i64 te)
  replace kx := kx.off3 (g := gp) (by omega) (.bool tn) (.slice tpA tps tpc) (.int .i64 te)
  replace hsp := hsp.off3 op (.bool tn) (.slice tpA tps tpc) (.int .i64 te)
  replace va : Var _ _ _ _ _ _ _ _ := ⟨va.blk.off3 (g := gp) (by omega) (.bool tn) (.slice tpA tps tpc) (.int .i64 te), va.sl.off3 (g := gp) (Off.old ha (by omega)) (.bool tn) (.slice tpA tps tpc) (.int .i64 te)⟩
  replace vb : Var _ _ _ _ _ _ _ _ := ⟨vb.blk.off3 (g := gp) (by omega) (.bool tn) (.slice tpA tps tpc) (.int .i64 te), vb.sl.off3 (g := gp) (Off.old hb (by omega)) (.bool tn) (.slice tpA tps tpc) (.int .i64 te)⟩
  replace hbw := below_set3 (g := gp) hbw (by omega) (.bool tn) (.slice tpA tps tpc) (.int .i64 te)
  obtain ⟨aq0, aq1, aq2⟩ := va.cells
  go_wp2_with fail
  clear aq0 aq1 aq2
  clear z0 z1 z2 f0 f1 f2
  generalize ((w12.setCell ⟨gp, 0, none⟩ (.bool tn)).setCell ⟨gp, 1, none⟩ (.slice tpA tps tpc)).setCell ⟨gp, 2, none⟩ (.int .i64 te) = WP at *
  refine (rscale_any an aA aS ac al ae k _ va.sl (by omega)).mono ?_
  rw [← Ht.out]
  rintro e w13 ⟨txA, txs, txc, rfl, hsx, hox, hc⟩
  dsimp only at hsx
  replace hsp := hsp.below hc
  have ox : Off txA txs gx := hox gx kx.lt (Off.old ha (by omega))
  replace va := va.next hc
  replace vb := vb.next hc
  replace kp := kp.below hc kp.lt
  replace kx := kx.below hc kx.lt
  replace hbw := bnext hbw hc
  clear hc hox
  obtain ⟨z0, z1, z2⟩ := kx.cells3
  have f0 := kx.frozen 0
  have f1 := kx.frozen 1
  have f2 := kx.frozen 2
  replace kx := kx.set3 (.bool tn) (.slice txA txs txc) (.int .i64 te)
  replace kp := kp.off3 (g := gx) (by omega) (.bool tn) (.slice txA txs txc) (.int .i64 te)
  replace hsx := hsx.off3 ox (.bool tn) (.slice txA txs txc) (.int .i64 te)
  replace hsp := hsp.off3 oq (.bool tn) (.slice txA txs txc) (.int .i64 te)
  replace va : Var _ _ _ _ _ _ _ _ := ⟨va.blk.off3 (g := gx) (by omega) (.bool tn) (.slice txA txs txc) (.int .i64 te), va.sl.off3 (g := gx) (Off.old ha (by omega)) (.bool tn) (.slice txA txs txc) (.int .i64 te)⟩
  replace vb : Var _ _ _ _ _ _ _ _ := ⟨vb.blk.off3 (g := gx) (by omega) (.bool tn) (.slice txA txs txc) (.int .i64 te), vb.sl.off3 (g := gx) (Off.old hb (by omega)) (.bool tn) (.slice txA txs txc) (.int .i64 te)⟩
  replace hbw := below_set3 (g := gx) hbw (by omega) (.bool tn) (.slice txA txs txc) (.int .i64 te)
  obtain ⟨pq0, pq1, pq2⟩ := kp.cells3
  obtain ⟨xq0, xq1, xq2⟩ := kx.cells3
  go_wp2_with fail
  clear pq0 pq1 pq2 xq0 xq1 xq2
  clear z0 z1 z2 f0 f1 f2
  generalize ((w13.setCell ⟨gx, 0, none⟩ (.bool tn)).setCell ⟨gx, 1, none⟩ (.slice txA txs txc)).setCell ⟨gx, 2, none⟩ (.int .i64 te) = WX at *
  clear op oq ox
  refine (is_same tn tpA txA tps tpc txs txc tl te tk _ hsp hsx).mono ?_
  rintro e w14 ⟨rfl, hc⟩
  replace va := va.next hc
  replace vb := vb.next hc
  replace kp := kp.below hc kp.lt
  replace kx := kx.below hc kx.lt
  replace hbw := bnext hbw hc
  clear hc hsp hsx
  go_wp2_with fail
  go_ret
  exact ⟨rfl, hbw⟩

end Go.Proofs.YtjhokljoomeilaaGreatDoor
