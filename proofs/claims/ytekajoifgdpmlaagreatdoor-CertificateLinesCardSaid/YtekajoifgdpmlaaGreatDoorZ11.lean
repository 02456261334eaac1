/- Bundle 11: what the laws' walks stand on: C6, C7. -/
import Derived.Test.YtekajoifgdpmlaaGreatDoorZ8
import Derived.Test.YtekajoifgdpmlaaGreatDoorZ10
/-! C6 -/
namespace Go.Proofs.YtekajoifgdpmlaaGreatDoor
open Go.RowKit Pl Go.Shelf

def lkV (N : Nat) (x : Lk) : Bool := vld x.h && decide (0 < sgnD x.h) && boxV x.tube && decide (x.tube.length = N) && frV x.e && decide (x.e.c.length = N) && sqV x.v N
def ctV (x : Ct) : Bool := decide (8 ≤ x.prec) && decide (x.prec ≤ 256) && decide (1 ≤ x.order) && decide (x.order ≤ 15) && decide (x.links.length ≤ 1000) &&
  decide (1 ≤ x.start.c.length) && decide (x.start.c.length ≤ 4) && frV x.start && idM x.start.a && !x.links.any (fun l => !lkV x.start.c.length l)

theorem sign_R (vs : List Value) (d : Dy) (w : World) (h : RD w vs d) (hd : Bd d) : Calls Tryz.prog 63 #[.agg vs.toArray] w fun e w' => e = .returned (.int .i64 (sgnD d)) ∧ Below w.heap.size w w' := by
  obtain ⟨A, n, c, rfl, hs⟩ := h
  have := hs.len
  unfold Bd at hd
  exact signD_any d.neg A n c d.l d.e w hs (by omega)

set_option maxRecDepth 100000 in
set_option maxHeartbeats 4000000 in
theorem certValid1_any (N gN : Nat) (vs : List Value) (x : Lk) (w : World) (h : RL w vs x) (hx : BdL x) (kN : Blk w gN 3 #[.int .i64 N]) : Calls Tryz.prog 62 (#[.agg vs.toArray] ++ #[.pointer (some ⟨gN, 0, none⟩)]) w (Says (!lkV N x) w) := by
  obtain ⟨H, hn, hc, T, tn, tc, A, n, c, B, m, d, C, p, q, V, vn, vc, rfl, h1, h2, h3, h4, h5, h6⟩ := h
  obtain ⟨⟨dn, dl, de⟩, tube, fe, v⟩ := x
  dsimp only at h1 h2 h3 h4 h5 h6 ⊢
  have e : (#[.agg ([.bool dn, .slice H hn hc, .int .i64 de, .slice T tn tc, .slice A n c, .slice B m d, .slice C p q, .slice V vn vc] : List Value).toArray] ++ #[.pointer (some ⟨gN, 0, none⟩)] : Array Value) = #[.agg #[.bool dn, .slice H hn hc, .int .i64 de, .slice T tn tc, .slice A n c, .slice B m d, .slice C p q, .slice V vn vc], .pointer (some ⟨gN, 0, none⟩)] := by simp
  rw [e]
  clear e
  have HV : Hid (lkV N ⟨⟨dn, dl, de⟩, tube, fe, v⟩ = (vld ⟨dn, dl, de⟩ && decide (0 < sgnD ⟨dn, dl, de⟩) && boxV tube && decide (tn = N) && frV fe && decide (n = N) && sqV v N)) := by unfold Hid lkV; rw [h2.len, h3.len]
  have r1 : RD w [.bool dn, .slice H hn hc, .int .i64 de] ⟨dn, dl, de⟩ := ⟨H, hn, hc, rfl, h1⟩
  have r2 : RF w [.slice A n c, .slice B m d, .slice C p q] fe := ⟨A, n, c, B, m, d, C, p, q, rfl, h3, h4, h5⟩
  have H1 := Lib.hid (fun W (hb : Below w.heap.size w W) => valid_R _ _ W (lasts_RD w W _ _ r1 hb) hx.h)
  have H2 := Lib.hid (fun W (hb : Below w.heap.size w W) => sign_R _ _ W (lasts_RD w W _ _ r1 hb) hx.h)
  have H3 := Lib.hid (fun W (hb : Below w.heap.size w W) => boxValid_any T tn tc tube W (h2.next lasts_RI hb) hx.t)
  have H4 := Lib.hid (fun W (hb : Below w.heap.size w W) => frameValid_any _ fe W (lasts_RF w W _ _ r2 hb) hx.e)
  have H5 := Lib.hid (fun W (hb : Below w.heap.size w W) => square_any N V vn vc v W (h6.next lasts_RM hb) hx.v)
  have m1 := h2.cap
  have m2 := h2.max
  have m3 := h3.cap
  have m4 := h3.max
  have hb0 := ballo w (.cells #[.bool dn, .slice H hn hc, .int .i64 de, .slice T tn tc, .slice A n c, .slice B m d, .slice C p q, .slice V vn vc] 98)
  have k0 := Blk.new w 98 #[.bool dn, .slice H hn hc, .int .i64 de, .slice T tn tc, .slice A n c, .slice B m d, .slice C p q, .slice V vn vc]
  replace kN := kN.next hb0
  clear h1 h2 h3 h4 h5 h6 r1 r2 hx
  go_enter Tryz.func62, Tryz.ntmps62
  go_wp2_with fail
  generalize w.alloc (.cells #[.bool dn, .slice H hn hc, .int .i64 de, .slice T tn tc, .slice A n c, .slice B m d, .slice C p q, .slice V vn vc] 98) = W0 at *
  refine (H1.out _ hb0).mono ?_
  rintro e w1 ⟨rfl, hb1x⟩
  replace hb0 := bnext hb0 hb1x
  replace k0 := k0.next hb1x
  replace kN := kN.next hb1x
  clear hb1x
  cases hv1 : vld ⟨dn, dl, de⟩
  · rw [hv1] at HV
    clear hv1
    go_wp2_with fail
    go_ret
    exact ⟨by rw [HV.out]; rfl, hb0⟩
  rw [hv1] at HV
  clear hv1
  obtain ⟨k0q0, k0q1, k0q2, k0q3, k0q4, k0q5, k0q6, k0q7⟩ := k0.cells8
  have kNq0 := kN.cells1
  go_wp2_with fail
  refine (H2.out _ hb0).mono ?_
  rintro e w2 ⟨rfl, hb2x⟩
  clear k0q0 k0q1 k0q2 k0q3 k0q4 k0q5 k0q6 k0q7 kNq0
  replace hb0 := bnext hb0 hb2x
  replace k0 := k0.next hb2x
  replace kN := kN.next hb2x
  clear hb2x
  generalize sgnD ⟨dn, dl, de⟩ = r at *
  by_cases hr : 0 < r
  rotate_left
  · rw [decide_eq_false hr] at HV
    have hr2 : decide (r ≤ 0) = true := decide_eq_true (by omega)
    obtain ⟨k0q0, k0q1, k0q2, k0q3, k0q4, k0q5, k0q6, k0q7⟩ := k0.cells8
    have kNq0 := kN.cells1
    go_wp2_with fail
    go_ret
    exact ⟨by rw [HV.out]; rfl, hb0⟩
  rw [decide_eq_true hr] at HV
  have hr2 : decide (r ≤ 0) = false := decide_eq_false (by omega)
  obtain ⟨k0q0, k0q1, k0q2, k0q3, k0q4, k0q5, k0q6, k0q7⟩ := k0.cells8
  have kNq0 := kN.cells1
  go_wp2_with fail
  refine (H3.out _ hb0).mono ?_
  rintro e w3 ⟨rfl, hb3x⟩
  clear k0q0 k0q1 k0q2 k0q3 k0q4 k0q5 k0q6 k0q7 kNq0
  replace hb0 := bnext hb0 hb3x
  replace k0 := k0.next hb3x
  replace kN := kN.next hb3x
  clear hb3x
  cases hv1 : boxV tube
  · rw [hv1] at HV
    clear hv1
    go_wp2_with fail
    go_ret
    exact ⟨by rw [HV.out]; rfl, hb0⟩
  rw [hv1] at HV
  clear hv1
  by_cases ht : tn = N
  rotate_left
  · rw [decide_eq_false ht] at HV
    have ht2 : ((tn : Int) != (N : Int)) = true := by rw [bne_iff_ne]; omega
    obtain ⟨k0q0, k0q1, k0q2, k0q3, k0q4, k0q5, k0q6, k0q7⟩ := k0.cells8
    have kNq0 := kN.cells1
    go_wp2_with fail
    go_ret
    exact ⟨by rw [HV.out]; rfl, hb0⟩
  rw [decide_eq_true ht] at HV
  have ht2 : ((tn : Int) != (N : Int)) = false := by rw [ht]; simp
  have HT2 := Lib.hid ht
  clear ht
  obtain ⟨k0q0, k0q1, k0q2, k0q3, k0q4, k0q5, k0q6, k0q7⟩ := k0.cells8
  have kNq0 := kN.cells1
  go_wp2_with fail
  refine (H4.out _ hb0).mono ?_
  rintro e w4 ⟨rfl, hb4x⟩
  clear k0q0 k0q1 k0q2 k0q3 k0q4 k0q5 k0q6 k0q7 kNq0
  replace hb0 := bnext hb0 hb4x
  replace k0 := k0.next hb4x
  replace kN := kN.next hb4x
  clear hb4x
  cases hv1 : frV fe
  · rw [hv1] at HV
    clear hv1
    go_wp2_with fail
    go_ret
    exact ⟨by rw [HV.out]; rfl, hb0⟩
  rw [hv1] at HV
  clear hv1
  by_cases hq : n = N
  rotate_left
  · rw [decide_eq_false hq] at HV
    have hq2 : ((n : Int) != (N : Int)) = true := by rw [bne_iff_ne]; omega
    obtain ⟨k0q0, k0q1, k0q2, k0q3, k0q4, k0q5, k0q6, k0q7⟩ := k0.cells8
    have kNq0 := kN.cells1
    go_wp2_with fail
    go_ret
    exact ⟨by rw [HV.out]; rfl, hb0⟩
  rw [decide_eq_true hq] at HV
  have hq2 : ((n : Int) != (N : Int)) = false := by rw [hq]; simp
  have HQ2 := Lib.hid hq
  clear hq
  obtain ⟨k0q0, k0q1, k0q2, k0q3, k0q4, k0q5, k0q6, k0q7⟩ := k0.cells8
  have kNq0 := kN.cells1
  go_wp2_with fail
  refine (H5.out _ hb0).mono ?_
  rintro e w5 ⟨rfl, hb5x⟩
  clear k0q0 k0q1 k0q2 k0q3 k0q4 k0q5 k0q6 k0q7 kNq0
  replace hb0 := bnext hb0 hb5x
  replace k0 := k0.next hb5x
  replace kN := kN.next hb5x
  clear hb5x
  generalize sqV v N = s at *
  go_wp2_with fail
  go_ret
  exact ⟨by rw [HV.out]; rfl, hb0⟩

set_option maxRecDepth 100000 in
set_option maxHeartbeats 4000000 in
theorem certValid_any (vs : List Value) (x : Ct) (w : World) (h : RC w vs x) (hx : BdC x) (ht : Tabs w) : Calls Tryz.prog 16 #[.agg vs.toArray] w (Says (ctV x) w) := by
  have hmf : ∀ (fn : Fn) (first cap : Array Value) (w : World), (Instr.makeFunc fn first cap).run Tryz.prog w = .ok (.func fn first cap) w := fun _ _ _ _ => rfl
  obtain ⟨A, n, c, B, m, d, C, p, q, L, ln, lc, rfl, h1, h2, h3, h4⟩ := h
  obtain ⟨pr, od, st, ls⟩ := x
  dsimp only at h1 h2 h3 h4 ⊢
  have HV : Hid (ctV ⟨pr, od, st, ls⟩ = (decide (8 ≤ pr) && decide (pr ≤ 256) && decide (1 ≤ od) && decide (od ≤ 15) && decide (ln ≤ 1000) && decide (1 ≤ n) && decide (n ≤ 4) && frV st && idM st.a && !ls.any (fun l => !lkV n l))) := by unfold Hid ctV; dsimp only; rw [h1.len, h4.len]
  have r2 : RF w [.slice A n c, .slice B m d, .slice C p q] st := ⟨A, n, c, B, m, d, C, p, q, rfl, h1, h2, h3⟩
  have H1 := Lib.hid (fun W (hb : Below w.heap.size w W) => frameValid_any _ st W (lasts_RF w W _ _ r2 hb) hx.s)
  have H2 := Lib.hid (fun W (hb : Below w.heap.size w W) => identity_any B m d st.a W (h2.next lasts_RM hb) hx.s.a (ht.next hb))
  have H3 := Lib.hid (fun W (hb : Below w.heap.size w W) (gN : Nat) (kN : Blk W gN 3 #[.int .i64 n]) => containsFunc_L (fun l => !lkV n l) 62 #[.pointer (some ⟨gN, 0, none⟩)] L ln lc ls W (h4.next lasts_RL hb) (enters Tryz.func62 (by kernel_rfl) rfl) (fun V us l hb' hm hr => certValid1_any n gN us l V hr (hx.l l hm) (kN.next hb')))
  have m1 := h1.cap
  have m2 := h1.max
  have m3 := h4.cap
  have m4 := h4.max
  have hb0 := bnext (ballo w (.cells #[.int .i64 pr, .int .i64 od, .slice A n c, .slice B m d, .slice C p q, .slice L ln lc] 42)) (ballo (w.alloc (.cells #[.int .i64 pr, .int .i64 od, .slice A n c, .slice B m d, .slice C p q, .slice L ln lc] 42)) (.cells #[.int .i64 n] 3))
  have k0 := (Blk.new w 42 #[.int .i64 pr, .int .i64 od, .slice A n c, .slice B m d, .slice C p q, .slice L ln lc]).next (ballo (w.alloc (.cells #[.int .i64 pr, .int .i64 od, .slice A n c, .slice B m d, .slice C p q, .slice L ln lc] 42)) (.cells #[.int .i64 n] 3))
  have kN : Blk ((w.alloc (.cells #[.int .i64 pr, .int .i64 od, .slice A n c, .slice B m d, .slice C p q, .slice L ln lc] 42)).alloc (.cells #[.int .i64 n] 3)) (w.heap.size + 1) 3 #[.int .i64 n] := Blk.newAt _ _ _ (by simp)
  clear h1 h2 h3 h4 r2 hx ht
  generalize ls.any (fun l => !lkV n l) = rl at *
  generalize idM st.a = ri at *
  generalize frV st = rf at *
  by_cases e1 : 8 ≤ pr
  rotate_left
  · rw [decide_eq_false e1] at HV
    clear k0 kN H1 H2 H3
    go_enter Tryz.func16, Tryz.ntmps16
    go_wp2_with fail
    go_ret
    exact ⟨by rw [HV.out]; rfl, hb0⟩
  rw [decide_eq_true e1] at HV
  by_cases e2 : pr ≤ 256
  rotate_left
  · rw [decide_eq_false e2] at HV
    clear k0 kN H1 H2 H3
    go_enter Tryz.func16, Tryz.ntmps16
    go_wp2_with fail
    go_ret
    exact ⟨by rw [HV.out]; rfl, hb0⟩
  rw [decide_eq_true e2] at HV
  by_cases e3 : 1 ≤ od
  rotate_left
  · rw [decide_eq_false e3] at HV
    clear k0 kN H1 H2 H3
    go_enter Tryz.func16, Tryz.ntmps16
    go_wp2_with fail
    go_ret
    exact ⟨by rw [HV.out]; rfl, hb0⟩
  rw [decide_eq_true e3] at HV
  by_cases e4 : od ≤ 15
  rotate_left
  · rw [decide_eq_false e4] at HV
    clear k0 kN H1 H2 H3
    go_enter Tryz.func16, Tryz.ntmps16
    go_wp2_with fail
    go_ret
    exact ⟨by rw [HV.out]; rfl, hb0⟩
  rw [decide_eq_true e4] at HV
  by_cases e5 : ln ≤ 1000
  rotate_left
  · rw [decide_eq_false e5] at HV
    clear k0 kN H1 H2 H3
    go_enter Tryz.func16, Tryz.ntmps16
    go_wp2_with fail
    go_ret
    exact ⟨by rw [HV.out]; rfl, hb0⟩
  rw [decide_eq_true e5] at HV
  by_cases e6 : 1 ≤ n
  rotate_left
  · rw [decide_eq_false e6] at HV
    clear k0 kN H1 H2 H3
    go_enter Tryz.func16, Tryz.ntmps16
    go_wp2_with fail
    go_ret
    exact ⟨by rw [HV.out]; rfl, hb0⟩
  rw [decide_eq_true e6] at HV
  by_cases e7 : n ≤ 4
  rotate_left
  · rw [decide_eq_false e7] at HV
    clear k0 kN H1 H2 H3
    go_enter Tryz.func16, Tryz.ntmps16
    go_wp2_with fail
    go_ret
    exact ⟨by rw [HV.out]; rfl, hb0⟩
  rw [decide_eq_true e7] at HV
  go_enter Tryz.func16, Tryz.ntmps16
  go_wp2_with fail
  generalize ((w.alloc (.cells #[.int .i64 pr, .int .i64 od, .slice A n c, .slice B m d, .slice C p q, .slice L ln lc] 42)).alloc (.cells #[.int .i64 n] 3)) = W0 at *
  refine (H1.out _ hb0).mono ?_
  rintro e w1 ⟨rfl, hb1x⟩
  replace hb0 := bnext hb0 hb1x
  replace k0 := k0.next hb1x
  replace kN := kN.next hb1x
  clear hb1x
  cases hv1 : rf
  · rw [hv1] at HV
    clear hv1
    go_wp2_with fail
    go_ret
    exact ⟨by rw [HV.out]; rfl, hb0⟩
  rw [hv1] at HV
  clear hv1
  obtain ⟨k0q0, k0q1, k0q2, k0q3, k0q4, k0q5⟩ := k0.cells6
  have kNq0 := kN.cells1
  go_wp2_with fail
  refine (H2.out _ hb0).mono ?_
  rintro e w2 ⟨rfl, hb2x⟩
  clear k0q0 k0q1 k0q2 k0q3 k0q4 k0q5 kNq0
  replace hb0 := bnext hb0 hb2x
  replace k0 := k0.next hb2x
  replace kN := kN.next hb2x
  clear hb2x
  cases hv1 : ri
  · rw [hv1] at HV
    clear hv1
    go_wp2_with fail
    go_ret
    exact ⟨by rw [HV.out]; rfl, hb0⟩
  rw [hv1] at HV
  clear hv1
  obtain ⟨k0q0, k0q1, k0q2, k0q3, k0q4, k0q5⟩ := k0.cells6
  have kNq0 := kN.cells1
  go_wp2_with fail
  refine (H3.out _ hb0 _ kN).mono ?_
  rintro e w3 ⟨rfl, hb3x⟩
  clear k0q0 k0q1 k0q2 k0q3 k0q4 k0q5 kNq0
  replace hb0 := bnext hb0 hb3x
  replace k0 := k0.next hb3x
  replace kN := kN.next hb3x
  clear hb3x
  go_wp2_with fail
  go_ret
  exact ⟨by rw [HV.out]; rfl, hb0⟩

end Go.Proofs.YtekajoifgdpmlaaGreatDoor

/-! C7 -/
namespace Go.Proofs.YtekajoifgdpmlaaGreatDoor
open Go.RowKit Pl Go.Shelf

def rsgn (d : Dy) : Int := if d.l = [] then 0 else if d.neg then -1 else 1
set_option maxHeartbeats 400000 in
theorem rsign_raw (neg : Bool) (A : Option Addr) (n c : Nat) (l : List Nat) (x : Int) (w : World) (h : SL w A n c l) :
    Calls Tryz.prog 69 #[.agg #[.bool neg, .slice A n c, .int .i64 x]] w fun e w' => e = .returned (.int .i64 (rsgn ⟨neg, l, x⟩)) ∧ Below w.heap.size w w' := by
  have HB : Hid (rsgn ⟨neg, l, x⟩ = if n ≠ 0 then (if neg then -1 else 1) else 0) := by
    unfold Hid rsgn
    by_cases hl : l = []
    · rw [if_pos hl, if_neg (by rw [← h.len, hl]; simp)]
    · rw [if_neg hl, if_pos ((ne_nil_iff h).1 hl)]
  generalize rsgn ⟨neg, l, x⟩ = r at *
  by_cases h0 : n = 0
  · subst h0
    go_enter Tryz.func69, Tryz.ntmps69
    go_wp2_with fail
    go_ret
    exact ⟨by rw [HB.out]; rfl, ballo _ _⟩
  · have h0' : ((n : Int) == 0) = false := by simp; omega
    cases neg
    all_goals
      go_enter Tryz.func69, Tryz.ntmps69
      go_wp2_with fail
      go_ret
      exact ⟨by rw [HB.out, if_pos h0]; rfl, ballo _ _⟩
theorem rsgn_canon (n : Bool) (v : Nat) (e : Int) : rsgn (canonD n v e) = if v = 0 then 0 else if n then -1 else 1 := by
  unfold canonD
  by_cases h : v = 0
  · rw [if_pos h, if_pos h]; rfl
  · rw [if_neg h, if_neg h]
    unfold rsgn
    have : digs (oddp v) ≠ [] := by rw [digs_pos _ (by have := (oddp_spec v (by omega)).2; omega)]; simp
    rw [if_neg this]
theorem rsgn_sum {a b : Dy} (hl : a.l ≠ []) (hl' : b.l ≠ []) (hs : a.neg = b.neg) (hv : vld a = true) : rsgn (rsumD a (rnegD b)) = sgnD a * cmpN (val a.l * 2 ^ (a.e - min a.e b.e).toNat) (val b.l * 2 ^ (b.e - min a.e b.e).toNat) := by
  have e1 : (rnegD b).l = b.l := rfl
  have e2 : (rnegD b).e = b.e := rfl
  have e3 : (rnegD b).neg = !b.neg := by unfold rnegD; simp [hl']
  unfold rsumD
  rw [if_neg hl, if_neg (by rw [e1]; exact hl'), e1, e2, e3, if_neg (by rw [hs]; cases b.neg <;> simp)]
  have es : sgnD a = if a.neg then -1 else 1 := by unfold sgnD; rw [if_pos ⟨hv, hl⟩]
  rw [es, ← hs]
  generalize val a.l * 2 ^ (a.e - min a.e b.e).toNat = P
  generalize val b.l * 2 ^ (b.e - min a.e b.e).toNat = Q
  rcases cmpN_three P Q with ⟨h, e⟩ | ⟨h, e⟩ | ⟨h, e⟩
  · have hq : ¬ Q ≤ P := by omega
    have h0 : ¬ Q - P = 0 := by omega
    rw [if_neg hq, rsgn_canon, if_neg h0, e]
    cases a.neg <;> simp
  · have hq : Q ≤ P := by omega
    have h0 : ¬ P - Q = 0 := by omega
    rw [if_pos hq, rsgn_canon, if_neg h0, e]
    cases a.neg <;> simp
  · have hq : Q ≤ P := by omega
    have h0 : P - Q = 0 := by omega
    rw [if_pos hq, rsgn_canon, if_pos h0, e]
    simp
theorem sgn_of {d : Dy} (hv : vld d = true) (hl : d.l ≠ []) : sgnD d = if d.neg then -1 else 1 := by unfold sgnD; rw [if_pos ⟨hv, hl⟩]

set_option maxRecDepth 100000 in
set_option maxHeartbeats 8000000 in
theorem rcmp_any (an : Bool) (aA : Option Addr) (aS ac : Nat) (al : List Nat) (ae : Int) (bn : Bool) (bA : Option Addr) (bs bc : Nat) (bl : List Nat) (be : Int) (w : World) (ha : SL w aA aS ac al) (hb : SL w bA bs bc bl) (hv : vld ⟨an, al, ae⟩ = true) (hv' : vld ⟨bn, bl, be⟩ = true) :
    Calls Tryz.prog 184 #[.agg #[.bool an, .slice aA aS ac, .int .i64 ae], .agg #[.bool bn, .slice bA bs bc, .int .i64 be]] w fun e w' => e = .returned (.int .i64 (cmpD ⟨an, al, ae⟩ ⟨bn, bl, be⟩)) ∧ Below w.heap.size w w' := by
  have hsa : aS ≤ 256 := by rw [← ha.len]; exact vld_short hv
  have hsb : bs ≤ 256 := by rw [← hb.len]; exact vld_short hv'
  have HR : Hid (cmpD ⟨an, al, ae⟩ ⟨bn, bl, be⟩ = if sgnD ⟨an, al, ae⟩ < sgnD ⟨bn, bl, be⟩ then -1 else if sgnD ⟨bn, bl, be⟩ < sgnD ⟨an, al, ae⟩ then 1 else if sgnD ⟨an, al, ae⟩ = 0 then 0 else sgnD ⟨an, al, ae⟩ * acmp ⟨an, al, ae⟩ ⟨bn, bl, be⟩) := by unfold Hid cmpD; rw [if_pos ⟨hv, hv'⟩]
  have HNE : Hid (sgnD ⟨an, al, ae⟩ ≠ 0 → al ≠ []) := fun hs e => hs (by unfold sgnD; rw [if_neg (by simp [e])])
  have HNE' : Hid (sgnD ⟨bn, bl, be⟩ ≠ 0 → bl ≠ []) := fun hs e => hs (by unfold sgnD; rw [if_neg (by simp [e])])
  have HSG : Hid (al ≠ [] → bl ≠ [] → sgnD ⟨an, al, ae⟩ = sgnD ⟨bn, bl, be⟩ → an = bn) := fun h1 h2 h3 => by rw [sgn_of hv h1, sgn_of hv' h2] at h3; revert h3; cases an <;> cases bn <;> simp
  have HTA : Hid (al ≠ [] → topD ⟨an, al, ae⟩ = (blen (val al) : Int) + ae) := fun h1 => by unfold topD; rw [if_pos ⟨hv, h1⟩]
  have HTB : Hid (bl ≠ [] → topD ⟨bn, bl, be⟩ = (blen (val bl) : Int) + be) := fun h1 => by unfold topD; rw [if_pos ⟨hv', h1⟩]
  have HAC : Hid (acmp ⟨an, al, ae⟩ ⟨bn, bl, be⟩ = if (blen (val al) : Int) + ae < (blen (val bl) : Int) + be then -1 else if (blen (val bl) : Int) + be < (blen (val al) : Int) + ae then 1 else cmpN (val al * 2 ^ (ae - min ae be).toNat) (val bl * 2 ^ (be - min ae be).toNat)) := rfl
  have HSU : Hid (al ≠ [] → bl ≠ [] → an = bn → rsgn (rsumD ⟨an, al, ae⟩ (rnegD ⟨bn, bl, be⟩)) = sgnD ⟨an, al, ae⟩ * cmpN (val al * 2 ^ (ae - min ae be).toNat) (val bl * 2 ^ (be - min ae be).toNat)) := fun h1 h2 h3 => rsgn_sum h1 h2 h3 hv
  have sc := sgn_cases ⟨an, al, ae⟩
  have sc' := sgn_cases ⟨bn, bl, be⟩
  have HVA := Lib.hid hv
  have HVB := Lib.hid hv'
  have HVN : Hid (vld (rnegD ⟨bn, bl, be⟩) = true) := by unfold Hid; rw [rneg_eq _ hv']; exact vld_neg hv'
  obtain ⟨S, hS⟩ : ∃ S, sgnD ⟨an, al, ae⟩ = S := ⟨_, rfl⟩
  obtain ⟨S', hS'⟩ : ∃ S', sgnD ⟨bn, bl, be⟩ = S' := ⟨_, rfl⟩
  obtain ⟨t1, ht1⟩ : ∃ t1, topD ⟨an, al, ae⟩ = t1 := ⟨_, rfl⟩
  obtain ⟨t2, ht2⟩ : ∃ t2, topD ⟨bn, bl, be⟩ = t2 := ⟨_, rfl⟩
  rw [hS] at sc
  rw [hS'] at sc'
  rw [hS, hS'] at HR
  rw [hS] at HNE HSU
  rw [hS'] at HNE'
  rw [hS, hS'] at HSG
  rw [ht1] at HTA
  rw [ht2] at HTB
  have HS := Lib.hid hS
  have HS' := Lib.hid hS'
  have H1 := Lib.hid ht1
  have H2 := Lib.hid ht2
  clear hS hS' ht1 ht2 hv hv'
  generalize cmpD ⟨an, al, ae⟩ ⟨bn, bl, be⟩ = r at *
  generalize acmp ⟨an, al, ae⟩ ⟨bn, bl, be⟩ = acp at *
  go_enter Tryz.func184, Tryz.ntmps184
  go_wp2_with fail
  have hbw := bnext (ballo w (.cells #[.bool an, .slice aA aS ac, .int .i64 ae] 25)) (ballo (w.alloc (.cells #[.bool an, .slice aA aS ac, .int .i64 ae] 25)) (.cells #[.bool bn, .slice bA bs bc, .int .i64 be] 25))
  have va := (Var.new w an ae ha).next (ballo (w.alloc (.cells #[.bool an, .slice aA aS ac, .int .i64 ae] 25)) (.cells #[.bool bn, .slice bA bs bc, .int .i64 be] 25))
  have vb := Var.newAt (w.alloc (.cells #[.bool an, .slice aA aS ac, .int .i64 ae] 25)) bn be (g := w.heap.size + 1) (by simp) (hb.below (ballo w (.cells #[.bool an, .slice aA aS ac, .int .i64 ae] 25)))
  clear ha hb
  generalize ((w.alloc (.cells #[.bool an, .slice aA aS ac, .int .i64 ae] 25)).alloc (.cells #[.bool bn, .slice bA bs bc, .int .i64 be] 25)) = W0 at *
  have HK : Hid (∀ V, Below W0.heap.size W0 V → (fun V => (V.cell? ⟨w.heap.size, 0, none⟩ = some (.bool an) ∧ V.cell? ⟨w.heap.size, 1, none⟩ = some (.slice aA aS ac) ∧ V.cell? ⟨w.heap.size, 2, none⟩ = some (.int .i64 ae)) ∧ (V.cell? ⟨w.heap.size + 1, 0, none⟩ = some (.bool bn) ∧ V.cell? ⟨w.heap.size + 1, 1, none⟩ = some (.slice bA bs bc) ∧ V.cell? ⟨w.heap.size + 1, 2, none⟩ = some (.int .i64 be)) ∧ Below W0.heap.size W0 V) V) := fun V hV => ⟨va.keep V hV, vb.keep V hV, hV⟩
  have hB := bdrew W0
  refine wp_region_held_drew (S := (fun V => (V.cell? ⟨w.heap.size, 0, none⟩ = some (.bool an) ∧ V.cell? ⟨w.heap.size, 1, none⟩ = some (.slice aA aS ac) ∧ V.cell? ⟨w.heap.size, 2, none⟩ = some (.int .i64 ae)) ∧ (V.cell? ⟨w.heap.size + 1, 0, none⟩ = some (.bool bn) ∧ V.cell? ⟨w.heap.size + 1, 1, none⟩ = some (.slice bA bs bc) ∧ V.cell? ⟨w.heap.size + 1, 2, none⟩ = some (.int .i64 be)) ∧ Below W0.heap.size W0 V)) (by kernel_rfl) (HK.out _ hB) (fun hH => ?_)
  refine wpAnyH_take (i := 0) (oi := ⟨_, _, _, _, _, _⟩) (v := ?_) rfl (by kernel_rfl) (by kernel_rfl) (by kernel_rfl) (fun _ _ _ h => h) (Or.inl ⟨by rfl, ?_⟩) hH ?_
  rotate_left
  · (intro w hSw; (try dsimp only at hSw); go_simp; try (with_reducible rfl))
  simp only [Act.put, List.setIfInBounds_toArray, List.set_cons_zero, List.set_cons_succ]
  refine wpAnyH_take (i := 2) (oi := ⟨_, _, _, _, _, _⟩) (v := ?_) rfl (by kernel_rfl) (by kernel_rfl) (by kernel_rfl) (fun _ _ _ h => h) (Or.inl ⟨by rfl, ?_⟩) hH ?_
  rotate_left
  · (intro w hSw; (try dsimp only at hSw); go_simp; try (with_reducible rfl))
  simp only [Act.put, List.setIfInBounds_toArray, List.set_cons_zero, List.set_cons_succ]
  refine wpAnyH_ready (rs := [1]) (by kernel_rfl) (by simp) ?_
  refine AllReadyH.cons (o := ⟨_, _, _, _, _, _⟩) rfl (fun K hK => ?_) AllReadyH.nil
  go_simp
  refine (rsign_any an aA aS ac al ae _ (va.sl.below hB) HVA.out).mono ?_
  rw [HS.out]
  rintro e w1 ⟨rfl, hc⟩
  replace hB := bnext hB hc
  clear hc
  go_wp2_with fail
  refine hK.out _ _ (HK.out _ hB) (fun hH => ?_)
  clear hK K
  refine wpAnyH_ready (rs := [3]) (by kernel_rfl) (by simp) ?_
  refine AllReadyH.cons (o := ⟨_, _, _, _, _, _⟩) rfl (fun K hK => ?_) AllReadyH.nil
  go_simp
  refine (rsign_any bn bA bs bc bl be _ (vb.sl.below hB) HVB.out).mono ?_
  rw [HS'.out]
  rintro e w2 ⟨rfl, hc⟩
  replace hB := bnext hB hc
  clear hc
  go_wp2_with fail
  refine hK.out _ _ (HK.out _ hB) (fun hH => ?_)
  clear hK K
  refine wpAnyH_take (i := 4) (oi := ⟨_, _, _, _, _, _⟩) (v := ?_) rfl (by kernel_rfl) (by kernel_rfl) (by kernel_rfl) (fun _ _ _ h => h) (Or.inl ⟨by rfl, ?_⟩) hH ?_
  rotate_left
  · (intro w hSw; (try dsimp only at hSw); go_simp; try (with_reducible rfl))
  simp only [Act.put, List.setIfInBounds_toArray, List.set_cons_zero, List.set_cons_succ]
  refine wpAnyH_take (i := 5) (oi := ⟨_, _, _, _, _, _⟩) (v := ?_) rfl (by kernel_rfl) (by kernel_rfl) (by kernel_rfl) (fun _ _ _ h => h) (Or.inl ⟨by rfl, ?_⟩) hH ?_
  rotate_left
  · (intro w hSw; (try dsimp only at hSw); go_simp; try (with_reducible rfl))
  simp only [Act.put, List.setIfInBounds_toArray, List.set_cons_zero, List.set_cons_succ]
  refine wpAnyH_done (by kernel_rfl) ?_ _
  clear hH HK
  replace va := va.next hB
  replace vb := vb.next hB
  replace hbw := bnext hbw hB
  clear hB
  by_cases c1 : S < S'
  · have hne : (S != S') = true := by rw [bne_iff_ne]; omega
    have R1 : Hid (r = -1) := by unfold Hid; rw [HR.out, if_pos c1]
    clear HR
    go_wp2_with fail
    go_ret
    exact ⟨by rw [R1.out]; rfl, hbw⟩
  by_cases c2 : S' < S
  · have hne : (S != S') = true := by rw [bne_iff_ne]; omega
    have R1 : Hid (r = 1) := by unfold Hid; rw [HR.out, if_neg c1, if_pos c2]
    clear HR
    go_wp2_with fail
    go_ret
    exact ⟨by rw [R1.out]; rfl, hbw⟩
  obtain rfl : S' = S := by omega
  by_cases c3 : S' = 0
  · have R1 : Hid (r = 0) := by unfold Hid; rw [HR.out, if_neg c1, if_neg c2, if_pos c3]
    clear HR
    subst c3
    go_wp2_with fail
    go_ret
    exact ⟨by rw [R1.out]; rfl, hbw⟩
  have c4 : (S' == 0) = false := by rw [beq_eq_false_iff_ne]; exact c3
  have HRR : Hid (r = S' * acp) := by unfold Hid; rw [HR.out, if_neg c1, if_neg c2, if_neg c3]
  clear HR c1 c2
  have HAN := Lib.hid (HNE.out c3)
  have HBN := Lib.hid (HNE'.out c3)
  have HTA2 := Lib.hid (HTA.out HAN.out)
  have HTB2 := Lib.hid (HTB.out HBN.out)
  clear HNE HNE' HTA HTB
  rw [← HTA2.out, ← HTB2.out] at HAC
  go_wp2_with fail
  have HK : Hid (∀ V, Below w2.heap.size w2 V → (fun V => (V.cell? ⟨w.heap.size, 0, none⟩ = some (.bool an) ∧ V.cell? ⟨w.heap.size, 1, none⟩ = some (.slice aA aS ac) ∧ V.cell? ⟨w.heap.size, 2, none⟩ = some (.int .i64 ae)) ∧ (V.cell? ⟨w.heap.size + 1, 0, none⟩ = some (.bool bn) ∧ V.cell? ⟨w.heap.size + 1, 1, none⟩ = some (.slice bA bs bc) ∧ V.cell? ⟨w.heap.size + 1, 2, none⟩ = some (.int .i64 be)) ∧ Below w2.heap.size w2 V) V) := fun V hV => ⟨va.keep V hV, vb.keep V hV, hV⟩
  have hB := bdrew w2
  refine wp_region_held_drew (S := (fun V => (V.cell? ⟨w.heap.size, 0, none⟩ = some (.bool an) ∧ V.cell? ⟨w.heap.size, 1, none⟩ = some (.slice aA aS ac) ∧ V.cell? ⟨w.heap.size, 2, none⟩ = some (.int .i64 ae)) ∧ (V.cell? ⟨w.heap.size + 1, 0, none⟩ = some (.bool bn) ∧ V.cell? ⟨w.heap.size + 1, 1, none⟩ = some (.slice bA bs bc) ∧ V.cell? ⟨w.heap.size + 1, 2, none⟩ = some (.int .i64 be)) ∧ Below w2.heap.size w2 V)) (by kernel_rfl) (HK.out _ hB) (fun hH => ?_)
  refine wpAnyH_take (i := 0) (oi := ⟨_, _, _, _, _, _⟩) (v := ?_) rfl (by kernel_rfl) (by kernel_rfl) (by kernel_rfl) (fun _ _ _ h => h) (Or.inl ⟨by rfl, ?_⟩) hH ?_
  rotate_left
  · (intro w hSw; (try dsimp only at hSw); go_simp; try (with_reducible rfl))
  simp only [Act.put, List.setIfInBounds_toArray, List.set_cons_zero, List.set_cons_succ]
  refine wpAnyH_take (i := 2) (oi := ⟨_, _, _, _, _, _⟩) (v := ?_) rfl (by kernel_rfl) (by kernel_rfl) (by kernel_rfl) (fun _ _ _ h => h) (Or.inl ⟨by rfl, ?_⟩) hH ?_
  rotate_left
  · (intro w hSw; (try dsimp only at hSw); go_simp; try (with_reducible rfl))
  simp only [Act.put, List.setIfInBounds_toArray, List.set_cons_zero, List.set_cons_succ]
  refine wpAnyH_ready (rs := [1]) (by kernel_rfl) (by simp) ?_
  refine AllReadyH.cons (o := ⟨_, _, _, _, _, _⟩) rfl (fun K hK => ?_) AllReadyH.nil
  go_simp
  refine (rtop_any an aA aS ac al ae _ (va.sl.below hB) (by omega) HVA.out).mono ?_
  rw [H1.out]
  rintro e w3 ⟨rfl, hc⟩
  replace hB := bnext hB hc
  clear hc
  go_wp2_with fail
  refine hK.out _ _ (HK.out _ hB) (fun hH => ?_)
  clear hK K
  refine wpAnyH_ready (rs := [3]) (by kernel_rfl) (by simp) ?_
  refine AllReadyH.cons (o := ⟨_, _, _, _, _, _⟩) rfl (fun K hK => ?_) AllReadyH.nil
  go_simp
  refine (rtop_any bn bA bs bc bl be _ (vb.sl.below hB) (by omega) HVB.out).mono ?_
  rw [H2.out]
  rintro e w4 ⟨rfl, hc⟩
  replace hB := bnext hB hc
  clear hc
  go_wp2_with fail
  refine hK.out _ _ (HK.out _ hB) (fun hH => ?_)
  clear hK K
  refine wpAnyH_take (i := 4) (oi := ⟨_, _, _, _, _, _⟩) (v := ?_) rfl (by kernel_rfl) (by kernel_rfl) (by kernel_rfl) (fun _ _ _ h => h) (Or.inl ⟨by rfl, ?_⟩) hH ?_
  rotate_left
  · (intro w hSw; (try dsimp only at hSw); go_simp; try (with_reducible rfl))
  simp only [Act.put, List.setIfInBounds_toArray, List.set_cons_zero, List.set_cons_succ]
  refine wpAnyH_done (by kernel_rfl) ?_ _
  clear hH HK
  replace va := va.next hB
  replace vb := vb.next hB
  replace hbw := bnext hbw hB
  clear hB
  by_cases c5 : t1 = t2
  rotate_left
  · have c6 : (t1 != t2) = true := by rw [bne_iff_ne]; exact c5
    go_wp2_with fail
    rcases sc with rfl | rfl | rfl
    · by_cases c7 : t1 < t2
      · have c8 : decide (t1 < t2) = true := decide_eq_true c7
        have R1 : Hid (r = 1) := by unfold Hid; rw [HRR.out, HAC.out, if_pos c7]; rfl
        clear HRR HAC
        have HK : Hid (∀ V, Below w4.heap.size w4 V → (fun V => (V.cell? ⟨w.heap.size, 0, none⟩ = some (.bool an) ∧ V.cell? ⟨w.heap.size, 1, none⟩ = some (.slice aA aS ac) ∧ V.cell? ⟨w.heap.size, 2, none⟩ = some (.int .i64 ae)) ∧ (V.cell? ⟨w.heap.size + 1, 0, none⟩ = some (.bool bn) ∧ V.cell? ⟨w.heap.size + 1, 1, none⟩ = some (.slice bA bs bc) ∧ V.cell? ⟨w.heap.size + 1, 2, none⟩ = some (.int .i64 be)) ∧ Below w4.heap.size w4 V) V) := fun V hV => ⟨va.keep V hV, vb.keep V hV, hV⟩
        have hB := bdrew w4
        refine wp_region_held_drew (S := (fun V => (V.cell? ⟨w.heap.size, 0, none⟩ = some (.bool an) ∧ V.cell? ⟨w.heap.size, 1, none⟩ = some (.slice aA aS ac) ∧ V.cell? ⟨w.heap.size, 2, none⟩ = some (.int .i64 ae)) ∧ (V.cell? ⟨w.heap.size + 1, 0, none⟩ = some (.bool bn) ∧ V.cell? ⟨w.heap.size + 1, 1, none⟩ = some (.slice bA bs bc) ∧ V.cell? ⟨w.heap.size + 1, 2, none⟩ = some (.int .i64 be)) ∧ Below w4.heap.size w4 V)) (by kernel_rfl) (HK.out _ hB) (fun hH => ?_)
        refine wpAnyH_take (i := 0) (oi := ⟨_, _, _, _, _, _⟩) (v := ?_) rfl (by kernel_rfl) (by kernel_rfl) (by kernel_rfl) (fun _ _ _ h => h) (Or.inl ⟨by rfl, ?_⟩) hH ?_
        rotate_left
        · (intro w hSw; (try dsimp only at hSw); go_simp; try (with_reducible rfl))
        simp only [Act.put, List.setIfInBounds_toArray, List.set_cons_zero, List.set_cons_succ]
        refine wpAnyH_take (i := 2) (oi := ⟨_, _, _, _, _, _⟩) (v := ?_) rfl (by kernel_rfl) (by kernel_rfl) (by kernel_rfl) (fun _ _ _ h => h) (Or.inl ⟨by rfl, ?_⟩) hH ?_
        rotate_left
        · (intro w hSw; (try dsimp only at hSw); go_simp; try (with_reducible rfl))
        simp only [Act.put, List.setIfInBounds_toArray, List.set_cons_zero, List.set_cons_succ]
        refine wpAnyH_take (i := 5) (oi := ⟨_, _, _, _, _, _⟩) (v := ?_) rfl (by kernel_rfl) (by kernel_rfl) (by kernel_rfl) (fun _ _ _ h => h) (Or.inl ⟨by rfl, ?_⟩) hH ?_
        rotate_left
        · (intro w hSw; (try dsimp only at hSw); go_simp; try (with_reducible rfl))
        simp only [Act.put, List.setIfInBounds_toArray, List.set_cons_zero, List.set_cons_succ]
        refine wpAnyH_take (i := 6) (oi := ⟨_, _, _, _, _, _⟩) (v := ?_) rfl (by kernel_rfl) (by kernel_rfl) (by kernel_rfl) (fun _ _ _ h => h) (Or.inl ⟨by rfl, ?_⟩) hH ?_
        rotate_left
        · (intro w hSw; (try dsimp only at hSw); go_simp; try (with_reducible rfl))
        simp only [Act.put, List.setIfInBounds_toArray, List.set_cons_zero, List.set_cons_succ]
        refine wpAnyH_ready (rs := [1]) (by kernel_rfl) (by simp) ?_
        refine AllReadyH.cons (o := ⟨_, _, _, _, _, _⟩) rfl (fun K hK => ?_) AllReadyH.nil
        go_simp
        refine (rtop_any an aA aS ac al ae _ (va.sl.below hB) (by omega) HVA.out).mono ?_
        rw [H1.out]
        rintro e w51 ⟨rfl, hc⟩
        replace hB := bnext hB hc
        clear hc
        go_wp2_with fail
        refine hK.out _ _ (HK.out _ hB) (fun hH => ?_)
        clear hK K
        refine wpAnyH_ready (rs := [3]) (by kernel_rfl) (by simp) ?_
        refine AllReadyH.cons (o := ⟨_, _, _, _, _, _⟩) rfl (fun K hK => ?_) AllReadyH.nil
        go_simp
        refine (rtop_any bn bA bs bc bl be _ (vb.sl.below hB) (by omega) HVB.out).mono ?_
        rw [H2.out]
        rintro e w52 ⟨rfl, hc⟩
        replace hB := bnext hB hc
        clear hc
        go_wp2_with fail
        refine hK.out _ _ (HK.out _ hB) (fun hH => ?_)
        clear hK K
        refine wpAnyH_take (i := 4) (oi := ⟨_, _, _, _, _, _⟩) (v := ?_) rfl (by kernel_rfl) (by kernel_rfl) (by kernel_rfl) (fun _ _ _ h => h) (Or.inl ⟨by rfl, ?_⟩) hH ?_
        rotate_left
        · (intro w hSw; (try dsimp only at hSw); go_simp; try (with_reducible rfl))
        simp only [Act.put, List.setIfInBounds_toArray, List.set_cons_zero, List.set_cons_succ]
        refine wpAnyH_take (i := 7) (oi := ⟨_, _, _, _, _, _⟩) (v := ?_) rfl (by kernel_rfl) (by kernel_rfl) (by kernel_rfl) (fun _ _ _ h => h) (Or.inl ⟨by rfl, ?_⟩) hH ?_
        rotate_left
        · (intro w hSw; (try dsimp only at hSw); go_simp; try (with_reducible rfl))
        simp only [Act.put, List.setIfInBounds_toArray, List.set_cons_zero, List.set_cons_succ]
        refine wpAnyH_done (by kernel_rfl) ?_ _
        clear hH HK
        replace va := va.next hB
        replace vb := vb.next hB
        replace hbw := bnext hbw hB
        clear hB
        go_wp2_with fail
        go_ret
        exact ⟨by rw [R1.out]; rfl, hbw⟩
      · have c8 : decide (t1 < t2) = false := decide_eq_false c7
        have R1 : Hid (r = -1) := by unfold Hid; rw [HRR.out, HAC.out, if_neg c7, if_pos (by omega)]; rfl
        clear HRR HAC
        have HK : Hid (∀ V, Below w4.heap.size w4 V → (fun V => (V.cell? ⟨w.heap.size, 0, none⟩ = some (.bool an) ∧ V.cell? ⟨w.heap.size, 1, none⟩ = some (.slice aA aS ac) ∧ V.cell? ⟨w.heap.size, 2, none⟩ = some (.int .i64 ae)) ∧ (V.cell? ⟨w.heap.size + 1, 0, none⟩ = some (.bool bn) ∧ V.cell? ⟨w.heap.size + 1, 1, none⟩ = some (.slice bA bs bc) ∧ V.cell? ⟨w.heap.size + 1, 2, none⟩ = some (.int .i64 be)) ∧ Below w4.heap.size w4 V) V) := fun V hV => ⟨va.keep V hV, vb.keep V hV, hV⟩
        have hB := bdrew w4
        refine wp_region_held_drew (S := (fun V => (V.cell? ⟨w.heap.size, 0, none⟩ = some (.bool an) ∧ V.cell? ⟨w.heap.size, 1, none⟩ = some (.slice aA aS ac) ∧ V.cell? ⟨w.heap.size, 2, none⟩ = some (.int .i64 ae)) ∧ (V.cell? ⟨w.heap.size + 1, 0, none⟩ = some (.bool bn) ∧ V.cell? ⟨w.heap.size + 1, 1, none⟩ = some (.slice bA bs bc) ∧ V.cell? ⟨w.heap.size + 1, 2, none⟩ = some (.int .i64 be)) ∧ Below w4.heap.size w4 V)) (by kernel_rfl) (HK.out _ hB) (fun hH => ?_)
        refine wpAnyH_take (i := 0) (oi := ⟨_, _, _, _, _, _⟩) (v := ?_) rfl (by kernel_rfl) (by kernel_rfl) (by kernel_rfl) (fun _ _ _ h => h) (Or.inl ⟨by rfl, ?_⟩) hH ?_
        rotate_left
        · (intro w hSw; (try dsimp only at hSw); go_simp; try (with_reducible rfl))
        simp only [Act.put, List.setIfInBounds_toArray, List.set_cons_zero, List.set_cons_succ]
        refine wpAnyH_take (i := 2) (oi := ⟨_, _, _, _, _, _⟩) (v := ?_) rfl (by kernel_rfl) (by kernel_rfl) (by kernel_rfl) (fun _ _ _ h => h) (Or.inl ⟨by rfl, ?_⟩) hH ?_
        rotate_left
        · (intro w hSw; (try dsimp only at hSw); go_simp; try (with_reducible rfl))
        simp only [Act.put, List.setIfInBounds_toArray, List.set_cons_zero, List.set_cons_succ]
        refine wpAnyH_take (i := 5) (oi := ⟨_, _, _, _, _, _⟩) (v := ?_) rfl (by kernel_rfl) (by kernel_rfl) (by kernel_rfl) (fun _ _ _ h => h) (Or.inl ⟨by rfl, ?_⟩) hH ?_
        rotate_left
        · (intro w hSw; (try dsimp only at hSw); go_simp; try (with_reducible rfl))
        simp only [Act.put, List.setIfInBounds_toArray, List.set_cons_zero, List.set_cons_succ]
        refine wpAnyH_take (i := 6) (oi := ⟨_, _, _, _, _, _⟩) (v := ?_) rfl (by kernel_rfl) (by kernel_rfl) (by kernel_rfl) (fun _ _ _ h => h) (Or.inl ⟨by rfl, ?_⟩) hH ?_
        rotate_left
        · (intro w hSw; (try dsimp only at hSw); go_simp; try (with_reducible rfl))
        simp only [Act.put, List.setIfInBounds_toArray, List.set_cons_zero, List.set_cons_succ]
        refine wpAnyH_ready (rs := [1]) (by kernel_rfl) (by simp) ?_
        refine AllReadyH.cons (o := ⟨_, _, _, _, _, _⟩) rfl (fun K hK => ?_) AllReadyH.nil
        go_simp
        refine (rtop_any an aA aS ac al ae _ (va.sl.below hB) (by omega) HVA.out).mono ?_
        rw [H1.out]
        rintro e w51 ⟨rfl, hc⟩
        replace hB := bnext hB hc
        clear hc
        go_wp2_with fail
        refine hK.out _ _ (HK.out _ hB) (fun hH => ?_)
        clear hK K
        refine wpAnyH_ready (rs := [3]) (by kernel_rfl) (by simp) ?_
        refine AllReadyH.cons (o := ⟨_, _, _, _, _, _⟩) rfl (fun K hK => ?_) AllReadyH.nil
        go_simp
        refine (rtop_any bn bA bs bc bl be _ (vb.sl.below hB) (by omega) HVB.out).mono ?_
        rw [H2.out]
        rintro e w52 ⟨rfl, hc⟩
        replace hB := bnext hB hc
        clear hc
        go_wp2_with fail
        refine hK.out _ _ (HK.out _ hB) (fun hH => ?_)
        clear hK K
        refine wpAnyH_take (i := 4) (oi := ⟨_, _, _, _, _, _⟩) (v := ?_) rfl (by kernel_rfl) (by kernel_rfl) (by kernel_rfl) (fun _ _ _ h => h) (Or.inl ⟨by rfl, ?_⟩) hH ?_
        rotate_left
        · (intro w hSw; (try dsimp only at hSw); go_simp; try (with_reducible rfl))
        simp only [Act.put, List.setIfInBounds_toArray, List.set_cons_zero, List.set_cons_succ]
        refine wpAnyH_take (i := 7) (oi := ⟨_, _, _, _, _, _⟩) (v := ?_) rfl (by kernel_rfl) (by kernel_rfl) (by kernel_rfl) (fun _ _ _ h => h) (Or.inl ⟨by rfl, ?_⟩) hH ?_
        rotate_left
        · (intro w hSw; (try dsimp only at hSw); go_simp; try (with_reducible rfl))
        simp only [Act.put, List.setIfInBounds_toArray, List.set_cons_zero, List.set_cons_succ]
        refine wpAnyH_done (by kernel_rfl) ?_ _
        clear hH HK
        replace va := va.next hB
        replace vb := vb.next hB
        replace hbw := bnext hbw hB
        clear hB
        go_wp2_with fail
        go_ret
        exact ⟨by rw [R1.out]; rfl, hbw⟩
    · exact absurd rfl c3
    · by_cases c7 : t1 < t2
      · have c8 : decide (t1 < t2) = true := decide_eq_true c7
        have R1 : Hid (r = -1) := by unfold Hid; rw [HRR.out, HAC.out, if_pos c7]; rfl
        clear HRR HAC
        have HK : Hid (∀ V, Below w4.heap.size w4 V → (fun V => (V.cell? ⟨w.heap.size, 0, none⟩ = some (.bool an) ∧ V.cell? ⟨w.heap.size, 1, none⟩ = some (.slice aA aS ac) ∧ V.cell? ⟨w.heap.size, 2, none⟩ = some (.int .i64 ae)) ∧ (V.cell? ⟨w.heap.size + 1, 0, none⟩ = some (.bool bn) ∧ V.cell? ⟨w.heap.size + 1, 1, none⟩ = some (.slice bA bs bc) ∧ V.cell? ⟨w.heap.size + 1, 2, none⟩ = some (.int .i64 be)) ∧ Below w4.heap.size w4 V) V) := fun V hV => ⟨va.keep V hV, vb.keep V hV, hV⟩
        have hB := bdrew w4
        refine wp_region_held_drew (S := (fun V => (V.cell? ⟨w.heap.size, 0, none⟩ = some (.bool an) ∧ V.cell? ⟨w.heap.size, 1, none⟩ = some (.slice aA aS ac) ∧ V.cell? ⟨w.heap.size, 2, none⟩ = some (.int .i64 ae)) ∧ (V.cell? ⟨w.heap.size + 1, 0, none⟩ = some (.bool bn) ∧ V.cell? ⟨w.heap.size + 1, 1, none⟩ = some (.slice bA bs bc) ∧ V.cell? ⟨w.heap.size + 1, 2, none⟩ = some (.int .i64 be)) ∧ Below w4.heap.size w4 V)) (by kernel_rfl) (HK.out _ hB) (fun hH => ?_)
        refine wpAnyH_take (i := 0) (oi := ⟨_, _, _, _, _, _⟩) (v := ?_) rfl (by kernel_rfl) (by kernel_rfl) (by kernel_rfl) (fun _ _ _ h => h) (Or.inl ⟨by rfl, ?_⟩) hH ?_
        rotate_left
        · (intro w hSw; (try dsimp only at hSw); go_simp; try (with_reducible rfl))
        simp only [Act.put, List.setIfInBounds_toArray, List.set_cons_zero, List.set_cons_succ]
        refine wpAnyH_take (i := 2) (oi := ⟨_, _, _, _, _, _⟩) (v := ?_) rfl (by kernel_rfl) (by kernel_rfl) (by kernel_rfl) (fun _ _ _ h => h) (Or.inl ⟨by rfl, ?_⟩) hH ?_
        rotate_left
        · (intro w hSw; (try dsimp only at hSw); go_simp; try (with_reducible rfl))
        simp only [Act.put, List.setIfInBounds_toArray, List.set_cons_zero, List.set_cons_succ]
        refine wpAnyH_take (i := 5) (oi := ⟨_, _, _, _, _, _⟩) (v := ?_) rfl (by kernel_rfl) (by kernel_rfl) (by kernel_rfl) (fun _ _ _ h => h) (Or.inl ⟨by rfl, ?_⟩) hH ?_
        rotate_left
        · (intro w hSw; (try dsimp only at hSw); go_simp; try (with_reducible rfl))
        simp only [Act.put, List.setIfInBounds_toArray, List.set_cons_zero, List.set_cons_succ]
        refine wpAnyH_take (i := 6) (oi := ⟨_, _, _, _, _, _⟩) (v := ?_) rfl (by kernel_rfl) (by kernel_rfl) (by kernel_rfl) (fun _ _ _ h => h) (Or.inl ⟨by rfl, ?_⟩) hH ?_
        rotate_left
        · (intro w hSw; (try dsimp only at hSw); go_simp; try (with_reducible rfl))
        simp only [Act.put, List.setIfInBounds_toArray, List.set_cons_zero, List.set_cons_succ]
        refine wpAnyH_ready (rs := [1]) (by kernel_rfl) (by simp) ?_
        refine AllReadyH.cons (o := ⟨_, _, _, _, _, _⟩) rfl (fun K hK => ?_) AllReadyH.nil
        go_simp
        refine (rtop_any an aA aS ac al ae _ (va.sl.below hB) (by omega) HVA.out).mono ?_
        rw [H1.out]
        rintro e w51 ⟨rfl, hc⟩
        replace hB := bnext hB hc
        clear hc
        go_wp2_with fail
        refine hK.out _ _ (HK.out _ hB) (fun hH => ?_)
        clear hK K
        refine wpAnyH_ready (rs := [3]) (by kernel_rfl) (by simp) ?_
        refine AllReadyH.cons (o := ⟨_, _, _, _, _, _⟩) rfl (fun K hK => ?_) AllReadyH.nil
        go_simp
        refine (rtop_any bn bA bs bc bl be _ (vb.sl.below hB) (by omega) HVB.out).mono ?_
        rw [H2.out]
        rintro e w52 ⟨rfl, hc⟩
        replace hB := bnext hB hc
        clear hc
        go_wp2_with fail
        refine hK.out _ _ (HK.out _ hB) (fun hH => ?_)
        clear hK K
        refine wpAnyH_take (i := 4) (oi := ⟨_, _, _, _, _, _⟩) (v := ?_) rfl (by kernel_rfl) (by kernel_rfl) (by kernel_rfl) (fun _ _ _ h => h) (Or.inl ⟨by rfl, ?_⟩) hH ?_
        rotate_left
        · (intro w hSw; (try dsimp only at hSw); go_simp; try (with_reducible rfl))
        simp only [Act.put, List.setIfInBounds_toArray, List.set_cons_zero, List.set_cons_succ]
        refine wpAnyH_take (i := 7) (oi := ⟨_, _, _, _, _, _⟩) (v := ?_) rfl (by kernel_rfl) (by kernel_rfl) (by kernel_rfl) (fun _ _ _ h => h) (Or.inl ⟨by rfl, ?_⟩) hH ?_
        rotate_left
        · (intro w hSw; (try dsimp only at hSw); go_simp; try (with_reducible rfl))
        simp only [Act.put, List.setIfInBounds_toArray, List.set_cons_zero, List.set_cons_succ]
        refine wpAnyH_done (by kernel_rfl) ?_ _
        clear hH HK
        replace va := va.next hB
        replace vb := vb.next hB
        replace hbw := bnext hbw hB
        clear hB
        go_wp2_with fail
        go_ret
        exact ⟨by rw [R1.out]; rfl, hbw⟩
      · have c8 : decide (t1 < t2) = false := decide_eq_false c7
        have R1 : Hid (r = 1) := by unfold Hid; rw [HRR.out, HAC.out, if_neg c7, if_pos (by omega)]; rfl
        clear HRR HAC
        have HK : Hid (∀ V, Below w4.heap.size w4 V → (fun V => (V.cell? ⟨w.heap.size, 0, none⟩ = some (.bool an) ∧ V.cell? ⟨w.heap.size, 1, none⟩ = some (.slice aA aS ac) ∧ V.cell? ⟨w.heap.size, 2, none⟩ = some (.int .i64 ae)) ∧ (V.cell? ⟨w.heap.size + 1, 0, none⟩ = some (.bool bn) ∧ V.cell? ⟨w.heap.size + 1, 1, none⟩ = some (.slice bA bs bc) ∧ V.cell? ⟨w.heap.size + 1, 2, none⟩ = some (.int .i64 be)) ∧ Below w4.heap.size w4 V) V) := fun V hV => ⟨va.keep V hV, vb.keep V hV, hV⟩
        have hB := bdrew w4
        refine wp_region_held_drew (S := (fun V => (V.cell? ⟨w.heap.size, 0, none⟩ = some (.bool an) ∧ V.cell? ⟨w.heap.size, 1, none⟩ = some (.slice aA aS ac) ∧ V.cell? ⟨w.heap.size, 2, none⟩ = some (.int .i64 ae)) ∧ (V.cell? ⟨w.heap.size + 1, 0, none⟩ = some (.bool bn) ∧ V.cell? ⟨w.heap.size + 1, 1, none⟩ = some (.slice bA bs bc) ∧ V.cell? ⟨w.heap.size + 1, 2, none⟩ = some (.int .i64 be)) ∧ Below w4.heap.size w4 V)) (by kernel_rfl) (HK.out _ hB) (fun hH => ?_)
        refine wpAnyH_take (i := 0) (oi := ⟨_, _, _, _, _, _⟩) (v := ?_) rfl (by kernel_rfl) (by kernel_rfl) (by kernel_rfl) (fun _ _ _ h => h) (Or.inl ⟨by rfl, ?_⟩) hH ?_
        rotate_left
        · (intro w hSw; (try dsimp only at hSw); go_simp; try (with_reducible rfl))
        simp only [Act.put, List.setIfInBounds_toArray, List.set_cons_zero, List.set_cons_succ]
        refine wpAnyH_take (i := 2) (oi := ⟨_, _, _, _, _, _⟩) (v := ?_) rfl (by kernel_rfl) (by kernel_rfl) (by kernel_rfl) (fun _ _ _ h => h) (Or.inl ⟨by rfl, ?_⟩) hH ?_
        rotate_left
        · (intro w hSw; (try dsimp only at hSw); go_simp; try (with_reducible rfl))
        simp only [Act.put, List.setIfInBounds_toArray, List.set_cons_zero, List.set_cons_succ]
        refine wpAnyH_take (i := 5) (oi := ⟨_, _, _, _, _, _⟩) (v := ?_) rfl (by kernel_rfl) (by kernel_rfl) (by kernel_rfl) (fun _ _ _ h => h) (Or.inl ⟨by rfl, ?_⟩) hH ?_
        rotate_left
        · (intro w hSw; (try dsimp only at hSw); go_simp; try (with_reducible rfl))
        simp only [Act.put, List.setIfInBounds_toArray, List.set_cons_zero, List.set_cons_succ]
        refine wpAnyH_take (i := 6) (oi := ⟨_, _, _, _, _, _⟩) (v := ?_) rfl (by kernel_rfl) (by kernel_rfl) (by kernel_rfl) (fun _ _ _ h => h) (Or.inl ⟨by rfl, ?_⟩) hH ?_
        rotate_left
        · (intro w hSw; (try dsimp only at hSw); go_simp; try (with_reducible rfl))
        simp only [Act.put, List.setIfInBounds_toArray, List.set_cons_zero, List.set_cons_succ]
        refine wpAnyH_ready (rs := [1]) (by kernel_rfl) (by simp) ?_
        refine AllReadyH.cons (o := ⟨_, _, _, _, _, _⟩) rfl (fun K hK => ?_) AllReadyH.nil
        go_simp
        refine (rtop_any an aA aS ac al ae _ (va.sl.below hB) (by omega) HVA.out).mono ?_
        rw [H1.out]
        rintro e w51 ⟨rfl, hc⟩
        replace hB := bnext hB hc
        clear hc
        go_wp2_with fail
        refine hK.out _ _ (HK.out _ hB) (fun hH => ?_)
        clear hK K
        refine wpAnyH_ready (rs := [3]) (by kernel_rfl) (by simp) ?_
        refine AllReadyH.cons (o := ⟨_, _, _, _, _, _⟩) rfl (fun K hK => ?_) AllReadyH.nil
        go_simp
        refine (rtop_any bn bA bs bc bl be _ (vb.sl.below hB) (by omega) HVB.out).mono ?_
        rw [H2.out]
        rintro e w52 ⟨rfl, hc⟩
        replace hB := bnext hB hc
        clear hc
        go_wp2_with fail
        refine hK.out _ _ (HK.out _ hB) (fun hH => ?_)
        clear hK K
        refine wpAnyH_take (i := 4) (oi := ⟨_, _, _, _, _, _⟩) (v := ?_) rfl (by kernel_rfl) (by kernel_rfl) (by kernel_rfl) (fun _ _ _ h => h) (Or.inl ⟨by rfl, ?_⟩) hH ?_
        rotate_left
        · (intro w hSw; (try dsimp only at hSw); go_simp; try (with_reducible rfl))
        simp only [Act.put, List.setIfInBounds_toArray, List.set_cons_zero, List.set_cons_succ]
        refine wpAnyH_take (i := 7) (oi := ⟨_, _, _, _, _, _⟩) (v := ?_) rfl (by kernel_rfl) (by kernel_rfl) (by kernel_rfl) (fun _ _ _ h => h) (Or.inl ⟨by rfl, ?_⟩) hH ?_
        rotate_left
        · (intro w hSw; (try dsimp only at hSw); go_simp; try (with_reducible rfl))
        simp only [Act.put, List.setIfInBounds_toArray, List.set_cons_zero, List.set_cons_succ]
        refine wpAnyH_done (by kernel_rfl) ?_ _
        clear hH HK
        replace va := va.next hB
        replace vb := vb.next hB
        replace hbw := bnext hbw hB
        clear hB
        go_wp2_with fail
        go_ret
        exact ⟨by rw [R1.out]; rfl, hbw⟩
  have c6 : (t1 != t2) = false := by rw [c5]; simp
  have hac : acp = cmpN (val al * 2 ^ (ae - min ae be).toNat) (val bl * 2 ^ (be - min ae be).toNat) := by rw [HAC.out, if_neg (by omega), if_neg (by omega)]
  have HSU2 := Lib.hid (HSU.out HAN.out HBN.out (HSG.out HAN.out HBN.out (by first | rfl | trivial)))
  rw [← hac, ← HRR.out] at HSU2
  clear HAC HRR HSU c5 hac
  go_wp2_with fail
  have HK : Hid (∀ V, Below w4.heap.size w4 V → (fun V => (V.cell? ⟨w.heap.size, 0, none⟩ = some (.bool an) ∧ V.cell? ⟨w.heap.size, 1, none⟩ = some (.slice aA aS ac) ∧ V.cell? ⟨w.heap.size, 2, none⟩ = some (.int .i64 ae)) ∧ (V.cell? ⟨w.heap.size + 1, 0, none⟩ = some (.bool bn) ∧ V.cell? ⟨w.heap.size + 1, 1, none⟩ = some (.slice bA bs bc) ∧ V.cell? ⟨w.heap.size + 1, 2, none⟩ = some (.int .i64 be)) ∧ Below w4.heap.size w4 V) V) := fun V hV => ⟨va.keep V hV, vb.keep V hV, hV⟩
  have hB := bdrew w4
  refine wp_region_held_drew (S := (fun V => (V.cell? ⟨w.heap.size, 0, none⟩ = some (.bool an) ∧ V.cell? ⟨w.heap.size, 1, none⟩ = some (.slice aA aS ac) ∧ V.cell? ⟨w.heap.size, 2, none⟩ = some (.int .i64 ae)) ∧ (V.cell? ⟨w.heap.size + 1, 0, none⟩ = some (.bool bn) ∧ V.cell? ⟨w.heap.size + 1, 1, none⟩ = some (.slice bA bs bc) ∧ V.cell? ⟨w.heap.size + 1, 2, none⟩ = some (.int .i64 be)) ∧ Below w4.heap.size w4 V)) (by kernel_rfl) (HK.out _ hB) (fun hH => ?_)
  refine wpAnyH_take (i := 0) (oi := ⟨_, _, _, _, _, _⟩) (v := ?_) rfl (by kernel_rfl) (by kernel_rfl) (by kernel_rfl) (fun _ _ _ h => h) (Or.inl ⟨by rfl, ?_⟩) hH ?_
  rotate_left
  · (intro w hSw; (try dsimp only at hSw); go_simp; try (with_reducible rfl))
  simp only [Act.put, List.setIfInBounds_toArray, List.set_cons_zero, List.set_cons_succ]
  refine wpAnyH_take (i := 1) (oi := ⟨_, _, _, _, _, _⟩) (v := ?_) rfl (by kernel_rfl) (by kernel_rfl) (by kernel_rfl) (fun _ _ _ h => h) (Or.inl ⟨by rfl, ?_⟩) hH ?_
  rotate_left
  · (intro w hSw; (try dsimp only at hSw); go_simp; try (with_reducible rfl))
  simp only [Act.put, List.setIfInBounds_toArray, List.set_cons_zero, List.set_cons_succ]
  refine wpAnyH_ready (rs := [2]) (by kernel_rfl) (by simp) ?_
  refine AllReadyH.cons (o := ⟨_, _, _, _, _, _⟩) rfl (fun K hK => ?_) AllReadyH.nil
  go_simp
  refine (rneg_any bn bA bs bc bl be _ (vb.sl.below hB)).mono ?_
  rintro e w81 ⟨rfl, hc⟩
  replace hB := bnext hB hc
  clear hc
  go_wp2_with fail
  refine hK.out _ _ (HK.out _ hB) (fun hH => ?_)
  clear hK K
  refine wpAnyH_ready (rs := [3]) (by kernel_rfl) (by simp) ?_
  refine AllReadyH.cons (o := ⟨_, _, _, _, _, _⟩) rfl (fun K hK => ?_) AllReadyH.nil
  go_simp
  refine (rsum_any an aA aS ac al ae (rnegD ⟨bn, bl, be⟩).neg bA bs bc bl be _ (va.sl.below hB) (vb.sl.below hB) HVA.out HVN.out).mono ?_
  rintro e w82 ⟨sA, sn, sc2, rfl, hss, -, hc⟩
  replace hB := bnext hB hc
  clear hc
  go_wp2_with fail
  refine hK.out _ _ (HK.out _ hB) (fun hH => ?_)
  clear hK K
  refine wpAnyH_ready (rs := [4]) (by kernel_rfl) (by simp) ?_
  refine AllReadyH.cons (o := ⟨_, _, _, _, _, _⟩) rfl (fun K hK => ?_) AllReadyH.nil
  go_simp
  refine (rsign_raw _ sA sn sc2 _ _ _ hss).mono ?_
  rintro e w83 ⟨rfl, hc⟩
  replace hB := bnext hB hc
  clear hc
  go_wp2_with fail
  refine hK.out _ _ (HK.out _ hB) (fun hH => ?_)
  clear hK K
  refine wpAnyH_take (i := 5) (oi := ⟨_, _, _, _, _, _⟩) (v := ?_) rfl (by kernel_rfl) (by kernel_rfl) (by kernel_rfl) (fun _ _ _ h => h) (Or.inl ⟨by rfl, ?_⟩) hH ?_
  rotate_left
  · (intro w hSw; (try dsimp only at hSw); go_simp; try (with_reducible rfl))
  simp only [Act.put, List.setIfInBounds_toArray, List.set_cons_zero, List.set_cons_succ]
  refine wpAnyH_done (by kernel_rfl) ?_ _
  clear hH HK
  replace va := va.next hB
  replace vb := vb.next hB
  replace hbw := bnext hbw hB
  clear hB
  go_wp2_with fail
  go_ret
  exact ⟨by rw [← HSU2.out]; rfl, hbw⟩

end Go.Proofs.YtekajoifgdpmlaaGreatDoor
