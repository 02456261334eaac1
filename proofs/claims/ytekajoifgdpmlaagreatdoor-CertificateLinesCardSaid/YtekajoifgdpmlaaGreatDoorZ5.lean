/- Bundle 5: what the laws' walks stand on: D5, T3, L1, E2, Pair, E4, E3, M7, M8, M9, E1, Var, R5. -/
import Derived.KernelRfl
import Derived.Test.YtekajoifgdpmlaaGreatDoorZ3
import Derived.Test.YtekajoifgdpmlaaGreatDoorZ4
/-! D5 -/
namespace Go.Proofs.YtekajoifgdpmlaaGreatDoor
open Go.RowKit Pl Go.Shelf

/-- An integer as a number. -/
def intD (n : Int) : Dy := canonD (decide (n < 0)) n.natAbs 0
theorem val_two (k : Nat) : val [k % 4294967296, k / 4294967296] = k := by simp [val]; omega

theorem SL.two (w : World) (t : TypeId) (x y : Nat) (hx : x < 4294967296) (hy : y < 4294967296) : SL (w.alloc (.cells #[.int .u32 (x : Int), .int .u32 (y : Int)] t)) (some ⟨w.heap.size, 0, none⟩) 2 2 [x, y] :=
  ⟨rfl, by omega, by omega, fun z hz => by simp at hz; omega, fun _ => ⟨_, _, rfl, by simp, fun j z hz => by
    rcases j with _ | _ | j
    · simp at hz; subst hz; simp
    · simp at hz; subst hz; simp
    · simp at hz⟩⟩

set_option maxHeartbeats 1000000 in
theorem intD_nonneg (k : Nat) (w : World) (hk : k < 9223372036854775808) (ht : Tabs w) :
    Calls Tryz.prog 28 #[.int .i64 (k : Int)] w (RetD (intD k) w) := by
  have HI : Hid (intD k = canonD false (val [k % 4294967296, k / 4294967296]) 0) := by
    unfold Hid intD
    rw [val_two, show decide ((k : Int) < 0) = false from by simp, Int.natAbs_natCast]
  have HT := Lib.hid ht
  clear ht
  have e1 : (k : Int) % 4294967296 = ((k % 4294967296 : Nat) : Int) := by omega
  have e2 : (k : Int) / 4294967296 = ((k / 4294967296 : Nat) : Int) := by omega
  have E1 := Lib.hid e1
  have E2 := Lib.hid e2
  clear e1 e2
  have hdk : decide ((k : Int) < 0) = false := by simp
  go_enter Tryz.func28, Tryz.ntmps28
  go_wp2_with fail
  have e1 := E1.out
  have e2 := E2.out
  rw [e1, e2]
  clear e1 e2
  have hs0 := SL.two (w.alloc (.cells #[.bool false, .slice none 0 0, .int .i64 0] 25)) 60 (k % 4294967296) (k / 4294967296) (by omega) (by omega)
  rw [World.size_alloc] at hs0
  have hb0 : Below w.heap.size w ((w.alloc (.cells #[.bool false, .slice none 0 0, .int .i64 0] 25)).alloc (.cells #[.int .u32 ((k % 4294967296 : Nat) : Int), .int .u32 ((k / 4294967296 : Nat) : Int)] 60)) := (ballo _ _).alloc (by simp) _
  have k1 := (Blk.new w 25 #[.bool false, .slice none 0 0, .int .i64 0]).alloc (.cells #[.int .u32 ((k % 4294967296 : Nat) : Int), .int .u32 ((k / 4294967296 : Nat) : Int)] 60)
  have hz0 : w.heap.size + 2 ≤ ((w.alloc (.cells #[.bool false, .slice none 0 0, .int .i64 0] 25)).alloc (.cells #[.int .u32 ((k % 4294967296 : Nat) : Int), .int .u32 ((k / 4294967296 : Nat) : Int)] 60)).heap.size := by simp
  generalize (w.alloc (.cells #[.bool false, .slice none 0 0, .int .i64 0] 25)).alloc (.cells #[.int .u32 ((k % 4294967296 : Nat) : Int), .int .u32 ((k / 4294967296 : Nat) : Int)] 60) = W0 at *
  refine (canonical_any false _ 2 2 _ 0 _ hs0 (by omega) (by omega) (by omega) (HT.out.next hb0)).mono ?_
  rintro e w1 ⟨A1, n1, c1, rfl, hs1, hf1, hb1⟩
  rw [← HI.out] at hs1 ⊢
  have j1 := k1.below hb1 (by omega)
  obtain ⟨s0, s1, s2⟩ := j1.cells3
  have f0 := j1.frozen 0
  have f1 := j1.frozen 1
  have f2 := j1.frozen 2
  have hz1 : w.heap.size + 2 ≤ w1.heap.size := by have := hb1.size; omega
  go_wp2_with fail
  refine bodyPost_ret (resD Tryz.results28 rfl (j1.set3 _ _ _)) rfl ?_
  exact ⟨A1, n1, c1, rfl, (((hs1.far hf1 (by omega) 0 _).far hf1 (by omega) 1 _).far hf1 (by omega) 2 _), hf1.mono (by omega), below_set3 (bnext hb0 hb1) (by omega) _ _ _⟩

end Go.Proofs.YtekajoifgdpmlaaGreatDoor

/-! T3 -/
namespace Go.Proofs.YtekajoifgdpmlaaGreatDoor
open Go.RowKit Pl Go.Shelf

theorem str_info : (Tryz.prog.info? 9).map (fun i => (i.zero, i.size, i.bytes)) = some (some (.string ByteArray.empty), 1, 16) := by kernel_rfl

end Go.Proofs.YtekajoifgdpmlaaGreatDoor

/-! L1 -/
namespace Go.Proofs.YtekajoifgdpmlaaGreatDoor
open Go.RowKit Pl Go.Shelf

theorem ex_int : intD 1 = ⟨false, [1], 0⟩ := by kernel_rfl
theorem int_one (w : World) (ht : Tabs w) : Calls Tryz.prog 28 #[.int .i64 1] w (RetD ⟨false, [1], 0⟩ w) := by
  have := intD_nonneg 1 w (by omega) ht
  rw [show intD ((1 : Nat) : Int) = ⟨false, [1], 0⟩ from ex_int] at this
  exact this
theorem SL.oneAt (w : World) (t : TypeId) (z : Int) (x : Nat) (g : Nat) (hz : z = (x : Int)) (hx : x < 4294967296) (hg : g = w.heap.size) : SL (w.alloc (.cells #[.int .u32 z] t)) (some ⟨g, 0, none⟩) 1 1 [x] := by
  subst hg; exact SL.oneI w t z x hz hx

end Go.Proofs.YtekajoifgdpmlaaGreatDoor

/-! E2 -/
namespace Go.Proofs.YtekajoifgdpmlaaGreatDoor
open Go.RowKit Pl Go.Shelf

set_option maxHeartbeats 400000 in
theorem rsign_any (neg : Bool) (A : Option Addr) (n c : Nat) (l : List Nat) (x : Int) (w : World) (h : SL w A n c l) (hv : vld ⟨neg, l, x⟩ = true) :
    Calls Tryz.prog 69 #[.agg #[.bool neg, .slice A n c, .int .i64 x]] w fun e w' => e = .returned (.int .i64 (sgnD ⟨neg, l, x⟩)) ∧ Below w.heap.size w w' := by
  have HB : Hid (sgnD ⟨neg, l, x⟩ = if n ≠ 0 then (if neg then -1 else 1) else 0) := by
    unfold Hid sgnD
    simp only [ne_nil_iff h, hv, true_and]
  generalize sgnD ⟨neg, l, x⟩ = r at *
  by_cases h0 : n = 0
  · subst h0
    go_enter Tryz.func69, Tryz.ntmps69
    go_wp2_with fail
    go_ret
    exact ⟨by rw [HB.out]; rfl, ballo _ _⟩
  · have h0' : ((n : Int) == 0) = false := by simp; omega
    cases neg
    all_goals
      go_enter Tryz.func69, Tryz.ntmps69
      go_wp2_with fail
      go_ret
      exact ⟨by rw [HB.out, if_pos h0]; rfl, ballo _ _⟩

theorem vld_trim {neg : Bool} {l : List Nat} {x : Int} (hv : vld ⟨neg, l, x⟩ = true) : Trim l := by
  by_cases hn : l = []
  · subst hn; simp [Trim]
  · exact (vld_bounds hv hn).2.1

set_option maxHeartbeats 400000 in
theorem rtop_any (neg : Bool) (A : Option Addr) (n c : Nat) (l : List Nat) (x : Int) (w : World) (h : SL w A n c l) (hn : n ≤ 1000000) (hv : vld ⟨neg, l, x⟩ = true) :
    Calls Tryz.prog 216 #[.agg #[.bool neg, .slice A n c, .int .i64 x]] w fun e w' => e = .returned (.int .i64 (topD ⟨neg, l, x⟩)) ∧ Below w.heap.size w w' := by
  have HB : Hid (topD ⟨neg, l, x⟩ = if n ≠ 0 then (blen (val l) : Int) + x else 0) := by
    unfold Hid topD
    simp only [ne_nil_iff h, hv, true_and]
  have HBD : Hid (n ≠ 0 → blen (val l) ≤ 4096 ∧ -16384 ≤ x ∧ x ≤ 16384) := fun h2 => by
    have := vld_bounds hv ((ne_nil_iff h).2 h2)
    exact ⟨this.2.2.2.1, this.2.2.2.2.1, this.2.2.2.2.2.1⟩
  have HTr := Lib.hid (vld_trim hv)
  generalize topD ⟨neg, l, x⟩ = r at *
  have h1 := h.alloc (.cells #[.bool neg, .slice A n c, .int .i64 x] 25)
  by_cases h0 : n = 0
  · subst h0
    go_enter Tryz.func216, Tryz.ntmps216
    go_wp2_with fail
    go_ret
    exact ⟨by rw [HB.out]; rfl, ballo _ _⟩
  · have h0' : ((n : Int) == 0) = false := by simp; omega
    obtain ⟨hb3, hb4, hb5⟩ := HBD.out h0
    have HB2 : Hid (r = (blen (val l) : Int) + x) := by unfold Hid; rw [HB.out, if_pos h0]
    clear hv
    generalize hN : blen (val l) = N at *
    have HN := Lib.hid hN
    clear hN
    have hw : IntKind.i64.wrap ((N : Int) + x) = (N : Int) + x := IntWalk.i64_in _ (by omega)
    go_enter Tryz.func216, Tryz.ntmps216
    go_wp2_with fail
    have c0 := (Blk.new w 25 #[.bool neg, .slice A n c, .int .i64 x]).cells3
    obtain ⟨-, c1, c2⟩ := c0
    have HQ : Hid (∀ q, Calls Tryz.prog 134 #[.slice A n c] ((w.alloc (.cells #[.bool neg, .slice A n c, .int .i64 x] 25)).drewN q) fun e w' => e = .returned (.int .i64 (N : Int)) ∧ w' = (w.alloc (.cells #[.bool neg, .slice A n c, .int .i64 x] 25)).drewN q) := fun q => by
      have := rbits_any A n c l _ (h1.drewN q) hn HTr.out
      rw [HN.out] at this
      exact this.mono (fun e w' ⟨he, hw⟩ => ⟨he, hw.symm⟩)
    have hbb := ballo w (.cells #[.bool neg, .slice A n c, .int .i64 x] 25)
    generalize w.alloc (.cells #[.bool neg, .slice A n c, .int .i64 x] 25) = W at *
    go_quiet ((go_at_call 134; exact Calls.quiet_of_same (HQ.out _)))
    go_wp2_with fail
    go_ret
    exact ⟨by rw [HB2.out]; rfl, below_drewN hbb _⟩

/-- The opposite, which shares the limbs of its argument. -/
def rnegD (d : Dy) : Dy := ⟨!d.neg && decide (d.l ≠ []), d.l, d.e⟩
theorem rneg_eq (d : Dy) (hv : vld d = true) : rnegD d = negD d := by
  obtain ⟨neg, l, x⟩ := d
  by_cases hl : l = []
  · subst hl
    rw [vld_nil] at hv
    simp at hv
    obtain ⟨rfl, rfl⟩ := hv
    rfl
  · unfold rnegD negD
    rw [if_pos ⟨hv, hl⟩]
    simp [hl]

theorem Blk.newAt (w : World) (t : TypeId) (cs : Array Value) {g : Nat} (hg : g = w.heap.size) : Blk (w.alloc (.cells cs t)) g t cs := by
  subst hg
  exact Blk.new w t cs

set_option maxHeartbeats 4000000 in
theorem rneg_any (neg : Bool) (A : Option Addr) (n c : Nat) (l : List Nat) (x : Int) (w : World) (h : SL w A n c l) :
    Calls Tryz.prog 218 #[.agg #[.bool neg, .slice A n c, .int .i64 x]] w fun e w' => e = .returned (.agg #[.bool (rnegD ⟨neg, l, x⟩).neg, .slice A n c, .int .i64 x]) ∧ Below w.heap.size w w' := by
  have HB : Hid ((rnegD ⟨neg, l, x⟩).neg = (!neg && decide (n ≠ 0))) := by
    unfold Hid rnegD
    simp only []
    congr 1
    exact decide_eq_decide.2 (ne_nil_iff h)
  rw [HB.out]
  cases neg
  · by_cases h0 : n = 0
    · subst h0
      rw [show (!false && decide (0 ≠ 0)) = false from rfl]
      go_enter Tryz.func218, Tryz.ntmps218
      go_wp2_with fail
      refine bodyPost_ret (resD Tryz.results218 rfl (Blk.newAt _ _ _ (by simp))) rfl ?_
      exact ⟨by first | rfl | rw [h0n], (ballo w _).alloc (by simp) _⟩
    · have h0' : decide (0 < (n : Int)) = true := by simp; omega
      have h0'' : decide (n ≠ 0) = true := by simp; omega
      have h0n : decide (0 < n) = true := by simp; omega
      rw [h0'', show (!false && true) = true from rfl]
      go_enter Tryz.func218, Tryz.ntmps218
      go_wp2_with fail
      refine bodyPost_ret (resD Tryz.results218 rfl (Blk.newAt _ _ _ (by simp))) rfl ?_
      exact ⟨by first | rfl | rw [h0n], (ballo w _).alloc (by simp) _⟩
  · rw [show (!true && decide (n ≠ 0)) = false from rfl]
    go_enter Tryz.func218, Tryz.ntmps218
    go_wp2_with fail
    refine bodyPost_ret (resD Tryz.results218 rfl (Blk.newAt _ _ _ (by simp))) rfl ?_
    exact ⟨by first | rfl | rw [h0n], (ballo w _).alloc (by simp) _⟩

end Go.Proofs.YtekajoifgdpmlaaGreatDoor

/-! Pair -/
namespace Go.Proofs.YtekajoifgdpmlaaGreatDoor
open Go.RowKit Pl Go.Shelf

/-- The limbs do not lie in block g. -/
def Off (A : Option Addr) (n g : Nat) : Prop := 0 < n → ∃ ad, A = some ad ∧ ad.block ≠ g
theorem Off.fresh {A : Option Addr} {n g B : Nat} (h : Fresh B A n) (hg : g < B) : Off A n g := fun hn => by
  obtain ⟨ad, e, hb⟩ := h hn
  exact ⟨ad, e, by omega⟩
theorem Off.old {w : World} {A : Option Addr} {n c g : Nat} {l : List Nat} (h : SL w A n c l) (hg : w.heap.size ≤ g) : Off A n g := fun hn => by
  obtain ⟨b, off, e, hb, _⟩ := h.at_ hn
  exact ⟨_, e, by simp only; omega⟩
theorem SL.off {w : World} {A : Option Addr} {n c g : Nat} {l : List Nat} (h : SL w A n c l) (hf : Off A n g) (i : Nat) (x : Value) : SL (w.setCell ⟨g, i, none⟩ x) A n c l := by
  refine ⟨h.len, h.cap, h.max, h.lt, fun hn => ?_⟩
  obtain ⟨b, off, rfl, hb, hc⟩ := h.at_ hn
  obtain ⟨ad, e, hB⟩ := hf hn
  injection e with e
  subst e
  have hB : b ≠ g := hB
  refine ⟨b, off, rfl, by simpa [World.setCell] using hb, fun j y hy => ?_⟩
  rw [World.cell?_setCell_other _ _ _ _ (by intro e; injection e with e1; omega)]
  exact hc j y hy
theorem SL.off3 {w : World} {A : Option Addr} {n c g : Nat} {l : List Nat} (h : SL w A n c l) (hf : Off A n g) (x0 x1 x2 : Value) : SL (((w.setCell ⟨g, 0, none⟩ x0).setCell ⟨g, 1, none⟩ x1).setCell ⟨g, 2, none⟩ x2) A n c l :=
  ((h.off hf 0 x0).off hf 1 x1).off hf 2 x2
theorem Blk.off3 {w : World} {g g' : Nat} {t : TypeId} {cs : Array Value} (h : Blk w g' t cs) (hg : g' ≠ g) (x0 x1 x2 : Value) : Blk (((w.setCell ⟨g, 0, none⟩ x0).setCell ⟨g, 1, none⟩ x1).setCell ⟨g, 2, none⟩ x2) g' t cs :=
  ((h.far (p := ⟨g, 0, none⟩) hg x0).far (p := ⟨g, 1, none⟩) hg x1).far (p := ⟨g, 2, none⟩) hg x2
end Go.Proofs.YtekajoifgdpmlaaGreatDoor

/-! E4 -/
namespace Go.Proofs.YtekajoifgdpmlaaGreatDoor
open Go.RowKit Pl Go.Shelf

theorem vld_neg {d : Dy} (hv : vld d = true) : vld (negD d) = true := by
  unfold negD
  split
  · rename_i h
    unfold vld at hv ⊢
    simp only [decide_eq_true_eq] at hv ⊢
    rcases hv with h' | h'
    · exact absurd h'.1 h.2
    · exact .inr h'
  · rfl

end Go.Proofs.YtekajoifgdpmlaaGreatDoor

/-! E3 -/
namespace Go.Proofs.YtekajoifgdpmlaaGreatDoor
open Go.RowKit Pl Go.Shelf

/-- The comparison of the absolute values of two valid numbers that are not 0. -/
def acmp (d d' : Dy) : Int := if (blen (val d.l) : Int) + d.e < (blen (val d'.l) : Int) + d'.e then -1 else if (blen (val d'.l) : Int) + d'.e < (blen (val d.l) : Int) + d.e then 1 else
  cmpN (val d.l * 2 ^ (d.e - min d.e d'.e).toNat) (val d'.l * 2 ^ (d'.e - min d.e d'.e).toNat)
def cmpD (d d' : Dy) : Int := if vld d = true ∧ vld d' = true then (if sgnD d < sgnD d' then -1 else if sgnD d' < sgnD d then 1 else if sgnD d = 0 then 0 else sgnD d * acmp d d') else 0

set_option maxHeartbeats 4000000 in
theorem compare_any (neg neg' : Bool) (A B : Option Addr) (n c m d : Nat) (l l' : List Nat) (x x' : Int) (w : World) (h : SL w A n c l) (h' : SL w B m d l')
    (hv : vld ⟨neg, l, x⟩ = true) (hv' : vld ⟨neg', l', x'⟩ = true) (hne : n ≠ 0) (hne' : m ≠ 0) :
    Calls Tryz.prog 139 #[.agg #[.bool neg, .slice A n c, .int .i64 x], .agg #[.bool neg', .slice B m d, .int .i64 x']] w fun e w' => e = .returned (.int .i64 (acmp ⟨neg, l, x⟩ ⟨neg', l', x'⟩)) ∧ Below w.heap.size w w' := by
  obtain ⟨mn, hmn⟩ : ∃ mn, min x x' = mn := ⟨_, rfl⟩
  obtain ⟨b1, b2, b3, b4, b5, b6, b7⟩ := vld_bounds hv ((ne_nil_iff h).2 hne)
  obtain ⟨b1', b2', b3', b4', b5', b6', b7'⟩ := vld_bounds hv' ((ne_nil_iff h').2 hne')
  have hn256 : n ≤ 256 := by rw [← h.len]; exact b1
  have hm256 : m ≤ 256 := by rw [← h'.len]; exact b1'
  have B3 := Lib.hid b3
  have B3' := Lib.hid b3'
  have TT : Hid (topD ⟨neg, l, x⟩ = (blen (val l) : Int) + x) := by unfold Hid topD; rw [if_pos ⟨hv, (ne_nil_iff h).2 hne⟩]
  have TT' : Hid (topD ⟨neg', l', x'⟩ = (blen (val l') : Int) + x') := by unfold Hid topD; rw [if_pos ⟨hv', (ne_nil_iff h').2 hne'⟩]
  have hm1 : mn ≤ x := by omega
  have hm2 : mn ≤ x' := by omega
  have hm3 : mn = x ∨ mn = x' := by omega
  simp only at b4 b5 b6 b7 b4' b5' b6' b7'
  have hm4 : -16384 ≤ mn := by omega
  have HM3 := Lib.hid hm3
  have HMN := Lib.hid hmn
  have HR : Hid (acmp ⟨neg, l, x⟩ ⟨neg', l', x'⟩ = if (blen (val l) : Int) + x < (blen (val l') : Int) + x' then -1 else if (blen (val l') : Int) + x' < (blen (val l) : Int) + x then 1 else
      cmpN (val l * 2 ^ (x - mn).toNat) (val l' * 2 ^ (x' - mn).toNat)) := by unfold Hid acmp; rw [← hmn]
  generalize acmp ⟨neg, l, x⟩ ⟨neg', l', x'⟩ = r at *
  clear b1 b1' b2 b2' b3 b3' hmn hv hv' hm3
  go_enter Tryz.func139, Tryz.ntmps139
  go_wp2_with fail
  have k1 := (Blk.new w 25 #[.bool neg, .slice A n c, .int .i64 x]).alloc (.cells #[.bool neg', .slice B m d, .int .i64 x'] 25)
  have k2 := Blk.newAt (w.alloc (.cells #[.bool neg, .slice A n c, .int .i64 x] 25)) 25 #[.bool neg', .slice B m d, .int .i64 x'] (g := w.heap.size + 1) (by simp)
  have k5 := (ballo w (.cells #[.bool neg, .slice A n c, .int .i64 x] 25)).alloc (by simp) (.cells #[.bool neg', .slice B m d, .int .i64 x'] 25)
  have h1 := h.below k5
  have h1' := h'.below k5
  generalize (w.alloc (.cells #[.bool neg, .slice A n c, .int .i64 x] 25)).alloc (.cells #[.bool neg', .slice B m d, .int .i64 x'] 25) = W0 at *
  obtain ⟨s0, s1, s2⟩ := k1.cells3
  obtain ⟨t0, t1, t2⟩ := k2.cells3
  have hg0 : w.heap.size < W0.drew.heap.size := k1.lt
  have hg1 : w.heap.size + 1 < W0.drew.heap.size := k2.lt
  go_region_held3 (fun W => W.cell? ⟨w.heap.size, 0, none⟩ = some (.bool neg) ∧ W.cell? ⟨w.heap.size, 1, none⟩ = some (.slice A n c) ∧ W.cell? ⟨w.heap.size, 2, none⟩ = some (.int .i64 x) ∧ W.cell? ⟨w.heap.size + 1, 0, none⟩ = some (.bool neg') ∧ W.cell? ⟨w.heap.size + 1, 1, none⟩ = some (.slice B m d) ∧ W.cell? ⟨w.heap.size + 1, 2, none⟩ = some (.int .i64 x'))
    (first | exact ⟨s0, s1, s2, t0, t1, t2⟩ | exact keep6 hbA hg0 hg1 ⟨s0, s1, s2, t0, t1, t2⟩ | exact keep6 (bnext hbA hbB) hg0 hg1 ⟨s0, s1, s2, t0, t1, t2⟩)
    (first
      | (go_at_call 156; (with_reducible refine (topD_any neg A n c l x _ h1.drew (by omega)).mono ?_); rintro e wA ⟨rfl, hbA⟩)
      | (go_at_call 156; (with_reducible refine (topD_any neg' B m d l' x' _ (h1'.drew.below hbA) (by omega)).mono ?_); rintro e wB ⟨rfl, hbB⟩))
  rw [TT.out, TT'.out]
  have hbAB := bnext hbA hbB
  have k1B := k1.drew.below hbAB hg0
  have k2B := k2.drew.below hbAB hg1
  have hbw : Below w.heap.size w wB := bnext (below_drewN k5 1) hbAB
  have h2 := h1.drew.below hbAB
  have h2' := h1'.drew.below hbAB
  clear k1 k2 k5 h1 h1' s0 s1 s2 t0 t1 t2 hbA hbB hbAB TT TT' hg0 hg1
  obtain ⟨s0, s1, s2⟩ := k1B.cells3
  obtain ⟨t0, t1, t2⟩ := k2B.cells3
  have hg0 : w.heap.size < wB.drew.heap.size := k1B.lt
  have hg1 : w.heap.size + 1 < wB.drew.heap.size := k2B.lt
  generalize hN1 : blen (val l) = N1 at *
  generalize hN2 : blen (val l') = N2 at *
  have HBN1 := Lib.hid hN1
  have HBN2 := Lib.hid hN2
  clear hN1 hN2
  by_cases c1 : (N1 : Int) + x < (N2 : Int) + x'
  · have R1 : Hid (r = -1) := by unfold Hid; rw [HR.out, if_pos c1]
    go_wp2_with fail
    go_ret
    exact ⟨by rw [R1.out]; rfl, hbw⟩
  by_cases c2 : (N2 : Int) + x' < (N1 : Int) + x
  · have R1 : Hid (r = 1) := by unfold Hid; rw [HR.out, if_neg c1, if_pos c2]
    go_wp2_with fail
    go_ret
    exact ⟨by rw [R1.out]; rfl, hbw⟩
  have q1e : ∃ q1 : Nat, x - mn = (q1 : Int) := ⟨(x - mn).toNat, by omega⟩
  have q2e : ∃ q2 : Nat, x' - mn = (q2 : Int) := ⟨(x' - mn).toNat, by omega⟩
  obtain ⟨q1, hq1⟩ := q1e
  obtain ⟨q2, hq2⟩ := q2e
  have hm3 := HM3.out
  have hT1 : N1 + q1 ≤ 4097 := by omega
  have hT2 : N2 + q2 ≤ 4097 := by omega
  have hq1b : q1 ≤ 65536 := by omega
  have hq2b : q2 ≤ 65536 := by omega
  have P1 : 0 < val l := by have := B3.out; omega
  have P2 : 0 < val l' := by have := B3'.out; omega
  have L1 : Hid (blen (val l * 2 ^ q1) = N1 + q1) := by unfold Hid; rw [blen_mul_pow _ _ P1, HBN1.out]
  have L2 : Hid (blen (val l' * 2 ^ q2) = N2 + q2) := by unfold Hid; rw [blen_mul_pow _ _ P2, HBN2.out]
  have D1 : Hid ((digs (val l * 2 ^ q1)).length ≤ 256) := Nat.le_trans (digs_len_blen _ 129 (by rw [L1.out]; omega)) (by omega)
  have D2 : Hid ((digs (val l' * 2 ^ q2)).length ≤ 256) := Nat.le_trans (digs_len_blen _ 129 (by rw [L2.out]; omega)) (by omega)
  have E1 : Hid ((x - mn).toNat = q1) := by unfold Hid; omega
  have E2 : Hid ((x' - mn).toNat = q2) := by unfold Hid; omega
  have HRR : Hid (r = cmpN (val l * 2 ^ q1) (val l' * 2 ^ q2)) := by unfold Hid; rw [HR.out, if_neg c1, if_neg c2, E1.out, E2.out]
  have W1 : IntKind.i64.wrap (x - mn) = (q1 : Int) := by rw [hq1]; exact IntWalk.i64_in _ (by omega)
  have W2 : IntKind.i64.wrap (x' - mn) = (q2 : Int) := by rw [hq2]; exact IntWalk.i64_in _ (by omega)
  clear hm3 hq1 hq2 P1 P2 HR
  go_wp2_with fail
  rw [HMN.out]
  go_region_held3 (fun W => W.cell? ⟨w.heap.size, 1, none⟩ = some (.slice A n c) ∧ W.cell? ⟨w.heap.size, 2, none⟩ = some (.int .i64 x) ∧ W.cell? ⟨w.heap.size + 1, 1, none⟩ = some (.slice B m d) ∧ W.cell? ⟨w.heap.size + 1, 2, none⟩ = some (.int .i64 x'))
    (first | exact ⟨s1, s2, t1, t2⟩ | exact keep4 hbC hg0 hg1 ⟨s1, s2, t1, t2⟩ | exact keep4 (bnext hbC hbD) hg0 hg1 ⟨s1, s2, t1, t2⟩ | exact keep4 (below_drewN (bnext hbC hbD) q) hg0 hg1 ⟨s1, s2, t1, t2⟩)
    (first
      | (go_at_call 157; (with_reducible refine (shifted_int A n c q1 _ l _ h2.drew hn256 rfl hq1b D1.out).mono ?_); rintro e wC ⟨AC, nC, cC, rfl, hsC, hfC, hbC⟩)
      | (go_at_call 157; (with_reducible refine (shifted_int B m d q2 _ l' _ (h2'.drew.below hbC) hm256 rfl hq2b D2.out).mono ?_); rintro e wD ⟨AD, nD, cD, rfl, hsD, hfD, hbD⟩)
      | (go_at_call 159; (refine (ncmp_any AC AD nC cC nD cD (digs (val l * 2 ^ q1)) (digs (val l' * 2 ^ q2)) _ (hsC.below hbD) hsD).mono ?_); rw [val_digs, val_digs]; rintro e wE ⟨rfl, q, rfl⟩))
  go_wp2_with fail
  go_ret
  exact ⟨by rw [HRR.out]; rfl, below_drewN (bnext (below_drewN hbw 1) (bnext hbC hbD)) q⟩

theorem sgn_ne {neg : Bool} {w : World} {A : Option Addr} {n c : Nat} {l : List Nat} {x : Int} (h : SL w A n c l) (hs : sgnD ⟨neg, l, x⟩ ≠ 0) : n ≠ 0 := by
  intro h0
  apply hs
  unfold sgnD
  rw [if_neg (by rw [ne_nil_iff h]; exact fun h => h.2 h0)]
theorem sgn_cases (d : Dy) : sgnD d = -1 ∨ sgnD d = 0 ∨ sgnD d = 1 := by
  unfold sgnD
  split
  · split <;> simp
  · simp
theorem cmpN_cases (a b : Nat) : cmpN a b = -1 ∨ cmpN a b = 0 ∨ cmpN a b = 1 := by
  unfold cmpN
  split
  · exact .inl rfl
  · split
    · exact .inr (.inr rfl)
    · exact .inr (.inl rfl)
theorem acmp_cases (d d' : Dy) : acmp d d' = -1 ∨ acmp d d' = 0 ∨ acmp d d' = 1 := by
  unfold acmp
  split
  · simp
  · split
    · simp
    · exact cmpN_cases _ _

set_option maxHeartbeats 4000000 in
theorem cmpD_any (neg neg' : Bool) (A B : Option Addr) (n c m d : Nat) (l l' : List Nat) (x x' : Int) (w : World) (h : SL w A n c l) (h' : SL w B m d l') (hn : n ≤ 1000000) (hm : m ≤ 1000000) :
    Calls Tryz.prog 75 #[.agg #[.bool neg, .slice A n c, .int .i64 x], .agg #[.bool neg', .slice B m d, .int .i64 x']] w fun e w' => e = .returned (.int .i64 (cmpD ⟨neg, l, x⟩ ⟨neg', l', x'⟩)) ∧ Below w.heap.size w w' := by
  have HR : Hid (cmpD ⟨neg, l, x⟩ ⟨neg', l', x'⟩ = if vld ⟨neg, l, x⟩ = true ∧ vld ⟨neg', l', x'⟩ = true then (if sgnD ⟨neg, l, x⟩ < sgnD ⟨neg', l', x'⟩ then -1 else if sgnD ⟨neg', l', x'⟩ < sgnD ⟨neg, l, x⟩ then 1 else if sgnD ⟨neg, l, x⟩ = 0 then 0 else sgnD ⟨neg, l, x⟩ * acmp ⟨neg, l, x⟩ ⟨neg', l', x'⟩) else 0) := rfl
  generalize cmpD ⟨neg, l, x⟩ ⟨neg', l', x'⟩ = r at *
  go_enter Tryz.func75, Tryz.ntmps75
  go_wp2_with fail
  have k1 := (Blk.new w 25 #[.bool neg, .slice A n c, .int .i64 x]).alloc (.cells #[.bool neg', .slice B m d, .int .i64 x'] 25)
  have k2 := Blk.newAt (w.alloc (.cells #[.bool neg, .slice A n c, .int .i64 x] 25)) 25 #[.bool neg', .slice B m d, .int .i64 x'] (g := w.heap.size + 1) (by simp)
  have k5 := (ballo w (.cells #[.bool neg, .slice A n c, .int .i64 x] 25)).alloc (by simp) (.cells #[.bool neg', .slice B m d, .int .i64 x'] 25)
  have h1 := h.below k5
  have h1' := h'.below k5
  generalize (w.alloc (.cells #[.bool neg, .slice A n c, .int .i64 x] 25)).alloc (.cells #[.bool neg', .slice B m d, .int .i64 x'] 25) = W0 at *
  refine (valid_any neg A n c l x _ h1 (by omega)).mono ?_
  rintro e w1 ⟨rfl, hb1⟩
  cases hv : vld ⟨neg, l, x⟩
  · go_wp2_with fail
    go_ret
    exact ⟨by rw [HR.out, hv]; rfl, bnext k5 hb1⟩
  have HV := Lib.hid hv
  clear hv
  obtain ⟨t0, t1, t2⟩ := (k2.below hb1 k2.lt).cells3
  go_wp2_with fail
  refine (valid_any neg' B m d l' x' _ (h1'.below hb1) (by omega)).mono ?_
  rintro e w2 ⟨rfl, hb2⟩
  have hb02 := bnext hb1 hb2
  cases hv' : vld ⟨neg', l', x'⟩
  · go_wp2_with fail
    go_ret
    exact ⟨by rw [HR.out, hv']; simp, bnext k5 hb02⟩
  have HV' := Lib.hid hv'
  clear hv'
  have k1B := k1.below hb02 k1.lt
  have k2B := k2.below hb02 k2.lt
  have h2 := h1.below hb02
  have h2' := h1'.below hb02
  have hbw2 := bnext k5 hb02
  have HR2 : Hid (r = if sgnD ⟨neg, l, x⟩ < sgnD ⟨neg', l', x'⟩ then -1 else if sgnD ⟨neg', l', x'⟩ < sgnD ⟨neg, l, x⟩ then 1 else if sgnD ⟨neg, l, x⟩ = 0 then 0 else sgnD ⟨neg, l, x⟩ * acmp ⟨neg, l, x⟩ ⟨neg', l', x'⟩) := by
    unfold Hid; rw [HR.out, if_pos ⟨HV.out, HV'.out⟩]
  clear k1 k2 k5 h1 h1' hb1 hb2 hb02 t0 t1 t2 HR
  obtain ⟨s0, s1, s2⟩ := k1B.cells3
  obtain ⟨t0, t1, t2⟩ := k2B.cells3
  have hg0 : w.heap.size < w2.drew.heap.size := k1B.lt
  have hg1 : w.heap.size + 1 < w2.drew.heap.size := k2B.lt
  have sc := sgn_cases ⟨neg, l, x⟩
  have sc' := sgn_cases ⟨neg', l', x'⟩
  have HNE : Hid (sgnD ⟨neg, l, x⟩ ≠ 0 → n ≠ 0) := fun hs => sgn_ne h hs
  have HNE' : Hid (sgnD ⟨neg', l', x'⟩ ≠ 0 → m ≠ 0) := fun hs => sgn_ne h' hs
  have HA := Lib.hid (acmp_cases ⟨neg, l, x⟩ ⟨neg', l', x'⟩)
  generalize hS : sgnD ⟨neg, l, x⟩ = S at *
  generalize hS' : sgnD ⟨neg', l', x'⟩ = S' at *
  have HS := Lib.hid hS
  have HS' := Lib.hid hS'
  clear hS hS'
  go_wp2_with fail
  go_region_held3 (fun W => W.cell? ⟨w.heap.size, 0, none⟩ = some (.bool neg) ∧ W.cell? ⟨w.heap.size, 1, none⟩ = some (.slice A n c) ∧ W.cell? ⟨w.heap.size, 2, none⟩ = some (.int .i64 x) ∧ W.cell? ⟨w.heap.size + 1, 0, none⟩ = some (.bool neg') ∧ W.cell? ⟨w.heap.size + 1, 1, none⟩ = some (.slice B m d) ∧ W.cell? ⟨w.heap.size + 1, 2, none⟩ = some (.int .i64 x'))
    (first | exact ⟨s0, s1, s2, t0, t1, t2⟩ | exact keep6 hbA hg0 hg1 ⟨s0, s1, s2, t0, t1, t2⟩ | exact keep6 (bnext hbA hbB) hg0 hg1 ⟨s0, s1, s2, t0, t1, t2⟩)
    (first
      | (go_at_call 63; (with_reducible refine (signD_any neg A n c l x _ h2.drew (by omega)).mono ?_); rw [HS.out]; rintro e wA ⟨rfl, hbA⟩)
      | (go_at_call 63; (with_reducible refine (signD_any neg' B m d l' x' _ (h2'.drew.below hbA) (by omega)).mono ?_); rw [HS'.out]; rintro e wB ⟨rfl, hbB⟩))
  have hbAB := bnext hbA hbB
  have k1C := k1B.drew.below hbAB hg0
  have k2C := k2B.drew.below hbAB hg1
  have hbw : Below w.heap.size w wB := bnext (below_drewN hbw2 1) hbAB
  have h3 := h2.drew.below hbAB
  have h3' := h2'.drew.below hbAB
  clear k1B k2B h2 h2' s0 s1 s2 t0 t1 t2 hbA hbB hbAB hg0 hg1 hbw2 HS HS'
  obtain ⟨s0, s1, s2⟩ := k1C.cells3
  obtain ⟨t0, t1, t2⟩ := k2C.cells3
  by_cases c1 : S < S'
  · have R1 : Hid (r = -1) := by unfold Hid; rw [HR2.out, if_pos c1]
    go_wp2_with fail
    go_ret
    exact ⟨by rw [R1.out]; rfl, hbw⟩
  by_cases c2 : S' < S
  · have R1 : Hid (r = 1) := by unfold Hid; rw [HR2.out, if_neg c1, if_pos c2]
    go_wp2_with fail
    go_ret
    exact ⟨by rw [R1.out]; rfl, hbw⟩
  obtain rfl : S' = S := by omega
  by_cases c3 : S' = 0
  · subst c3
    have R1 : Hid (r = 0) := by unfold Hid; rw [HR2.out]; rfl
    go_wp2_with fail
    go_ret
    exact ⟨by rw [R1.out]; rfl, hbw⟩
  · have c4 : (S' == 0) = false := by simp; omega
    have HRR : Hid (r = S' * acmp ⟨neg, l, x⟩ ⟨neg', l', x'⟩) := by unfold Hid; rw [HR2.out, if_neg c1, if_neg c2, if_neg c3]
    clear HR2
    go_wp2_with fail
    refine (compare_any neg neg' A B n c m d l l' x x' _ h3 h3' HV.out HV'.out (HNE.out c3) (HNE'.out c3)).mono ?_
    rintro e w5 ⟨rfl, hb5⟩
    have ha := HA.out
    generalize acmp ⟨neg, l, x⟩ ⟨neg', l', x'⟩ = ac at *
    have hw : IntKind.i64.wrap (S' * ac) = S' * ac := by
      rcases sc with rfl | rfl | rfl <;> rcases ha with rfl | rfl | rfl <;> rfl
    go_wp2_with fail
    go_ret
    exact ⟨by rw [HRR.out]; first | rfl | (simp only [hw]; rfl), bnext hbw hb5⟩

end Go.Proofs.YtekajoifgdpmlaaGreatDoor

/-! M7 -/
namespace Go.Proofs.YtekajoifgdpmlaaGreatDoor
open Go.RowKit Pl Go.Shelf

theorem canon_odd {neg : Bool} {l : List Nat} {e : Int} (hL : Limbs l) (ht : Trim l) (ho : val l % 2 = 1) : canonD neg (val l) e = ⟨neg, l, e⟩ := by
  rw [canon_pos (by omega), tz_odd ho]
  simp [digs_val l hL ht]
theorem check_odd {neg : Bool} {l : List Nat} {e : Int} (hL : Limbs l) (ht : Trim l) (ho : val l % 2 = 1) : checkD neg (val l) e = if vld ⟨neg, l, e⟩ = true then (⟨neg, l, e⟩, 0) else (zeroD, 9) := by
  unfold checkD
  rw [← vld_canon, canon_odd hL ht ho]
theorem vld_zero : vld zeroD = true := rfl
theorem vld_empty {neg : Bool} {x : Int} (hv : vld ⟨neg, [], x⟩ = true) : neg = false ∧ x = 0 := by
  rw [vld_nil] at hv
  simpa using hv

end Go.Proofs.YtekajoifgdpmlaaGreatDoor

/-! M8 -/
namespace Go.Proofs.YtekajoifgdpmlaaGreatDoor
open Go.RowKit Pl Go.Shelf

/-- v 2^(e + K). -/
def za (K v : Nat) (e : Int) : Nat := v * 2 ^ (e + (K : Int)).toNat
/-- (-1)^neg v 2^(e + K). -/
def zs (K : Nat) (neg : Bool) (v : Nat) (e : Int) : Int := if neg then -(za K v e : Int) else (za K v e : Int)
def zd (K : Nat) (d : Dy) : Int := zs K d.neg (val d.l) d.e

theorem za_shift (K v k : Nat) (e : Int) (h : 0 ≤ e + (K : Int)) : za K (v * 2 ^ k) e = za K v (e + (k : Int)) := by
  unfold za
  rw [show (e + (k : Int) + (K : Int)).toNat = k + (e + (K : Int)).toNat by omega, Nat.pow_add, Nat.mul_assoc]
theorem zs_shift (K : Nat) (neg : Bool) (v k : Nat) (e : Int) (h : 0 ≤ e + (K : Int)) : zs K neg (v * 2 ^ k) e = zs K neg v (e + (k : Int)) := by
  unfold zs
  rw [za_shift K v k e h]
theorem za_zero (K : Nat) (e : Int) : za K 0 e = 0 := by simp [za]
theorem zs_zero (K : Nat) (neg : Bool) (e : Int) : zs K neg 0 e = 0 := by simp [zs, za_zero]
theorem za_pos {K v : Nat} {e : Int} (h : 0 < v) : 0 < za K v e := Nat.mul_pos h (Nat.pow_pos (by omega))

/-- A canonical form. -/
def Canon (d : Dy) : Prop := Limbs d.l ∧ ((d.l = [] ∧ d.neg = false ∧ d.e = 0) ∨ (Trim d.l ∧ val d.l % 2 = 1))

theorem canon_canon (neg : Bool) (v : Nat) (e : Int) : Canon (canonD neg v e) := by
  by_cases h : v = 0
  · subst h
    exact ⟨Limbs.nil, .inl ⟨rfl, rfl, rfl⟩⟩
  · rw [canon_pos (by omega)]
    refine ⟨limbs_digs _, .inr ⟨trim_digs _, ?_⟩⟩
    simp only [val_digs]
    exact (oddp_spec v (by omega)).2
theorem canon_of {d : Dy} (hL : Limbs d.l) (hv : vld d = true) : Canon d := by
  obtain ⟨neg, l, x⟩ := d
  refine ⟨hL, ?_⟩
  by_cases h : l = []
  · subst h
    obtain ⟨rfl, rfl⟩ := vld_empty hv
    exact .inl ⟨rfl, rfl, rfl⟩
  · have := vld_bounds hv h
    exact .inr ⟨this.2.1, this.2.2.1⟩
theorem zd_canon (K : Nat) (neg : Bool) (v : Nat) (e : Int) (h : 0 ≤ e + (K : Int)) : zd K (canonD neg v e) = zs K neg v e := by
  by_cases hv : v = 0
  · subst hv
    rw [zs_zero]
    exact zs_zero K false 0
  · have hs := (oddp_spec v (by omega)).1
    rw [canon_pos (by omega)]
    unfold zd
    simp only [val_digs]
    rw [← zs_shift K neg _ _ e h]
    rw [show v / 2 ^ tz v * 2 ^ tz v = v from hs.symm]
theorem canon_exp (K : Nat) (neg : Bool) (v : Nat) (e : Int) (h : 0 ≤ e + (K : Int)) : 0 ≤ (canonD neg v e).e + (K : Int) := by
  unfold canonD
  split
  · simp [zeroD]
  · simp only; omega

theorem za_inj {K v v' : Nat} {e e' : Int} (h1 : 0 ≤ e + (K : Int)) (h2 : 0 ≤ e' + (K : Int)) (ho : v % 2 = 1) (ho' : v' % 2 = 1) (h : za K v e = za K v' e') : v = v' ∧ e = e' := by
  unfold za at h
  have a : v = 2 * (v / 2) + 1 := by omega
  have b : v' = 2 * (v' / 2) + 1 := by omega
  have h3 : 2 ^ (e + (K : Int)).toNat * (2 * (v / 2) + 1) = 2 ^ (e' + (K : Int)).toNat * (2 * (v' / 2) + 1) := by
    rw [← a, ← b, Nat.mul_comm, h, Nat.mul_comm]
  have h4 := odd_pow_unique h3
  rw [h4] at h
  exact ⟨Nat.eq_of_mul_eq_mul_right (Nat.pow_pos (by omega)) h, by omega⟩
theorem zs_cases (K : Nat) (neg : Bool) (v : Nat) (e : Int) : (neg = false ∧ zs K neg v e = za K v e) ∨ (neg = true ∧ zs K neg v e = -(za K v e : Int)) := by
  cases neg
  · exact .inl ⟨rfl, rfl⟩
  · exact .inr ⟨rfl, rfl⟩

/-- A canonical form is given by its number. -/
theorem zd_inj {K : Nat} {d d' : Dy} (hc : Canon d) (hc' : Canon d') (h1 : 0 ≤ d.e + (K : Int)) (h2 : 0 ≤ d'.e + (K : Int)) (h : zd K d = zd K d') : d = d' := by
  obtain ⟨neg, l, x⟩ := d
  obtain ⟨neg', l', x'⟩ := d'
  obtain ⟨hL, hc⟩ := hc
  obtain ⟨hL', hc'⟩ := hc'
  simp only at hL hL' hc hc' h1 h2
  unfold zd at h
  simp only at h
  rcases hc with ⟨rfl, rfl, rfl⟩ | ⟨t, o⟩ <;> rcases hc' with ⟨rfl, rfl, rfl⟩ | ⟨t', o'⟩
  · rfl
  · have := za_pos (K := K) (e := x') (show 0 < val l' by omega)
    rw [show val [] = 0 from rfl, zs_zero] at h
    rcases zs_cases K neg' (val l') x' with ⟨_, e⟩ | ⟨_, e⟩ <;> omega
  · have := za_pos (K := K) (e := x) (show 0 < val l by omega)
    rw [show val [] = 0 from rfl, zs_zero] at h
    rcases zs_cases K neg (val l) x with ⟨_, e⟩ | ⟨_, e⟩ <;> omega
  · have p := za_pos (K := K) (e := x) (show 0 < val l by omega)
    have p' := za_pos (K := K) (e := x') (show 0 < val l' by omega)
    have fin : neg = neg' → za K (val l) x = za K (val l') x' → (⟨neg, l, x⟩ : Dy) = ⟨neg', l', x'⟩ := by
      intro hn hz
      obtain ⟨hv, hx⟩ := za_inj h1 h2 o o' hz
      subst hn hx
      rw [← digs_val l hL t, ← digs_val l' hL' t', hv]
    rcases zs_cases K neg (val l) x with ⟨n, e⟩ | ⟨n, e⟩ <;> rcases zs_cases K neg' (val l') x' with ⟨n', e'⟩ | ⟨n', e'⟩
    · exact fin (n.trans n'.symm) (by omega)
    · omega
    · omega
    · exact fin (n.trans n'.symm) (by omega)
theorem vld_exp {d : Dy} (hv : vld d = true) : -16384 ≤ d.e ∧ d.e ≤ 16384 := by
  obtain ⟨neg, l, x⟩ := d
  by_cases h : l = []
  · subst h
    obtain ⟨rfl, rfl⟩ := vld_empty hv
    simp
  · have := vld_bounds hv h
    exact ⟨this.2.2.2.2.1, this.2.2.2.2.2.1⟩
theorem valid_inj {K : Nat} {d d' : Dy} (hK : 16384 ≤ K) (hL : Limbs d.l) (hL' : Limbs d'.l) (hv : vld d = true) (hv' : vld d' = true) (h : zd K d = zd K d') : d = d' :=
  zd_inj (canon_of hL hv) (canon_of hL' hv') (by have := vld_exp hv; omega) (by have := vld_exp hv'; omega) h

theorem check_of {K : Nat} {neg : Bool} {v : Nat} {e : Int} {d : Dy} (h : 0 ≤ e + (K : Int)) (hK : 16384 ≤ K) (hL : Limbs d.l) (hv : vld d = true) (hz : zs K neg v e = zd K d) : checkD neg v e = (d, 0) := by
  have e1 : canonD neg v e = d := zd_inj (K := K) (canon_canon neg v e) (canon_of hL hv) (canon_exp K neg v e h) (by have := vld_exp hv; omega) (by rw [zd_canon K neg v e h, hz])
  unfold checkD
  rw [← vld_canon, e1, if_pos hv]
theorem check_valid {d : Dy} (hL : Limbs d.l) (hv : vld d = true) : checkD d.neg (val d.l) d.e = (d, 0) :=
  check_of (K := 16384) (by have := vld_exp hv; omega) (Nat.le_refl _) hL hv rfl
theorem zd_empty {K : Nat} {d : Dy} (h : d.l = []) : zd K d = 0 := by unfold zd; rw [h]; exact zs_zero _ _ _
end Go.Proofs.YtekajoifgdpmlaaGreatDoor

/-! M9 -/
namespace Go.Proofs.YtekajoifgdpmlaaGreatDoor
open Go.RowKit Pl Go.Shelf

/-- The order of integers. -/
def cmpI (x y : Int) : Int := if x < y then -1 else if y < x then 1 else 0

theorem cmpN_za {K P Q : Nat} {e : Int} : cmpN (za K P e) (za K Q e) = cmpN P Q := by
  have hp : 0 < 2 ^ (e + (K : Int)).toNat := Nat.pow_pos (by omega)
  unfold za
  rcases Nat.lt_trichotomy P Q with h | h | h
  · rw [cmpN_lt h, cmpN_lt (Nat.mul_lt_mul_of_pos_right h hp)]
  · rw [h, cmpN_eq rfl, cmpN_eq rfl]
  · rw [cmpN_gt h, cmpN_gt (Nat.mul_lt_mul_of_pos_right h hp)]
theorem za_lt {K : Nat} {v u : Nat} {e e' : Int} (h1 : 0 ≤ e + (K : Int)) (h2 : 0 ≤ e' + (K : Int)) (hu : 0 < u) (h : (blen v : Int) + e < (blen u : Int) + e') : za K v e < za K u e' := by
  have hp : 0 < 2 ^ (e + (K : Int)).toNat := Nat.pow_pos (by omega)
  have a := Nat.mul_lt_mul_of_pos_right (lt_blen v) hp
  have b := Nat.mul_le_mul_right (2 ^ (e' + (K : Int)).toNat) (le_blen u hu)
  have hb := blen_pos u hu
  rw [← Nat.pow_add] at a b
  have c : 2 ^ (blen v + (e + (K : Int)).toNat) ≤ 2 ^ (blen u - 1 + (e' + (K : Int)).toNat) := Nat.pow_le_pow_right (by omega) (by omega)
  unfold za
  omega
theorem acmp_za {K : Nat} {d d' : Dy} (h1 : 0 ≤ d.e + (K : Int)) (h2 : 0 ≤ d'.e + (K : Int)) (hp : 0 < val d.l) (hp' : 0 < val d'.l) : acmp d d' = cmpN (za K (val d.l) d.e) (za K (val d'.l) d'.e) := by
  unfold acmp
  split
  · rename_i h
    rw [cmpN_lt (za_lt h1 h2 hp' h)]
  · split
    · rename_i h
      rw [cmpN_gt (za_lt h2 h1 hp h)]
    · rw [← cmpN_za (K := K) (e := min d.e d'.e), za_shift _ _ _ _ (by omega), za_shift _ _ _ _ (by omega), show min d.e d'.e + (((d.e - min d.e d'.e).toNat : Nat) : Int) = d.e by omega, show min d.e d'.e + (((d'.e - min d.e d'.e).toNat : Nat) : Int) = d'.e by omega]

theorem cmpI_cases (x y : Int) : (x < y ∧ cmpI x y = -1) ∨ (y < x ∧ cmpI x y = 1) ∨ (x = y ∧ cmpI x y = 0) := by
  unfold cmpI
  by_cases h : x < y
  · rw [if_pos h]; exact .inl ⟨h, rfl⟩
  · rw [if_neg h]
    by_cases h2 : y < x
    · rw [if_pos h2]; exact .inr (.inl ⟨h2, rfl⟩)
    · rw [if_neg h2]; exact .inr (.inr ⟨by omega, rfl⟩)

theorem cmpN_three (u v : Nat) : (u < v ∧ cmpN u v = -1) ∨ (v < u ∧ cmpN u v = 1) ∨ (u = v ∧ cmpN u v = 0) := by
  rcases Nat.lt_trichotomy u v with h | h | h
  · exact .inl ⟨h, cmpN_lt h⟩
  · exact .inr (.inr ⟨h, cmpN_eq h⟩)
  · exact .inr (.inl ⟨h, cmpN_gt h⟩)
theorem sgn_zd {K : Nat} {d : Dy} (hv : vld d = true) : sgnD d = cmpI (zd K d) 0 := by
  obtain ⟨neg, l, x⟩ := d
  unfold sgnD
  by_cases h : l = []
  · rw [if_neg (by simp [h]), zd_empty (d := ⟨neg, l, x⟩) h]
    rfl
  · rw [if_pos ⟨hv, h⟩]
    have b := vld_bounds hv h
    simp only at b
    have p := za_pos (K := K) (e := x) (show 0 < val l by omega)
    unfold zd
    simp only
    rcases zs_cases K neg (val l) x with ⟨n, e⟩ | ⟨n, e⟩ <;> rw [e, n] <;> rcases cmpI_cases (zs K neg (val l) x) 0 with c | c | c <;> rw [e] at c <;> first | (exfalso; omega) | (rw [c.2]; rfl)
theorem cmp_mix {z z' : Int} {u u' : Nat} (hu : 0 < u) (hu' : 0 < u') (h : z = u ∨ z = -(u : Int)) (h' : z' = u' ∨ z' = -(u' : Int)) :
    (if cmpI z 0 < cmpI z' 0 then -1 else if cmpI z' 0 < cmpI z 0 then 1 else if cmpI z 0 = 0 then 0 else cmpI z 0 * cmpN u u') = cmpI z z' := by
  rcases cmpI_cases z 0 with a | a | a <;> rcases cmpI_cases z' 0 with b | b | b <;> rcases cmpI_cases z z' with c | c | c <;> rcases cmpN_three u u' with d | d | d <;>
    first | (exfalso; omega) | (rw [a.2, b.2, c.2, d.2]; rfl) | (rw [a.2, b.2, c.2]; rfl)
theorem cmpD_zd {K : Nat} {d d' : Dy} (hK : 16384 ≤ K) (hv : vld d = true) (hv' : vld d' = true) : cmpD d d' = cmpI (zd K d) (zd K d') := by
  unfold cmpD
  rw [if_pos ⟨hv, hv'⟩, sgn_zd (K := K) hv, sgn_zd (K := K) hv']
  have x := vld_exp hv
  have x' := vld_exp hv'
  have hz : ∀ e : Dy, zd K e ≠ 0 → 0 < val e.l := by
    intro e h0
    rcases Nat.eq_zero_or_pos (val e.l) with h | h
    · exfalso; apply h0; unfold zd; rw [h]; exact zs_zero _ _ _
    · exact h
  by_cases hA : zd K d = 0
  · rw [hA]
    rcases cmpI_cases 0 (zd K d') with c | c | c <;> rcases cmpI_cases (zd K d') 0 with b | b | b <;> first | (exfalso; omega) | (rw [b.2, c.2]; rfl)
  by_cases hB : zd K d' = 0
  · rw [hB]
    rcases cmpI_cases (zd K d) 0 with c | c | c <;> first | (exfalso; omega) | (rw [c.2]; rfl)
  have p := hz d hA
  have p' := hz d' hB
  rw [acmp_za (K := K) (by omega) (by omega) p p']
  refine cmp_mix (za_pos p) (za_pos p') ?_ ?_
  · rcases zs_cases K d.neg (val d.l) d.e with ⟨_, e⟩ | ⟨_, e⟩
    · exact .inl e
    · exact .inr e
  · rcases zs_cases K d'.neg (val d'.l) d'.e with ⟨_, e⟩ | ⟨_, e⟩
    · exact .inl e
    · exact .inr e

theorem cmp_anti (a b : Dy) : cmpD a b = -cmpD b a ∧ -1 ≤ cmpD a b ∧ cmpD a b ≤ 1 := by
  by_cases hv : vld a = true ∧ vld b = true
  · rw [cmpD_zd (K := 40000) (by omega) hv.1 hv.2, cmpD_zd (K := 40000) (by omega) hv.2 hv.1]
    generalize zd 40000 a = x
    generalize zd 40000 b = y
    rcases cmpI_cases x y with h | h | h <;> rcases cmpI_cases y x with h' | h' | h' <;> omega
  · unfold cmpD
    rw [if_neg hv, if_neg (fun h => hv ⟨h.2, h.1⟩)]
    omega
theorem cmp_eq {a b : Dy} (ha : Limbs a.l) (hb : Limbs b.l) (hv : vld a = true) (hv' : vld b = true) : (cmpD a b == 0) = eqD a b := by
  rw [Bool.eq_iff_iff, beq_iff_eq, eqD_iff]
  rw [cmpD_zd (K := 40000) (by omega) hv hv']
  constructor
  · intro h
    refine valid_inj (K := 40000) (by omega) ha hb hv hv' ?_
    rcases cmpI_cases (zd 40000 a) (zd 40000 b) with h' | h' | h' <;> omega
  · rintro rfl
    rcases cmpI_cases (zd 40000 a) (zd 40000 a) with h' | h' | h' <;> omega
end Go.Proofs.YtekajoifgdpmlaaGreatDoor

/-! E1 -/
namespace Go.Proofs.YtekajoifgdpmlaaGreatDoor
open Go.RowKit Pl Go.Shelf

/-- A number as its three cells hold it. -/
structure DV where
  neg : Bool
  A : Option Addr
  n : Nat
  c : Nat
  x : Int
def DV.v (d : DV) : Value := .agg #[.bool d.neg, .slice d.A d.n d.c, .int .i64 d.x]
end Go.Proofs.YtekajoifgdpmlaaGreatDoor

/-! Var -/
namespace Go.Proofs.YtekajoifgdpmlaaGreatDoor
open Go.RowKit Pl Go.Shelf

/-- Block g is a variable that holds the number (-1)^neg l 2^x, whose limbs lie at A. -/
structure Var (W : World) (g : Nat) (neg : Bool) (A : Option Addr) (n c : Nat) (l : List Nat) (x : Int) : Prop where
  blk : Blk W g 25 #[.bool neg, .slice A n c, .int .i64 x]
  sl : SL W A n c l
section
variable {W W' : World} {g : Nat} {neg : Bool} {A : Option Addr} {n c : Nat} {l : List Nat} {x : Int}
theorem Var.next (h : Var W g neg A n c l x) (hb : Below W.heap.size W W') : Var W' g neg A n c l x := ⟨h.blk.below hb h.blk.lt, h.sl.below hb⟩
theorem Var.cells (h : Var W g neg A n c l x) : W.cell? ⟨g, 0, none⟩ = some (.bool neg) ∧ W.cell? ⟨g, 1, none⟩ = some (.slice A n c) ∧ W.cell? ⟨g, 2, none⟩ = some (.int .i64 x) := h.blk.cells3
theorem Var.drew (h : Var W g neg A n c l x) : Var W.drew g neg A n c l x := ⟨h.blk, h.sl.drew⟩
theorem Var.lt (h : Var W g neg A n c l x) : g < W.heap.size := h.blk.lt
theorem Var.new (W : World) (neg : Bool) (x : Int) (h : SL W A n c l) : Var (W.alloc (.cells #[.bool neg, .slice A n c, .int .i64 x] 25)) W.heap.size neg A n c l x := ⟨Blk.new W _ _, h.alloc _⟩
theorem Var.newAt (W : World) (neg : Bool) (x : Int) {g : Nat} (hg : g = W.heap.size) (h : SL W A n c l) : Var (W.alloc (.cells #[.bool neg, .slice A n c, .int .i64 x] 25)) g neg A n c l x := by
  subst hg; exact Var.new W neg x h
/-- The cells of a variable, in every world that came from W. -/
theorem Var.keep (h : Var W g neg A n c l x) : ∀ V, Below W.heap.size W V → V.cell? ⟨g, 0, none⟩ = some (.bool neg) ∧ V.cell? ⟨g, 1, none⟩ = some (.slice A n c) ∧ V.cell? ⟨g, 2, none⟩ = some (.int .i64 x) := fun _ hV => (h.next hV).cells
end
theorem bdrew (W : World) : Below W.heap.size W W.drew := below_drewN (Below.refl _ _) 1

theorem vld_short {d : Dy} (h : vld d = true) : d.l.length ≤ 256 := by
  by_cases hl : d.l = []
  · rw [hl]; simp
  · exact (vld_bounds h hl).1
end Go.Proofs.YtekajoifgdpmlaaGreatDoor

/-! R5 -/
namespace Go.Proofs.YtekajoifgdpmlaaGreatDoor
open Go.RowKit Pl Go.Shelf

theorem maskOf {v : Int} {a : Nat} (h : v = (a : Int)) (ha : a < 18446744073709551616) : bits .and .u64 v 4294967295 % 4294967296 = ((a % 4294967296 : Nat) : Int) := by
  rw [h]; exact maskMod a ha

set_option maxHeartbeats 1000000 in
theorem rleft_any (A : Option Addr) (n c k : Nat) (l : List Nat) (w : World) (h : SL w A n c l) (hn : n ≤ 1000) (hk : k ≤ 1000000) :
    Calls Tryz.prog 234 #[.slice A n c, .int .i64 (k : Int)] w (RetS (digs (val l * 2 ^ k)) w) := by
  have hcap := h.cap
  have hmax := h.max
  obtain ⟨V, hV⟩ : ∃ V, V = val l * 2 ^ (k % 32) := ⟨_, rfl⟩
  have HVV := Lib.hid hV
  clear hV
  have HL := Lib.hid h.len
  go_enter Tryz.func234, Tryz.ntmps234
  go_wp2_with (at_make; refine wpList_mk rfl (.tmp 10) (.tmp 10) _ 60 rfl u32_info Tryz.underlying23 .i64 .i64 _ _ (k / 32) (k / 32) rfl rfl (by omega) (by omega) (by omega) (by omega) ?_; intro w1 hr1 hb1 hs1)
  have ho1 : Own w1 w.heap.size 60 (.slice (some ⟨w.heap.size, 0, none⟩) (k / 32) (k / 32)) (List.replicate (k / 32) 0) := Own.made hr1 (Nat.le_refl _) (by omega) (by omega)
  clear hr1
  go_loopw [5, 6, 7] (fun v cy i wr => ∃ j z : Nat, j ≤ n ∧ i = .int .i64 j ∧ cy = .int .u64 (z : Int) ∧ z < 4294967296 ∧ Hid (z = shlC l (k % 32) j) ∧ Own wr w.heap.size 60 v (List.replicate (k / 32) 0 ++ digN j V) ∧ Below w.heap.size w wr) (fun _ _ i _ => n - (intOf i).toNat)
  case atStart => exact ⟨0, 0, Nat.zero_le _, rfl, rfl, by omega, (shlC_zero _ _).symm, by simpa [digN] using ho1, hb1⟩
  case round =>
    obtain ⟨j, z, hj, rfl, rfl, hz, HZ, hr, hb⟩ := hrel
    have hlenr : (List.replicate (k / 32) 0 ++ digN j V).length = k / 32 + j := by rw [List.length_append, List.length_replicate, digN_length]
    by_cases hlt : j < n
    · obtain ⟨b, off, x, rfl, hxb, hx, hcell, hxlt⟩ := (h.below hb).get hlt
      obtain ⟨e1, e2, e3, e4⟩ := shl_mid h.lt (lim_some hx) HZ.out (show k % 32 < 32 from by omega)
      rw [← HVV.out] at e2
      have HE2 := Lib.hid e2
      have HE3 := Lib.hid e3
      have HLR := Lib.hid hlenr
      clear hx e2 e3 hlenr
      generalize 2 ^ (k % 32) * x + z = s at *
      have hs3 : s / 4294967296 < 4294967296 := by omega
      go_wp2_with (at_builtin; refine wpList_app rfl (.tmp 29) (.tmp 33) _ rfl 60 u32_info Tryz.underlying23 w.heap.size _ (List.replicate (k / 32) 0 ++ digN j V) rfl (hr.alloc _) _ 1 1 [dig V j] rfl (SL.oneI _ _ _ _ (by rw [maskMod s (by omega), HE2.out]) (dig_lt _ _)) (by rw [HLR.out]; omega) (by have := hb.size; simp; omega) ?_; intro v1 w2 hown1 hb2)
      rw [List.append_assoc, ← digN_succ] at hown1
      have hbw := (hb.alloc hb.size _).trans hb2
      go_roundw
      case rel => exact ⟨j + 1, s / 4294967296, by omega, by go_num, by go_num, hs3, HE3, hown1, hbw⟩
      case measure => simp [intOf]; omega
    · obtain rfl : j = n := by omega
      have HE2 : Hid (z = dig V j) := by unfold Hid; rw [HVV.out, shl_last l h.lt _ j (by omega) (by rw [h.len]; omega), ← HZ.out]
      have HLR := Lib.hid hlenr
      clear hlenr
      go_wp2_with (at_builtin; refine wpList_app rfl (.tmp 37) (.tmp 40) _ rfl 60 u32_info Tryz.underlying23 w.heap.size _ (List.replicate (k / 32) 0 ++ digN j V) rfl (hr.alloc _) _ 1 1 [dig V j] rfl (SL.oneI _ _ _ _ (by rw [← HE2.out]) (dig_lt _ _)) (by rw [HLR.out]; omega) (by have := hb.size; simp; omega) ?_; intro v1 w2 hown1 hb2; fail_if_success done)
      rw [List.append_assoc, ← digN_succ] at hown1
      have hbw := (hb.alloc hb.size _).trans hb2
      obtain ⟨A1, c1, rfl, hs1, hf1⟩ := hown1.sl ((limbs_replicate _).append (limbs_digN _ _))
      have hval : val (List.replicate (k / 32) 0 ++ digN (j + 1) V) = val l * 2 ^ k := by
        rw [val_append, val_replicate, List.length_replicate, val_digN_of_lt (by rw [HVV.out]; exact shl_lt l h.lt _ j (by omega) (by rw [h.len]; omega)), HVV.out, base_pow, Nat.zero_add, Nat.mul_comm, Nat.mul_assoc, ← Nat.pow_add, show k % 32 + 32 * (k / 32) = k from by omega]
      have HVL := Lib.hid hval
      clear hval
      have hlen2 : (List.replicate (k / 32) 0 ++ digN (j + 1) V).length ≤ 1000000 := by rw [List.length_append, List.length_replicate, digN_length]; omega
      generalize List.replicate (k / 32) 0 ++ digN (j + 1) V = ll at *
      generalize hll : ll.length = LL at *
      clear hll
      refine (rtrim_any A1 LL c1 ll _ hs1 hlen2).mono ?_
      rw [HVL.out]
      rintro e w3 ⟨A3, n3, c3, rfl, hs3, hf3, hb3⟩
      go_wp2_with fail
      go_ret
      exact ⟨_, _, _, rfl, hs3, hf3.mono hbw.size, bthen hbw hb3 (Nat.le_refl _)⟩

theorem plus_step (l l' : List Nat) (h : Limbs l) (h' : Limbs l') {j z x y : Nat} (hx : lim l j = x) (hy : lim l' j = y) (hz : z = addC l l' j) :
    (z + x + y) % 4294967296 = dig (val l + val l') j ∧ (z + x + y) / 4294967296 = addC l l' (j + 1) ∧ z ≤ 1 ∧ x < 4294967296 ∧ y < 4294967296 := by
  have e1 := add_dig l l' j
  have e2 := add_carry l l' j
  have e3 := addC_le l l' h h' j
  have e4 := lim_lt h j
  have e5 := lim_lt h' j
  rw [hx] at e1 e2 e4
  rw [hy] at e1 e2 e5
  rw [← hz] at e1 e2 e3
  rw [e1, e2, show z + x + y = x + y + z by omega]
  exact ⟨rfl, rfl, e3, e4, e5⟩

set_option maxHeartbeats 2000000 in
theorem rplus_any (A B : Option Addr) (n c m d : Nat) (l l' : List Nat) (w : World) (h : SL w A n c l) (h' : SL w B m d l') (hn : n ≤ 100000) (hm : m ≤ 100000) :
    Calls Tryz.prog 38 #[.slice A n c, .slice B m d] w (RetS (digs (val l + val l')) w) := by
  have hcap := h.cap
  have hmax := h.max
  have hcap' := h'.cap
  have hmax' := h'.max
  obtain ⟨V, hV⟩ : ∃ V, V = val l + val l' := ⟨_, rfl⟩
  rw [← hV]
  have HVV := Lib.hid hV
  clear hV
  have HL := Lib.hid h.len
  have HL' := Lib.hid h'.len
  go_enter Tryz.func38, Tryz.ntmps38
  go_wp2_with fail
  go_loopw [5, 6, 7] (fun v cy i wr => ∃ j z : Nat, j ≤ n + m ∧ i = .int .i64 j ∧ cy = .int .u64 (z : Int) ∧ z ≤ 1 ∧ Hid (z = addC l l' j) ∧ Own wr w.heap.size 60 v (digN j V) ∧ Below w.heap.size w wr) (fun _ _ i _ => n + m - (intOf i).toNat)
  case atStart => exact ⟨0, 0, Nat.zero_le _, rfl, rfl, by omega, (addC_zero _ _).symm, Own.nil _ _ _, Below.refl _ _⟩
  case round =>
    obtain ⟨j, z, hj, rfl, rfl, hz, HZ, hr, hb⟩ := hrel
    by_cases hlt : j < n
    · obtain ⟨b, off, x, rfl, hxb, hx, hcell, hxlt⟩ := (h.below hb).get hlt
      by_cases hlt' : j < m
      · obtain ⟨b', off', y, rfl, hyb, hy, hcelly, hylt⟩ := (h'.below hb).get hlt'
        obtain ⟨e1, e2, -⟩ := plus_step l l' h.lt h'.lt (lim_some hx) (lim_some hy) HZ.out
        rw [← HVV.out] at e1
        have HE1 := Lib.hid e1
        have HE2 := Lib.hid e2
        clear e1 e2 hx hy
        go_wp2_with (at_builtin; refine wpList_app rfl (.tmp 44) (.tmp 48) _ rfl 60 u32_info Tryz.underlying23 w.heap.size _ (digN j V) rfl (hr.alloc _) _ 1 1 [dig V j] rfl (SL.oneI _ _ _ _ (by rw [maskOf (a := z + x + y) (by omega) (by omega), HE1.out]) (dig_lt _ _)) (by rw [digN_length]; omega) (by have := hb.size; simp; omega) ?_; intro v1 w2 hown1 hb2)
        rw [← digN_succ] at hown1
        have hbw := (hb.alloc hb.size _).trans hb2
        go_roundw
        case rel => exact ⟨j + 1, (z + x + y) / 4294967296, by omega, by go_num, by go_num, by omega, HE2, hown1, hbw⟩
        case measure => simp [intOf]; omega
      · obtain ⟨e1, e2, -⟩ := plus_step l l' h.lt h'.lt (lim_some hx) (lim_none (by rw [HL'.out]; omega)) HZ.out
        rw [← HVV.out] at e1
        have HE1 := Lib.hid e1
        have HE2 := Lib.hid e2
        clear e1 e2 hx
        go_wp2_with (at_builtin; refine wpList_app rfl (.tmp 44) (.tmp 48) _ rfl 60 u32_info Tryz.underlying23 w.heap.size _ (digN j V) rfl (hr.alloc _) _ 1 1 [dig V j] rfl (SL.oneI _ _ _ _ (by rw [maskOf (a := z + x + 0) (by omega) (by omega), HE1.out]) (dig_lt _ _)) (by rw [digN_length]; omega) (by have := hb.size; simp; omega) ?_; intro v1 w2 hown1 hb2)
        rw [← digN_succ] at hown1
        have hbw := (hb.alloc hb.size _).trans hb2
        go_roundw
        case rel => exact ⟨j + 1, (z + x + 0) / 4294967296, by omega, by go_num, by go_num, by omega, HE2, hown1, hbw⟩
        case measure => simp [intOf]; omega
    · by_cases hlt' : j < m
      · obtain ⟨b', off', y, rfl, hyb, hy, hcelly, hylt⟩ := (h'.below hb).get hlt'
        obtain ⟨e1, e2, -⟩ := plus_step l l' h.lt h'.lt (lim_none (by rw [HL.out]; omega)) (lim_some hy) HZ.out
        rw [← HVV.out] at e1
        have HE1 := Lib.hid e1
        have HE2 := Lib.hid e2
        clear e1 e2 hy
        go_wp2_with (at_builtin; refine wpList_app rfl (.tmp 44) (.tmp 48) _ rfl 60 u32_info Tryz.underlying23 w.heap.size _ (digN j V) rfl (hr.alloc _) _ 1 1 [dig V j] rfl (SL.oneI _ _ _ _ (by rw [maskOf (a := z + 0 + y) (by omega) (by omega), HE1.out]) (dig_lt _ _)) (by rw [digN_length]; omega) (by have := hb.size; simp; omega) ?_; intro v1 w2 hown1 hb2)
        rw [← digN_succ] at hown1
        have hbw := (hb.alloc hb.size _).trans hb2
        go_roundw
        case rel => exact ⟨j + 1, (z + 0 + y) / 4294967296, by omega, by go_num, by go_num, by omega, HE2, hown1, hbw⟩
        case measure => simp [intOf]; omega
      · have HE2 : Hid (z = dig V j) := by unfold Hid; rw [HVV.out, add_last l l' j h.lt h'.lt (by rw [h.len]; omega) (by rw [h'.len]; omega), ← HZ.out]
        have hVlt : V < 4294967296 ^ (j + 1) := by rw [HVV.out]; exact add_lt l l' j h.lt h'.lt (by rw [h.len]; omega) (by rw [h'.len]; omega)
        have HVL := Lib.hid (val_digN_of_lt hVlt)
        clear hVlt
        go_wp2_with (at_builtin; refine wpList_app rfl (.tmp 52) (.tmp 55) _ rfl 60 u32_info Tryz.underlying23 w.heap.size _ (digN j V) rfl (hr.alloc _) _ 1 1 [dig V j] rfl (SL.oneI _ _ _ _ (by rw [← HE2.out]) (dig_lt _ _)) (by rw [digN_length]; omega) (by have := hb.size; simp; omega) ?_; intro v1 w2 hown1 hb2; fail_if_success done)
        rw [← digN_succ] at hown1
        have hbw := (hb.alloc hb.size _).trans hb2
        obtain ⟨A1, c1, rfl, hs1, hf1⟩ := hown1.sl (limbs_digN _ _)
        rw [digN_length] at hs1 hf1 ⊢
        generalize digN (j + 1) V = ll at *
        refine (rtrim_any A1 (j + 1) c1 ll _ hs1 (by omega)).mono ?_
        rw [HVL.out]
        rintro e w3 ⟨A3, n3, c3, rfl, hs3, hf3, hb3⟩
        go_wp2_with fail
        go_ret
        exact ⟨_, _, _, rfl, hs3, hf3.mono hbw.size, bthen hbw hb3 (Nat.le_refl _)⟩

theorem minus_step (l l' : List Nat) (h : Limbs l) (h' : Limbs l') (hle : val l' ≤ val l) {j z x y : Nat} (hx : lim l j = x) (hy : lim l' j = y) (hz : z = subC l l' j) :
    (x + 4294967296 - (z + y)) % 4294967296 = dig (val l - val l') j ∧ 1 - (x + 4294967296 - (z + y)) / 4294967296 = subC l l' (j + 1) := by
  have e1 := sub_dig l l' h h' hle j
  have e2 := sub_carry l l' h h' j
  have e3 := subC_le l l' j
  have e4 := lim_lt h j
  have e5 := lim_lt h' j
  rw [hx] at e1 e2 e4
  rw [hy] at e1 e2 e5
  rw [← hz] at e1 e2 e3
  refine ⟨by rw [e1]; congr 1; omega, ?_⟩
  rw [e2]
  split <;> omega

set_option maxHeartbeats 2000000 in
theorem rminus_any (A B : Option Addr) (n c m d : Nat) (l l' : List Nat) (w : World) (h : SL w A n c l) (h' : SL w B m d l') (hn : n ≤ 100000) (hle : val l' ≤ val l) :
    Calls Tryz.prog 235 #[.slice A n c, .slice B m d] w (RetS (digs (val l - val l')) w) := by
  have hcap := h.cap
  have hmax := h.max
  have hcap' := h'.cap
  have hmax' := h'.max
  have HLE := Lib.hid hle
  clear hle
  obtain ⟨V, hV⟩ : ∃ V, V = val l - val l' := ⟨_, rfl⟩
  rw [← hV]
  have HVV := Lib.hid hV
  clear hV
  have HL := Lib.hid h.len
  have HL' := Lib.hid h'.len
  go_enter Tryz.func235, Tryz.ntmps235
  go_wp2_with fail
  go_loopw [5, 6, 7] (fun v cy i wr => ∃ j z : Nat, j ≤ n ∧ i = .int .i64 j ∧ cy = .int .u64 (z : Int) ∧ z ≤ 1 ∧ Hid (z = subC l l' j) ∧ Own wr w.heap.size 60 v (digN j V) ∧ Below w.heap.size w wr) (fun _ _ i _ => n - (intOf i).toNat)
  case atStart => exact ⟨0, 0, Nat.zero_le _, rfl, rfl, by omega, (subC_zero _ _).symm, Own.nil _ _ _, Below.refl _ _⟩
  case round =>
    obtain ⟨j, z, hj, rfl, rfl, hz, HZ, hr, hb⟩ := hrel
    by_cases hlt : j < n
    · obtain ⟨b, off, x, rfl, hxb, hx, hcell, hxlt⟩ := (h.below hb).get hlt
      by_cases hlt' : j < m
      · obtain ⟨b', off', y, rfl, hyb, hy, hcelly, hylt⟩ := (h'.below hb).get hlt'
        obtain ⟨e1, e2⟩ := minus_step l l' h.lt h'.lt HLE.out (lim_some hx) (lim_some hy) HZ.out
        rw [← HVV.out] at e1
        have HE1 := Lib.hid e1
        have HE2 := Lib.hid e2
        clear e1 e2 hx hy
        go_wp2_with (at_builtin; refine wpList_app rfl (.tmp 36) (.tmp 40) _ rfl 60 u32_info Tryz.underlying23 w.heap.size _ (digN j V) rfl (hr.alloc _) _ 1 1 [dig V j] rfl (SL.oneI _ _ _ _ (by rw [maskOf (a := x + 4294967296 - (z + y)) (by omega) (by omega), HE1.out]) (dig_lt _ _)) (by rw [digN_length]; omega) (by have := hb.size; simp; omega) ?_; intro v1 w2 hown1 hb2)
        rw [← digN_succ] at hown1
        have hbw := (hb.alloc hb.size _).trans hb2
        go_roundw
        case rel => exact ⟨j + 1, 1 - (x + 4294967296 - (z + y)) / 4294967296, by omega, by go_num, by go_num, by omega, HE2, hown1, hbw⟩
        case measure => simp [intOf]; omega
      · obtain ⟨e1, e2⟩ := minus_step l l' h.lt h'.lt HLE.out (lim_some hx) (lim_none (by rw [HL'.out]; omega)) HZ.out
        rw [← HVV.out] at e1
        have HE1 := Lib.hid e1
        have HE2 := Lib.hid e2
        clear e1 e2 hx
        go_wp2_with (at_builtin; refine wpList_app rfl (.tmp 36) (.tmp 40) _ rfl 60 u32_info Tryz.underlying23 w.heap.size _ (digN j V) rfl (hr.alloc _) _ 1 1 [dig V j] rfl (SL.oneI _ _ _ _ (by rw [maskOf (a := x + 4294967296 - (z + 0)) (by omega) (by omega), HE1.out]) (dig_lt _ _)) (by rw [digN_length]; omega) (by have := hb.size; simp; omega) ?_; intro v1 w2 hown1 hb2)
        rw [← digN_succ] at hown1
        have hbw := (hb.alloc hb.size _).trans hb2
        go_roundw
        case rel => exact ⟨j + 1, 1 - (x + 4294967296 - (z + 0)) / 4294967296, by omega, by go_num, by go_num, by omega, HE2, hown1, hbw⟩
        case measure => simp [intOf]; omega
    · obtain rfl : j = n := by omega
      have hVlt : V < 4294967296 ^ j := by
        have := val_lt l h.lt
        rw [HL.out] at this
        have := HVV.out
        omega
      have HVL := Lib.hid (val_digN_of_lt hVlt)
      clear hVlt
      obtain ⟨A1, c1, rfl, hs1, hf1⟩ := hr.sl (limbs_digN _ _)
      rw [digN_length] at hs1 hf1 ⊢
      generalize digN j V = ll at *
      go_wp2_with fail
      refine (rtrim_any A1 j c1 ll _ hs1 (by omega)).mono ?_
      rw [HVL.out]
      rintro e w3 ⟨A3, n3, c3, rfl, hs3, hf3, hb3⟩
      go_wp2_with fail
      go_ret
      exact ⟨_, _, _, rfl, hs3, hf3.mono hb.size, bthen hb hb3 (Nat.le_refl _)⟩

end Go.Proofs.YtekajoifgdpmlaaGreatDoor
