/- natural.Shr, dyadic.canonical, inRange, checked, Make: what each call computes. -/
import Derived.Test.YtekajoifgdpmlaaGreatDoorA3
namespace Go.Proofs.YtekajoifgdpmlaaGreatDoor
open Go.RowKit Pl Go.Shelf

/-- A slice of limbs that the call made, and OK. -/
def RetP (l : List Nat) (w : World) (e : Ending) (w' : World) : Prop := ∃ A n c, e = .returned (.tuple #[.slice A n c, .int .i64 0]) ∧ SL w' A n c l ∧ Fresh w.heap.size A n ∧ Below w.heap.size w w'

theorem len256 {v : Nat} {l : List Nat} (h : Limbs l) (hl : l.length ≤ 256) (hv : v ≤ val l) : (digs v).length ≤ 256 :=
  Nat.le_trans (digs_length_lt v l.length (Nat.lt_of_le_of_lt hv (val_lt l h))) hl

set_option maxHeartbeats 400000 in
theorem Shr_ok (A : Option Addr) (n c k : Nat) (l : List Nat) (w : World) (h : SL w A n c l) (hn : n ≤ 256) (hk : k ≤ 65536) :
    Calls Tryz.prog 109 #[.slice A n c, .int .i64 (k : Int)] w (RetP (digs (val l / 2 ^ k)) w) := by
  have hw := h.alloc (.cells #[.slice A n c] 23)
  have h256 : ¬ 256 < n := by omega
  go_enter Tryz.func109, Tryz.ntmps109
  go_wp2_with fail
  refine (long_one _ A n c _ (by simp)).mono ?_
  rintro e w' ⟨rfl, rfl⟩
  go_wp2_with fail
  refine (shr_any A n c k l _ hw (by omega) (by omega)).mono ?_
  rintro e w' ⟨A1, n1, c1, l1, rfl, hs1, hv1, _, hf1, hb1⟩
  have hb : Below w.heap.size w w' := bnext (ballo _ _) hb1
  have HV := Lib.hid hv1
  clear hv1
  have h256' : (digs (val l1)).length ≤ 256 := by rw [HV.out]; exact len256 h.lt (by rw [h.len]; exact hn) (Nat.div_le_self _ _)
  go_wp2_with fail
  refine (done_ok A1 n1 c1 l1 _ hs1 h256').mono ?_
  rintro e w2 ⟨rfl, hb2⟩
  go_wp2_with fail
  go_ret2
  have hl1 := digs_val_len l1 hs1.lt
  have hl2 := hs1.len
  rw [← HV.out]
  exact ⟨_, _, _, rfl, (hs1.trim.clip).below hb2, (hf1.mono (by simp)).less (by omega), bnext hb hb2⟩

/-- A number as the program has it: any sign, limbs, exponent. -/
structure Dy where
  neg : Bool
  l : List Nat
  e : Int
def zeroD : Dy := ⟨false, [], 0⟩
/-- The canonical form of (-1)^neg v 2^e. -/
def canonD (neg : Bool) (v : Nat) (e : Int) : Dy := if v = 0 then zeroD else ⟨neg, digs (oddp v), e + tz v⟩

/-- A number that the call made. -/
def RetD (d : Dy) (w : World) (e : Ending) (w' : World) : Prop := ∃ A n c, e = .returned (.agg #[.bool d.neg, .slice A n c, .int .i64 d.e]) ∧ SL w' A n c d.l ∧ Fresh w.heap.size A n ∧ Below w.heap.size w w'

theorem Blk.set3 {w : World} {g : Nat} {t : TypeId} {a0 a1 a2 : Value} (h : Blk w g t #[a0, a1, a2]) (x0 x1 x2 : Value) :
    Blk (((w.setCell ⟨g, 0, none⟩ x0).setCell ⟨g, 1, none⟩ x1).setCell ⟨g, 2, none⟩ x2) g t #[x0, x1, x2] := ((h.set_ 0 x0).set_ 1 x1).set_ 2 x2
theorem below_set3 {B : Nat} {w w' : World} {g : Nat} (h : Below B w w') (hg : B ≤ g) (x0 x1 x2 : Value) :
    Below B w (((w'.setCell ⟨g, 0, none⟩ x0).setCell ⟨g, 1, none⟩ x1).setCell ⟨g, 2, none⟩ x2) :=
  ((h.setCell (p := ⟨g, 0, none⟩) hg x0).setCell (p := ⟨g, 1, none⟩) hg x1).setCell (p := ⟨g, 2, none⟩) hg x2
theorem SL.far {w : World} {A : Option Addr} {n c B g : Nat} {l : List Nat} (h : SL w A n c l) (hf : Fresh B A n) (hg : g < B) (i : Nat) (x : Value) : SL (w.setCell ⟨g, i, none⟩ x) A n c l := by
  refine ⟨h.len, h.cap, h.max, h.lt, fun hn => ?_⟩
  obtain ⟨b, off, rfl, hb, hc⟩ := h.at_ hn
  obtain ⟨ad, e, hB⟩ := hf hn
  injection e with e
  subst e
  have hB : B ≤ b := hB
  refine ⟨b, off, rfl, by simpa [World.setCell] using hb, fun j y hy => ?_⟩
  rw [World.cell?_setCell_other _ _ _ _ (by intro e; injection e with e1; omega)]
  exact hc j y hy
/-- A result that is a number in a block of the call's own. -/
theorem resD {fn : Func} {k : Nat} (h : fn.results = #[.cell k 25]) {tmps : Array Value} {W : World} {g : Nat} {t : TypeId} {x0 x1 x2 : Value} (hk : tmps.getD k undef = .pointer (some ⟨g, 0, none⟩)) (hB : Blk W g t #[x0, x1, x2]) :
    (results fn tmps).run Tryz.prog W = .ok (.agg #[x0, x1, x2]) W := by
  have c0 := hB.cell 0
  have c1 := hB.cell 1
  have c2 := hB.cell 2
  simp at c0 c1 c2
  have hk' : tmps[k]?.getD undef = .pointer (some ⟨g, 0, none⟩) := by simpa using hk
  simp [results, h, hk', go_sem, c0, c1, c2]
theorem resDE {fn : Func} {k j : Nat} (h : fn.results = #[.cell k 25, .tmp j]) {tmps : Array Value} {W : World} {g : Nat} {t : TypeId} {x0 x1 x2 : Value} (hk : tmps.getD k undef = .pointer (some ⟨g, 0, none⟩)) (hB : Blk W g t #[x0, x1, x2]) :
    (results fn tmps).run Tryz.prog W = .ok (.tuple #[.agg #[x0, x1, x2], tmps.getD j undef]) W := by
  have c0 := hB.cell 0
  have c1 := hB.cell 1
  have c2 := hB.cell 2
  simp at c0 c1 c2
  have hk' : tmps[k]?.getD undef = .pointer (some ⟨g, 0, none⟩) := by simpa using hk
  simp [results, h, hk', go_sem, c0, c1, c2]

theorem Tabs.below {w w' : World} {B : Nat} (h : Tabs w) (hb : Below B w w') (hB : 3 < B) : Tabs w' := fun j hj => (hb.cell (p := ⟨3, j, none⟩) hB).trans (h j hj)
theorem Tabs.lt {w : World} (h : Tabs w) : 3 < w.heap.size := by
  have := h 0 (by decide)
  rcases Nat.lt_or_ge 3 w.heap.size with hlt | hge
  · exact hlt
  · simp [World.cell?, Array.getElem?_eq_none hge] at this
theorem Tabs.next {w w' : World} (h : Tabs w) (hb : Below w.heap.size w w') : Tabs w' := h.below hb h.lt

set_option maxHeartbeats 1000000 in
theorem canonical_any (neg : Bool) (A : Option Addr) (n c : Nat) (l : List Nat) (x : Int) (w : World) (h : SL w A n c l) (hn : n ≤ 256) (hx1 : -1000000 ≤ x) (hx2 : x ≤ 1000000) (ht : Tabs w) :
    Calls Tryz.prog 35 #[.bool neg, .slice A n c, .int .i64 x] w (RetD (canonD neg (val l) x) w) := by
  have h1 := h.alloc (.cells #[.bool false, .slice none 0 0, .int .i64 0] 25)
  have ht1 := ht.next (ballo w (.cells #[.bool false, .slice none 0 0, .int .i64 0] 25))
  have HT := Lib.hid ht
  have HT1 := Lib.hid ht1
  clear ht ht1
  by_cases h0 : val l = 0
  · have hd : (digs (val l)).length = 0 := by rw [h0]; rfl
    have HD := Lib.hid hd
    have H0 := Lib.hid h0
    clear hd h0
    go_enter Tryz.func35, Tryz.ntmps35
    go_wp2_with fail
    refine (trimmed_any A n c l _ h1).mono ?_
    rintro e w' ⟨rfl, rfl⟩
    rw [HD.out]
    go_wp2_with fail
    refine bodyPost_ret (v := .agg #[.bool false, .slice none 0 0, .int .i64 0]) (by simp [results, Tryz.results35, go_sem]) rfl ?_
    rw [canonD, if_pos H0.out]
    exact ⟨none, 0, 0, rfl, SL.nil _, Fresh.zero, ballo _ _⟩
  · have hp : 0 < val l := by omega
    have hT := h1.trim
    have hdl := digs_val_len l h.lt
    have hll := h.len
    have hdp : (digs (val l)).length ≠ 0 := by rw [digs_pos _ hp]; simp
    have htz : tz (val l) < 65536 := by
      have h1 := tz_lt_blen (val l) hp
      have h2 := val_lt l h.lt
      rw [base_pow] at h2
      have := blen_le_of _ _ h2
      omega
    have hvd : val (digs (val l)) = val l := val_digs _
    have HVD := Lib.hid hvd
    have HCD : Hid (canonD neg (val l) x = ⟨neg, digs (val l / 2 ^ tz (val l)), x + tz (val l)⟩) := by unfold Hid canonD; rw [if_neg h0]; rfl
    clear hvd h0
    generalize hN : (digs (val l)).length = N at *
    generalize hdd : digs (val l) = dl at *
    have HN := Lib.hid hN
    have HDD := Lib.hid hdd
    clear hN hdd
    generalize hz : tz (val l) = z at *
    have HZ := Lib.hid hz
    clear hz
    have hne : ((N : Int) == 0) = false := by simp; omega
    go_enter Tryz.func35, Tryz.ntmps35
    go_wp2_with fail
    refine (trimmed_any A n c l _ h1).mono ?_
    rintro e w' ⟨rfl, rfl⟩
    rw [HDD.out, HN.out]
    go_wp2_with fail
    refine (low_any A N c dl _ hT (by omega) (by rw [HVD.out]; exact hp) HT1.out).mono ?_
    rintro e w' ⟨rfl, rfl⟩
    rw [HVD.out, HZ.out]
    go_wp2_with fail
    refine (Shr_ok A N c z dl _ hT (by omega) (by omega)).mono ?_
    rintro e w1 ⟨A1, n1, c1, rfl, hs1, hf1, hb1⟩
    have hn1 : n1 ≤ 256 := by
      rw [← hs1.len, HVD.out]
      exact len256 h.lt (by omega) (Nat.div_le_self _ _)
    go_wp2_with fail
    refine (clone_any A1 n1 c1 _ _ hs1 (by omega)).mono ?_
    rintro e w2 ⟨A2, n2, c2, rfl, hs2, hf2, hb2⟩
    have hb12 := bnext hb1 hb2
    obtain ⟨hc, hf⟩ := bcell hb12
    have hsz : w.heap.size + 1 ≤ w2.heap.size := by simpa using hb12.size
    have hcap := hs2.cap
    have hmax := hs2.max
    go_wp2_with fail
    refine (clip_any A2 n2 c2 _ hcap hmax).mono ?_
    rintro e w3 ⟨rfl, rfl⟩
    go_wp2_with fail
    have hB0 := (Blk.new w 25 #[.bool false, .slice none 0 0, .int .i64 0]).below hb12 (by simp)
    refine bodyPost_ret (resD Tryz.results35 rfl (hB0.set3 _ _ _)) rfl ?_
    rw [HCD.out]
    have hbw := below_set3 (bnext (ballo _ _) hb12) (Nat.le_refl _) (.bool neg) (.slice A2 n2 n2) (.int .i64 (x + z))
    refine ⟨A2, n2, n2, rfl, ?_, hf2.mono (Nat.le_trans (by simp) hb1.size), hbw⟩
    rw [HVD.out] at hs2
    have hlt : w.heap.size < w1.heap.size := Nat.lt_of_lt_of_le (by simp) hb1.size
    exact (((hs2.clip.far hf2 hlt 0 _).far hf2 hlt 1 _).far hf2 hlt 2 _)

end Go.Proofs.YtekajoifgdpmlaaGreatDoor
