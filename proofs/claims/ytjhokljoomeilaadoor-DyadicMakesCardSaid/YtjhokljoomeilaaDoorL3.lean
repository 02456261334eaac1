/- The law DyadicMakes: its walk. -/
import Derived.Test.YtjhokljoomeilaaDoorL2
namespace Go.Proofs.YtjhokljoomeilaaDoor
open Go.RowKit Pl Go.Shelf

set_option maxHeartbeats 2000000 in
theorem makes_long (neg : Bool) (A : Option Addr) (n c : Nat) (x : Int) (w : World) (hn : 300 < n) (ht : Tabs w) :
    Calls Tryd.prog 3 #[.bool neg, .slice A n c, .int .i64 x] w fun e w' => e = .returned (.bool true) ∧ Below w.heap.size w w' := by
  have HT := Lib.hid ht
  clear ht
  go_enter Tryd.func3, Tryd.ntmps3
  go_wp2_with fail
  refine (awake_any _ HT.out).mono ?_
  rintro e w1 ⟨rfl, hb1⟩
  go_wp2_with fail
  refine (awake_any _ (HT.out.next hb1)).mono ?_
  rintro e w2 ⟨rfl, hb2⟩
  go_wp2_with fail
  go_ret
  exact ⟨rfl, bnext hb1 hb2⟩

/-- What the loop that changes the copy keeps: the results, and that the copy is a row of its own. -/
structure Inc (w : World) (B g3 g4 n n3 c3 n4 c4 : Nat) (A2 A3 A4 : Option Addr) (dn : Bool) (dl : List Nat) (de : Int) (wr : World) : Prop where
  below : Below w.heap.size w wr
  s3 : SL wr A3 n3 c3 dl
  s4 : SL wr A4 n4 c4 dl
  k3 : Blk wr g3 27 #[.bool dn, .slice A3 n3 c3, .int .i64 de]
  k4 : Blk wr g4 27 #[.bool dn, .slice A4 n4 c4, .int .i64 de]
  own : 0 < n → ∃ g cur, A2 = some ⟨g, 0, none⟩ ∧ w.heap.size ≤ g ∧ g < B ∧ Blk wr g 25 cur ∧ ∀ j, j < n → ∃ z : Int, cur[j]? = some (.int .u32 z)

theorem Inc.step {w wr : World} {B g3 g4 n n3 c3 n4 c4 : Nat} {A2 A3 A4 : Option Addr} {dn : Bool} {dl : List Nat} {de : Int} (h : Inc w B g3 g4 n n3 c3 n4 c4 A2 A3 A4 dn dl de wr) (h3 : B ≤ g3) (h4 : B ≤ g4)
    (f3 : Fresh B A3 n3) (f4 : Fresh B A4 n4) {j : Nat} (hj : j < n) :
    ∃ (g : Nat) (z : Int), A2 = some ⟨g, 0, none⟩ ∧ wr.cell? ⟨g, j, none⟩ = some (.int .u32 z) ∧ wr.frozen? ⟨g, j, none⟩ = false ∧ ∀ z' : Int, Inc w B g3 g4 n n3 c3 n4 c4 A2 A3 A4 dn dl de (wr.setCell ⟨g, j, none⟩ (.int .u32 z')) := by
  obtain ⟨g, cur, e, hg1, hg2, hB, hc⟩ := h.own (by omega)
  obtain ⟨z, hz⟩ := hc j hj
  refine ⟨g, z, e, by rw [hB.cell j]; exact hz, hB.frozen j, fun z' => ?_⟩
  refine ⟨h.below.setCell (p := ⟨g, j, none⟩) hg1 _, h.s3.far f3 hg2 j _, h.s4.far f4 hg2 j _, h.k3.far (p := ⟨g, j, none⟩) (by simp; omega) _, h.k4.far (p := ⟨g, j, none⟩) (by simp; omega) _, fun _ => ?_⟩
  refine ⟨g, _, e, hg1, hg2, hB.set_ j _, fun i hi => ?_⟩
  obtain ⟨y, hy⟩ := hc i hi
  by_cases hij : j = i
  · subst hij
    exact ⟨z', by rw [Array.getElem?_setIfInBounds_self_of_lt]; exact (Array.getElem?_eq_some_iff.1 hy).1⟩
  · exact ⟨y, by rw [Array.getElem?_setIfInBounds_ne hij]; exact hy⟩

theorem Own.cells {w : World} {base n : Nat} {t : TypeId} {A : Option Addr} {c : Nat} {l : List Nat} (h : Own w base t (.slice A n c) l) (hl : l.length = n) (hn : 0 < n) : ∃ g cur, A = some ⟨g, 0, none⟩ ∧ base ≤ g ∧ g < w.heap.size ∧ Blk w g t cur ∧ ∀ j, j < n → ∃ z : Int, cur[j]? = some (.int .u32 z) := by
  rcases h.2 with ⟨_, h0⟩ | ⟨g, cap, cur, hv, hb, hh, hnc, _, hcs, htk⟩
  · omega
  · injection hv with e1 _ _
    refine ⟨g, cur, e1, hb, Blk.lt hh, hh, fun j hj => ?_⟩
    have e : (cur.toList.take (l.length * 1))[j]? = (l.map u32)[j]? := by rw [htk]
    rw [List.getElem?_take_of_lt (by omega)] at e
    rw [← Array.getElem?_toList, e]
    have hj' : j < l.length := by omega
    exact ⟨(l[j] : Nat), by simp [u32, hj']⟩

set_option maxHeartbeats 4000000 in
theorem makes_short (neg : Bool) (A : Option Addr) (n c : Nat) (l : List Nat) (x : Int) (w : World) (h : SL w A n c l) (hn : n ≤ 300) (ht : Tabs w) :
    Calls Tryd.prog 3 #[.bool neg, .slice A n c, .int .i64 x] w fun e w' => e = .returned (.bool true) ∧ Below w.heap.size w w' := by
  have HT := Lib.hid ht
  clear ht
  have hn3 : ¬ 300 < n := by omega
  have hdn : decide (300 < (n : Int)) = false := by simp; omega
  obtain ⟨md, hmd⟩ : ∃ md, md = makeD neg l x := ⟨_, rfl⟩
  have HMD := Lib.hid hmd
  clear hmd
  obtain ⟨⟨dn, dl, de⟩, dk⟩ := md
  go_enter Tryd.func3, Tryd.ntmps3
  go_wp2_with fail
  refine (awake_any _ HT.out).mono ?_
  rintro e w1 ⟨rfl, hb1⟩
  have h1 := h.below hb1
  have HT1 := Lib.hid (HT.out.next hb1)
  go_wp2_with fail
  refine (clone_own A n c l _ h1 (by omega)).mono ?_
  rintro e w2 ⟨v2, rfl, ho2, hb2⟩
  have hbw2 := bnext hb1 hb2
  have HT2 := Lib.hid (HT1.out.next hb2)
  have h2 := h1.below hb2
  obtain ⟨A2, c2, rfl, hs2, hf2⟩ := ho2.sl h.lt
  rw [h.len] at hs2 hf2 ho2 ⊢
  go_wp2_with fail
  refine (make_any neg A2 n c2 l x _ hs2 HT2.out).mono ?_
  rw [← HMD.out]
  rintro e w3 ⟨A3, n3, c3, rfl, hs3, hf3, hb3⟩
  go_wp2_with fail
  have hs3 : SL w3 A3 n3 c3 dl := hs3
  have k3 := Blk.new w3 27 #[.bool dn, .slice A3 n3 c3, .int .i64 de]
  have hb3a := ballo w3 (.cells #[.bool dn, .slice A3 n3 c3, .int .i64 de] 27)
  have hbw3 := bnext (bnext hbw2 hb3) hb3a
  have hsz3 : w3.heap.size < (w3.alloc (.cells #[.bool dn, .slice A3 n3 c3, .int .i64 de] 27)).heap.size := by simp
  have h3 := (h2.below hb3).below hb3a
  have hs3a := hs3.below hb3a
  have ho3 := ho2.keep (bnext hb3 hb3a) (fun g hg => (ho2.lt g hg).1)
  have hw23 : w2.heap.size ≤ w3.heap.size := hb3.size
  generalize w3.alloc (.cells #[.bool dn, .slice A3 n3 c3, .int .i64 de] 27) = W3 at *
  refine (rmake_any neg A n c l x _ h3).mono ?_
  rw [← HMD.out]
  rintro e w4 ⟨A4, n4, c4, rfl, hs4, hf4, hb4⟩
  have hs4 : SL w4 A4 n4 c4 dl := hs4
  have k4 := Blk.new w4 27 #[.bool dn, .slice A4 n4 c4, .int .i64 de]
  have hb4a := ballo w4 (.cells #[.bool dn, .slice A4 n4 c4, .int .i64 de] 27)
  have k34 := (k3.below hb4 hsz3).alloc (.cells #[.bool dn, .slice A4 n4 c4, .int .i64 de] 27)
  have hbw4 := bnext (bnext hbw3 hb4) hb4a
  have hw34 : W3.heap.size ≤ w4.heap.size := hb4.size
  have hsz4 : w4.heap.size < (w4.alloc (.cells #[.bool dn, .slice A4 n4 c4, .int .i64 de] 27)).heap.size := by simp
  have h4 := (h3.below hb4).below hb4a
  have hs34 := (hs3a.below hb4).below hb4a
  have hs4a := hs4.below hb4a
  have ho4 := ho3.keep (bnext hb4 hb4a) (fun g hg => (ho3.lt g hg).1)
  obtain ⟨s0, s1, s2⟩ := k34.cells3
  obtain ⟨t0, t1, t2⟩ := k4.cells3
  go_wp2_with fail
  generalize w4.alloc (.cells #[.bool dn, .slice A4 n4 c4, .int .i64 de] 27) = W4 at *
  refine (is_same dn A3 A4 n3 c3 n4 c4 dl de dk _ hs34 hs4a).mono ?_
  rintro e w5 ⟨rfl, hb5⟩
  have hbw5 := bnext hbw4 hb5
  have h5 := h4.below hb5
  have hs35 := hs34.below hb5
  have hs5 := hs4a.below hb5
  have ho5 := ho4.keep hb5 (fun g hg => (ho4.lt g hg).1)
  have k35 := k34.below hb5 (by omega)
  have k45 := k4.below hb5 (by omega)
  obtain ⟨A5, c5, he5, hso5, _⟩ := ho5.sl h.lt
  rw [h.len] at he5 hso5
  injection he5 with ea _ ec
  subst ea ec
  clear s0 s1 s2 t0 t1 t2
  go_wp2_with fail
  refine (sequal_same A A2 n c c2 l _ h5 hso5).mono ?_
  rintro e w6 ⟨rfl, hb6⟩
  have hbw6 := bnext hbw5 hb6
  have hs36 := hs35.below hb6
  have hs6 := hs5.below hb6
  have ho6 := ho5.keep hb6 (fun g hg => (ho5.lt g hg).1)
  have hw5 := hb5.size
  have hw6 := hb6.size
  have k36 := k35.below hb6 (by omega)
  have k46 := k45.below hb6 (by omega)
  have hw1 : w.heap.size ≤ w1.heap.size := hb1.size
  have hInc : Inc w w2.heap.size w3.heap.size w4.heap.size n n3 c3 n4 c4 A2 A3 A4 dn dl de w6 := by
    refine ⟨hbw6, hs36, hs6, k36, k46, fun h0 => ?_⟩
    obtain ⟨g, cur, e, hg1, _, hB, hc⟩ := ho6.cells h.len h0
    have hg2 := (ho2.lt g (by rw [e]; rfl)).1
    exact ⟨g, cur, e, by omega, hg2, hB, hc⟩
  have ff4 : Fresh w2.heap.size A4 n4 := hf4.mono (by omega)
  have hw24 : w2.heap.size ≤ w4.heap.size := by omega
  go_wp2_with fail
  clear k3 k4 k34 k35 k45 k36 k46 h2 h3 h4 h5 hs3 hs3a hs34 hs35 hs36 hs4 hs4a hs5 hs6 ho2 ho3 ho4 ho5 ho6 hb1 hb2 hb3 hb3a hb4 hb4a hb5 hb6 hbw2 hbw3 hbw4 hbw5 hbw6 hso5 hs2
  go_loopw [51] (fun i wr => ∃ j : Nat, j ≤ n ∧ i = .int .i64 j ∧ Inc w w2.heap.size w3.heap.size w4.heap.size n n3 c3 n4 c4 A2 A3 A4 dn dl de wr) (fun i _ => n - (intOf i).toNat)
  case atStart => exact ⟨0, Nat.zero_le _, rfl, hInc⟩
  case round =>
    obtain ⟨j, hj, rfl, hI⟩ := hrel
    by_cases hlt : j < n
    · obtain ⟨g, z, rfl, hcell, hfz, hst⟩ := hI.step hw23 hw24 hf3 ff4 hlt
      have HST := Lib.hid hst
      clear hst
      go_wp2_with fail
      go_roundw
      case rel => exact ⟨j + 1, by omega, by go_num, HST.out _⟩
      case measure => simp [intOf]; omega
    · obtain ⟨s0, s1, s2⟩ := hI.k3.cells3
      obtain ⟨t0, t1, t2⟩ := hI.k4.cells3
      go_wp2_with fail
      refine (requal_any dn dn A3 A4 n3 c3 n4 c4 dl dl de de _ hI.s3 hI.s4).mono ?_
      rintro e w7 ⟨rfl, hb7⟩
      rw [eqD_self]
      go_wp2_with fail
      go_ret
      exact ⟨rfl, bnext hI.below hb7⟩

theorem makes_any (neg : Bool) (A : Option Addr) (n c : Nat) (l : List Nat) (x : Int) (w : World) (h : SL w A n c l) (ht : Tabs w) :
    Calls Tryd.prog 3 #[.bool neg, .slice A n c, .int .i64 x] w fun e w' => e = .returned (.bool true) ∧ Below w.heap.size w w' := by
  by_cases hn : n ≤ 300
  · exact makes_short neg A n c l x w h hn ht
  · exact makes_long neg A n c x w (by omega) ht

end Go.Proofs.YtjhokljoomeilaaDoor
