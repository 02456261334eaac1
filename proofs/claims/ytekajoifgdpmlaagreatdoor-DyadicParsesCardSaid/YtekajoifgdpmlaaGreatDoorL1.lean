/- The examples of the chapter hold: what 'awake' computes. -/
import Derived.Test.YtekajoifgdpmlaaGreatDoorT3
import Derived.Test.YtekajoifgdpmlaaGreatDoorR4
import Derived.KernelRfl
namespace Go.Proofs.YtekajoifgdpmlaaGreatDoor
open Go.RowKit Pl Go.Shelf

theorem ex_make : checkD true (val [0, 2]) 0 = (⟨true, [1], 33⟩, 0) := by kernel_rfl
theorem ex_int : intD 1 = ⟨false, [1], 0⟩ := by kernel_rfl
theorem ex_add : addD ⟨false, [1], 0⟩ ⟨false, [1], -4⟩ = (⟨false, [17], -4⟩, 0) := by kernel_rfl

theorem int_one (w : World) (ht : Tabs w) : Calls Tryz.prog 28 #[.int .i64 1] w (RetD ⟨false, [1], 0⟩ w) := by
  have := intD_nonneg 1 w (by omega) ht
  rw [show intD ((1 : Nat) : Int) = ⟨false, [1], 0⟩ from ex_int] at this
  exact this
theorem SL.oneAt (w : World) (t : TypeId) (z : Int) (x : Nat) (g : Nat) (hz : z = (x : Int)) (hx : x < 4294967296) (hg : g = w.heap.size) : SL (w.alloc (.cells #[.int .u32 z] t)) (some ⟨g, 0, none⟩) 1 1 [x] := by
  subst hg; exact SL.oneI w t z x hz hx

set_option maxHeartbeats 2000000 in
theorem awake_any (w : World) (ht : Tabs w) :
    Calls Tryz.prog 9 #[] w fun e w' => e = .returned (.bool true) ∧ Below w.heap.size w w' := by
  have hs0 := SL.two w 60 0 2 (by omega) (by omega)
  have HT0 := Lib.hid (ht.next (ballo w (.cells #[.int .u32 ((0 : Nat) : Int), .int .u32 ((2 : Nat) : Int)] 60)))
  have hb0 := ballo w (.cells #[.int .u32 ((0 : Nat) : Int), .int .u32 ((2 : Nat) : Int)] 60)
  clear ht
  simp only [Int.natCast_zero, show ((2 : Nat) : Int) = 2 from rfl] at hs0 HT0 hb0
  go_enter Tryz.func9, Tryz.ntmps9
  go_wp2_with fail
  generalize w.alloc (.cells #[.int .u32 0, .int .u32 2] 60) = W0 at *
  refine (make_ok true _ 2 2 [0, 2] 0 _ hs0 (by omega) (by rfl) HT0.out).mono ?_
  rw [ex_make]
  rintro e w1 ⟨A1, n1, c1, rfl, hs1, hf1, hb1⟩
  have hn1 : n1 = 1 := by rw [← hs1.len]; rfl
  subst hn1
  have hbw1 := bnext hb0 hb1
  have HT1 := Lib.hid (HT0.out.next hb1)
  go_wp2_with fail
  have hb1a := ballo w1 (.cells #[.bool true, .slice A1 1 c1, .int .i64 33] 25)
  have hs1a := hs1.below hb1a
  have HT1a := Lib.hid (HT1.out.next hb1a)
  generalize w1.alloc (.cells #[.bool true, .slice A1 1 c1, .int .i64 33] 25) = W1 at *
  refine (dtext_one A1 c1 _ hs1a).mono ?_
  rintro e w2 ⟨rfl, hb2⟩
  have hbw2 := bnext (bnext hbw1 hb1a) hb2
  have HT2 := Lib.hid (HT1a.out.next hb2)
  go_wp2_with fail
  refine (int_one _ HT2.out).mono ?_
  rintro e w3 ⟨A3, n3, c3, rfl, hs3, hf3, hb3⟩
  have hbw3 := bnext hbw2 hb3
  have HT3 := Lib.hid (HT2.out.next hb3)
  have hb3a := ballo w3 (.cells #[.int .u32 1] 60)
  have hs3a := hs3.below hb3a
  have HT3a := Lib.hid (HT3.out.next hb3a)
  have ho3 := SL.oneAt w3 60 1 1 w3.heap.size rfl (by omega) rfl
  have hn3 : n3 = 1 := by rw [← hs3.len]; rfl
  subst hn3
  go_wp2_with fail
  generalize w3.alloc (.cells #[.int .u32 1] 60) = W3 at *
  refine (addD_any false false A3 _ 1 c3 1 1 [1] [1] 0 (-4) _ hs3a ho3 HT3a.out (by omega) (by omega)).mono ?_
  rw [ex_add]
  rintro e w4 ⟨A4, n4, c4, rfl, hs4, hf4, hb4⟩
  have hbw4 := bnext (bnext hbw3 hb3a) hb4
  have hn4 : n4 = 1 := by rw [← hs4.len]; rfl
  subst hn4
  have hb4a := ballo w4 (.cells #[.bool false, .slice A4 1 c4, .int .i64 (-4)] 25)
  have hs4a := (hs4.below hb4a).alloc (.cells #[.int .u32 17] 60)
  have ho4 := SL.oneAt (w4.alloc (.cells #[.bool false, .slice A4 1 c4, .int .i64 (-4)] 25)) 60 17 17 (w4.heap.size + 1) rfl (by omega) (by simp)
  have hb4b := bnext hb4a (ballo (w4.alloc (.cells #[.bool false, .slice A4 1 c4, .int .i64 (-4)] 25)) (.cells #[.int .u32 17] 60))
  go_wp2_with fail
  refine (requal_any false false A4 _ 1 c4 1 1 [17] [17] (-4) (-4) _ hs4a ho4).mono ?_
  rintro e w5 ⟨rfl, hb5⟩
  rw [eqD_self]
  go_wp2_with fail
  go_ret
  exact ⟨rfl, bnext (bnext hbw4 hb4b) hb5⟩

end Go.Proofs.YtekajoifgdpmlaaGreatDoor
