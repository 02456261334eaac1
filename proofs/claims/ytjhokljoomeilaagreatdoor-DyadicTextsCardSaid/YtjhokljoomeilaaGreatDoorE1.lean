/- The law's long over dyadic numbers: what the call computes. -/
import Derived.Test.YtjhokljoomeilaaGreatDoorL2
namespace Go.Proofs.YtjhokljoomeilaaGreatDoor
open Go.RowKit Pl Go.Shelf

/-- A number as its three cells hold it. -/
structure DV where
  neg : Bool
  A : Option Addr
  n : Nat
  c : Nat
  x : Int
def DV.v (d : DV) : Value := .agg #[.bool d.neg, .slice d.A d.n d.c, .int .i64 d.x]
def longD (k : Nat) (F : Nat → DV) : Bool := decide (∃ j, j < k ∧ 300 < (F j).n)

set_option maxHeartbeats 400000 in
theorem dlong1_any (neg : Bool) (A : Option Addr) (n c : Nat) (x : Int) (w : World) :
    Calls Tryz.prog 26 #[.agg #[.bool neg, .slice A n c, .int .i64 x]] w fun e w' => e = .returned (.bool (decide (300 < n))) ∧ Below w.heap.size w w' := by
  by_cases h : 300 < n
  · go_enter Tryz.func26, Tryz.ntmps26
    go_wp2
    go_ret
    exact ⟨by simp; omega, ballo _ _⟩
  · go_enter Tryz.func26, Tryz.ntmps26
    go_wp2
    go_ret
    exact ⟨by simp; omega, ballo _ _⟩

def IdxB (b : Bool) (w : World) (e : Ending) (w' : World) : Prop := ∃ r : Int, e = .returned (.int .i64 r) ∧ decide (0 ≤ r) = b ∧ Below w.heap.size w w'

set_option maxHeartbeats 1000000 in
theorem dindexFunc_any (g k : Nat) (F : Nat → DV) (w : World) (hk : k ≤ 1000) (hg : g < w.heap.size)
    (hc : ∀ j, j < k → w.cell? ⟨g, j * 3, none⟩ = some (.bool (F j).neg) ∧ w.cell? ⟨g, j * 3 + 1, none⟩ = some (.slice (F j).A (F j).n (F j).c) ∧ w.cell? ⟨g, j * 3 + 2, none⟩ = some (.int .i64 (F j).x)) :
    Calls Tryz.prog 59 #[.slice (some ⟨g, 0, none⟩) k k, .func (.func 26) #[] #[]] w (IdxB (longD k F) w) := by
  have HC := Lib.hid hc
  clear hc
  go_enter Tryz.func59, Tryz.ntmps59
  go_wp2_with fail
  go_loopw [8] (fun i wr => ∃ j : Nat, j ≤ k ∧ i = .int .i64 j ∧ Hid (∀ m, m < j → (F m).n ≤ 300) ∧ Below w.heap.size w wr) (fun i _ => k - (intOf i).toNat)
  case atStart => exact ⟨0, Nat.zero_le _, rfl, fun m hm => absurd hm (by omega), Below.refl _ _⟩
  case round =>
    obtain ⟨j, hj, rfl, HZ, hb⟩ := hrel
    by_cases hlt : j < k
    · obtain ⟨c0, c1, c2⟩ := HC.out j hlt
      have c0 := (hb.cell (p := ⟨g, j * 3, none⟩) hg).trans c0
      have c1 := (hb.cell (p := ⟨g, j * 3 + 1, none⟩) hg).trans c1
      have c2 := (hb.cell (p := ⟨g, j * 3 + 2, none⟩) hg).trans c2
      generalize hA : F j = fj at c0 c1 c2
      have HN := Lib.hid hA
      clear hA
      obtain ⟨neg, A, n, c, x⟩ := fj
      simp only [] at c0 c1 c2
      by_cases h256 : 300 < n
      · go_wp2_with fail
        refine (dlong1_any neg A n c x _).mono ?_
        rintro e w2 ⟨rfl, hb2⟩
        have hd : decide (300 < n) = true := by simp; omega
        rw [hd]
        go_wp2_with fail
        go_ret
        refine ⟨_, rfl, ?_, bthen hb hb2 (Nat.le_refl _)⟩
        rw [longD, decide_eq_true (⟨j, hlt, by rw [HN.out]; exact h256⟩ : ∃ j, j < k ∧ 300 < (F j).n)]
        simp
      · go_wp2_with fail
        refine (dlong1_any neg A n c x _).mono ?_
        rintro e w2 ⟨rfl, hb2⟩
        have hd : decide (300 < n) = false := by simp; omega
        rw [hd]
        go_wp2_with fail
        go_roundw
        case rel => exact ⟨j + 1, by omega, by go_num, fun m hm => by
          by_cases hmj : m < j
          · exact HZ.out m hmj
          · obtain rfl : m = j := by omega
            rw [HN.out]; simp only []; omega, bthen hb hb2 (Nat.le_refl _)⟩
        case measure => simp [intOf]; omega
    · go_wp2_with fail
      go_ret
      refine ⟨_, rfl, ?_, hb⟩
      have : ¬ ∃ j, j < k ∧ 300 < (F j).n := by
        rintro ⟨m, h1, h2⟩
        have := HZ.out m (by omega)
        omega
      rw [longD, decide_eq_false this]
      simp

set_option maxHeartbeats 400000 in
theorem dlong_any (g k : Nat) (F : Nat → DV) (w : World) (hk : k ≤ 1000) (hg : g < w.heap.size)
    (hc : ∀ j, j < k → w.cell? ⟨g, j * 3, none⟩ = some (.bool (F j).neg) ∧ w.cell? ⟨g, j * 3 + 1, none⟩ = some (.slice (F j).A (F j).n (F j).c) ∧ w.cell? ⟨g, j * 3 + 2, none⟩ = some (.int .i64 (F j).x)) :
    Calls Tryz.prog 7 #[.slice (some ⟨g, 0, none⟩) k k] w fun e w' => e = .returned (.bool (longD k F)) ∧ Below w.heap.size w w' := by
  have HC := Lib.hid hc
  clear hc
  go_enter Tryz.func7, Tryz.ntmps7
  go_wp2_with (first
    | (go_at_call 25; go_in)
    | (go_at_call 59; refine (dindexFunc_any g k F _ hk hg HC.out).mono ?_; rintro e w' ⟨r, rfl, hr, hb⟩))
  go_ret
  exact ⟨rfl, hb⟩

theorem dlong_one (g : Nat) (neg : Bool) (A : Option Addr) (n c : Nat) (x : Int) (w : World) (t : TypeId) (h : Blk w g t #[.bool neg, .slice A n c, .int .i64 x]) :
    Calls Tryz.prog 7 #[.slice (some ⟨g, 0, none⟩) 1 1] w fun e w' => e = .returned (.bool (decide (300 < n))) ∧ Below w.heap.size w w' := by
  refine (dlong_any g 1 (fun _ => ⟨neg, A, n, c, x⟩) w (by omega) h.lt (fun j hj => by
    obtain rfl : j = 0 := by omega
    exact ⟨by rw [h.cell]; rfl, by rw [h.cell]; rfl, by rw [h.cell]; rfl⟩)).mono ?_
  rintro e w' ⟨rfl, hb⟩
  refine ⟨?_, hb⟩
  rw [longD]
  congr 2
  exact decide_eq_decide.2 ⟨fun ⟨_, _, h⟩ => h, fun h => ⟨0, by omega, h⟩⟩

theorem dlong_three (g : Nat) (a b d : DV) (w : World) (t : TypeId) (h : Blk w g t #[.bool a.neg, .slice a.A a.n a.c, .int .i64 a.x, .bool b.neg, .slice b.A b.n b.c, .int .i64 b.x, .bool d.neg, .slice d.A d.n d.c, .int .i64 d.x]) :
    Calls Tryz.prog 7 #[.slice (some ⟨g, 0, none⟩) 3 3] w fun e w' => e = .returned (.bool (decide (300 < a.n ∨ 300 < b.n ∨ 300 < d.n))) ∧ Below w.heap.size w w' := by
  refine (dlong_any g 3 (fun j => if j = 0 then a else if j = 1 then b else d) w (by omega) h.lt (fun j hj => by
    have h3 : j = 0 ∨ j = 1 ∨ j = 2 := by omega
    rcases h3 with rfl | rfl | rfl <;> exact ⟨by rw [h.cell]; rfl, by rw [h.cell]; rfl, by rw [h.cell]; rfl⟩)).mono ?_
  rintro e w' ⟨rfl, hb⟩
  refine ⟨?_, hb⟩
  rw [longD]
  congr 2
  refine decide_eq_decide.2 ⟨?_, ?_⟩
  · rintro ⟨j, hj, h⟩
    have h3 : j = 0 ∨ j = 1 ∨ j = 2 := by omega
    rcases h3 with rfl | rfl | rfl
    · exact .inl h
    · exact .inr (.inl h)
    · exact .inr (.inr h)
  · rintro (h | h | h)
    · exact ⟨0, by omega, h⟩
    · exact ⟨1, by omega, h⟩
    · exact ⟨2, by omega, h⟩

end Go.Proofs.YtjhokljoomeilaaGreatDoor
