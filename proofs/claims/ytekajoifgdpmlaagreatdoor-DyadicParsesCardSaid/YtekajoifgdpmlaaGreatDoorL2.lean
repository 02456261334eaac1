/- What the law on Make calls besides: 'is', slices.Equal, Clone (with ownership), Make at any arguments. -/
import Derived.Test.YtekajoifgdpmlaaGreatDoorL1
namespace Go.Proofs.YtekajoifgdpmlaaGreatDoor
open Go.RowKit Pl Go.Shelf

/-- What Make returns. -/
def makeD (neg : Bool) (l : List Nat) (x : Int) : Dy × Int := if 256 < l.length ∨ expB x = false then (zeroD, 1) else checkD neg (val l) x

theorem make_any (neg : Bool) (A : Option Addr) (n c : Nat) (l : List Nat) (x : Int) (w : World) (h : SL w A n c l) (ht : Tabs w) :
    Calls Tryz.prog 26 #[.bool neg, .slice A n c, .int .i64 x] w (RetE (makeD neg l x).1 (makeD neg l x).2 w) := by
  unfold makeD
  rw [h.len]
  by_cases hb : 256 < n ∨ expB x = false
  · rw [if_pos hb]; exact make_arg neg A n c x w hb
  · rw [if_neg hb]
    have h1 : n ≤ 256 := by
      rcases Nat.lt_or_ge 256 n with h' | h'
      · exact absurd (.inl h') hb
      · exact h'
    have h2 : expB x = true := by
      cases he : expB x with
      | true => rfl
      | false => exact absurd (.inr he) hb
    exact make_ok neg A n c l x w h h1 h2 ht
set_option maxHeartbeats 1000000 in
/-- 'is' at a result and itself. -/
theorem is_same (neg : Bool) (A B : Option Addr) (n c m d : Nat) (l : List Nat) (x k : Int) (w : World) (h : SL w A n c l) (h' : SL w B m d l) :
    Calls Tryz.prog 12 #[.agg #[.bool neg, .slice A n c, .int .i64 x], .int .i64 k, .agg #[.bool neg, .slice B m d, .int .i64 x], .int .i64 k] w
      fun e w' => e = .returned (.bool true) ∧ Below w.heap.size w w' := by
  have h2 := (h.alloc (.cells #[.bool neg, .slice A n c, .int .i64 x] 25)).alloc (.cells #[.bool neg, .slice B m d, .int .i64 x] 25)
  have h2' := (h'.alloc (.cells #[.bool neg, .slice A n c, .int .i64 x] 25)).alloc (.cells #[.bool neg, .slice B m d, .int .i64 x] 25)
  have hb := (ballo w (.cells #[.bool neg, .slice A n c, .int .i64 x] 25)).alloc (by simp) (.cells #[.bool neg, .slice B m d, .int .i64 x] 25)
  go_enter Tryz.func12, Tryz.ntmps12
  go_wp2_with fail
  refine (requal_any neg neg A B n c m d l l x x _ h2 h2').mono ?_
  rintro e w1 ⟨rfl, hb1⟩
  rw [eqD_self]
  go_wp2_with fail
  go_ret
  exact ⟨rfl, bnext hb hb1⟩

/-- A slice of limbs that the call made and owns. -/
def RetO (l : List Nat) (w : World) (e : Ending) (w' : World) : Prop := ∃ v, e = .returned v ∧ Own w' w.heap.size 60 v l ∧ Below w.heap.size w w'

set_option maxHeartbeats 400000 in
theorem clone_own (A : Option Addr) (n c : Nat) (l : List Nat) (w : World) (h : SL w A n c l) (hn : n ≤ 1099511627776) :
    Calls Tryz.prog 111 #[.slice A n c] w (RetO l w) := by
  rcases A with _ | ad
  · have h0 : n = 0 := by
      rcases Nat.eq_zero_or_pos n with h0 | h0
      · exact h0
      · obtain ⟨_, _, h, _⟩ := h.at_ h0
        cases h
    have hl := h.empty h0
    subst h0
    subst hl
    have hnil := Lib.run_eql_slice_nil (P := Tryz.prog) w 23 60 none 0 c 0 0 Tryz.underlying23
    go_enter Tryz.func111, Tryz.ntmps111
    go_wp2
    go_ret
    exact ⟨_, rfl, Own.nil _ _ _, Below.refl _ _⟩
  · have hnil := Lib.run_eql_slice_nil (P := Tryz.prog) w 23 60 (some ad) n c 0 0 Tryz.underlying23
    have hw := (h.alloc (.cells #[] 60))
    go_enter Tryz.func111, Tryz.ntmps111
    go_wp2_with (at_builtin; refine wpList_app rfl (.tmp 5) (.tmp 6) _ rfl 60 u32_info Tryz.underlying23 w.heap.size _ [] rfl (Own.row (Blk.new _ _ _) (Nat.le_refl _) (by simp)) _ n c l rfl hw (by simpa using hn) (by simp) ?_; intro v1 w1 hown1 hb1)
    go_ret
    rw [List.nil_append] at hown1
    exact ⟨_, rfl, hown1, (ballo _ _).trans hb1⟩

end Go.Proofs.YtekajoifgdpmlaaGreatDoor
