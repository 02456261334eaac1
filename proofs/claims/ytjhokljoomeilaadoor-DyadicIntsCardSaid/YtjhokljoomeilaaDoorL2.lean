/- What the law on Make calls besides: 'is', slices.Equal, Clone (with ownership), Make at any arguments. -/
import Derived.Test.YtjhokljoomeilaaDoorL1
namespace Go.Proofs.YtjhokljoomeilaaDoor
open Go.RowKit Pl Go.Shelf

/-- What Make returns. -/
def makeD (neg : Bool) (l : List Nat) (x : Int) : Dy × Int := if 256 < l.length ∨ expB x = false then (zeroD, 1) else checkD neg (val l) x

theorem make_any (neg : Bool) (A : Option Addr) (n c : Nat) (l : List Nat) (x : Int) (w : World) (h : SL w A n c l) (ht : Tabs w) :
    Calls Tryd.prog 12 #[.bool neg, .slice A n c, .int .i64 x] w (RetE (makeD neg l x).1 (makeD neg l x).2 w) := by
  unfold makeD
  rw [h.len]
  by_cases hb : 256 < n ∨ expB x = false
  · rw [if_pos hb]; exact make_arg neg A n c x w hb
  · rw [if_neg hb]
    have h1 : n ≤ 256 := by
      rcases Nat.lt_or_ge 256 n with h' | h'
      · exact absurd (.inl h') hb
      · exact h'
    have h2 : expB x = true := by
      cases he : expB x with
      | true => rfl
      | false => exact absurd (.inr he) hb
    exact make_ok neg A n c l x w h h1 h2 ht
theorem rmake_any (neg : Bool) (A : Option Addr) (n c : Nat) (l : List Nat) (x : Int) (w : World) (h : SL w A n c l) :
    Calls Tryd.prog 13 #[.bool neg, .slice A n c, .int .i64 x] w (RetE (makeD neg l x).1 (makeD neg l x).2 w) := by
  unfold makeD
  rw [h.len]
  by_cases hb : 256 < n ∨ expB x = false
  · rw [if_pos hb]; exact rmake_arg neg A n c x w hb
  · rw [if_neg hb]
    have h1 : n ≤ 256 := by
      rcases Nat.lt_or_ge 256 n with h' | h'
      · exact absurd (.inl h') hb
      · exact h'
    have h2 : expB x = true := by
      cases he : expB x with
      | true => rfl
      | false => exact absurd (.inr he) hb
    exact rmake_ok neg A n c l x w h h1 h2

set_option maxHeartbeats 1000000 in
/-- 'is' at a result and itself. -/
theorem is_same (neg : Bool) (A B : Option Addr) (n c m d : Nat) (l : List Nat) (x k : Int) (w : World) (h : SL w A n c l) (h' : SL w B m d l) :
    Calls Tryd.prog 14 #[.agg #[.bool neg, .slice A n c, .int .i64 x], .int .i64 k, .agg #[.bool neg, .slice B m d, .int .i64 x], .int .i64 k] w
      fun e w' => e = .returned (.bool true) ∧ Below w.heap.size w w' := by
  have h2 := (h.alloc (.cells #[.bool neg, .slice A n c, .int .i64 x] 27)).alloc (.cells #[.bool neg, .slice B m d, .int .i64 x] 27)
  have h2' := (h'.alloc (.cells #[.bool neg, .slice A n c, .int .i64 x] 27)).alloc (.cells #[.bool neg, .slice B m d, .int .i64 x] 27)
  have hb := (ballo w (.cells #[.bool neg, .slice A n c, .int .i64 x] 27)).alloc (by simp) (.cells #[.bool neg, .slice B m d, .int .i64 x] 27)
  go_enter Tryd.func14, Tryd.ntmps14
  go_wp2_with fail
  refine (requal_any neg neg A B n c m d l l x x _ h2 h2').mono ?_
  rintro e w1 ⟨rfl, hb1⟩
  rw [eqD_self]
  go_wp2_with fail
  go_ret
  exact ⟨rfl, bnext hb hb1⟩

set_option maxHeartbeats 1000000 in
theorem sequal_same (A B : Option Addr) (n c d : Nat) (l : List Nat) (w : World) (h : SL w A n c l) (h' : SL w B n d l) :
    Calls Tryd.prog 15 #[.slice A n c, .slice B n d] w fun e w' => e = .returned (.bool true) ∧ Below w.heap.size w w' := by
  have hcap := h.cap
  have hcap' := h'.cap
  have hmax := h.max
  go_enter Tryd.func15, Tryd.ntmps15
  go_wp2_with fail
  go_loopw [13] (fun i wr => ∃ j : Nat, j ≤ n ∧ i = .int .i64 j ∧ (∃ q, wr = w.drewN q)) (fun i _ => n - (intOf i).toNat)
  case atStart => exact ⟨0, Nat.zero_le _, rfl, 0, rfl⟩
  case round =>
    obtain ⟨j, hj, rfl, q, rfl⟩ := hrel
    by_cases hlt : j < n
    · obtain ⟨b, off, x, rfl, hb, hx, hcell, hxlt⟩ := h.get hlt
      obtain ⟨b', off', y, rfl, hb', hy, hcell', hylt⟩ := h'.get hlt
      have hxy : x = y := by rw [hx] at hy; injection hy
      subst hxy
      clear hx hy
      go_wp2_with fail
      go_quiet (fail)
      go_wp2_with fail
      go_roundw
      case rel => exact ⟨j + 1, by omega, by go_num, _, by first | rfl | rw [World.drewN_drewN]⟩
      case measure => simp [intOf]; omega
    · go_wp2_with fail
      go_ret
      exact ⟨rfl, below_drewN (Below.refl _ _) q⟩

/-- A slice of limbs that the call made and owns. -/
def RetO (l : List Nat) (w : World) (e : Ending) (w' : World) : Prop := ∃ v, e = .returned v ∧ Own w' w.heap.size 25 v l ∧ Below w.heap.size w w'

set_option maxHeartbeats 400000 in
theorem clone_own (A : Option Addr) (n c : Nat) (l : List Nat) (w : World) (h : SL w A n c l) (hn : n ≤ 1099511627776) :
    Calls Tryd.prog 11 #[.slice A n c] w (RetO l w) := by
  rcases A with _ | ad
  · have h0 : n = 0 := by
      rcases Nat.eq_zero_or_pos n with h0 | h0
      · exact h0
      · obtain ⟨_, _, h, _⟩ := h.at_ h0
        cases h
    have hl := h.empty h0
    subst h0
    subst hl
    have hnil := Lib.run_eql_slice_nil (P := Tryd.prog) w 22 25 none 0 c 0 0 Tryd.underlying22
    go_enter Tryd.func11, Tryd.ntmps11
    go_wp2
    go_ret
    exact ⟨_, rfl, Own.nil _ _ _, Below.refl _ _⟩
  · have hnil := Lib.run_eql_slice_nil (P := Tryd.prog) w 22 25 (some ad) n c 0 0 Tryd.underlying22
    have hw := (h.alloc (.cells #[] 25))
    go_enter Tryd.func11, Tryd.ntmps11
    go_wp2_with (at_builtin; refine wpList_app rfl (.tmp 5) (.tmp 6) _ rfl 25 u32_info Tryd.underlying22 w.heap.size _ [] rfl (Own.row (Blk.new _ _ _) (Nat.le_refl _) (by simp)) _ n c l rfl hw (by simpa using hn) (by simp) ?_; intro v1 w1 hown1 hb1)
    go_ret
    rw [List.nil_append] at hown1
    exact ⟨_, rfl, hown1, (ballo _ _).trans hb1⟩

end Go.Proofs.YtjhokljoomeilaaDoor
