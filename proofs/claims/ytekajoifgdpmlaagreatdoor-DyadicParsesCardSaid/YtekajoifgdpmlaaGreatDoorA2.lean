/- natural.Cmp, dyadic.low, slices.Clone: what each call computes. -/
import Derived.Test.YtekajoifgdpmlaaGreatDoorA1
import Derived.Deep.QuietTactic
import Derived.BigQuiet
import Derived.RegionTactic
namespace Go.Proofs.YtekajoifgdpmlaaGreatDoor
open Go.RowKit Pl

theorem u32_info : (Tryz.prog.info? 60).map (fun i => (i.zero, i.size, i.bytes)) = some (some (.int .u32 0), 1, 4) := by kernel_rfl

/-- A slice of limbs that the call made. -/
def RetS (l : List Nat) (w : World) (e : Ending) (w' : World) : Prop := ∃ A n c, e = .returned (.slice A n c) ∧ SL w' A n c l ∧ Fresh w.heap.size A n ∧ Below w.heap.size w w'

set_option maxHeartbeats 400000 in
theorem clone_any (A : Option Addr) (n c : Nat) (l : List Nat) (w : World) (h : SL w A n c l) (hn : n ≤ 1099511627776) :
    Calls Tryz.prog 111 #[.slice A n c] w (RetS l w) := by
  rcases A with _ | ad
  · have h0 : n = 0 := by
      rcases Nat.eq_zero_or_pos n with h0 | h0
      · exact h0
      · obtain ⟨_, _, h, _⟩ := h.at_ h0
        cases h
    have hl := h.empty h0
    subst h0
    subst hl
    have hnil := Lib.run_eql_slice_nil (P := Tryz.prog) w 23 60 none 0 c 0 0 Tryz.underlying23
    go_enter Tryz.func111, Tryz.ntmps111
    go_wp2
    go_ret
    exact ⟨_, _, _, rfl, SL.nil _, Fresh.zero, Below.refl _ _⟩
  · have hnil := Lib.run_eql_slice_nil (P := Tryz.prog) w 23 60 (some ad) n c 0 0 Tryz.underlying23
    have hw := (h.alloc (.cells #[] 60))
    go_enter Tryz.func111, Tryz.ntmps111
    go_wp2_with (at_builtin; refine wpList_app rfl (.tmp 5) (.tmp 6) _ rfl 60 u32_info Tryz.underlying23 w.heap.size _ [] rfl (Own.row (Blk.new _ _ _) (Nat.le_refl _) (by simp)) _ n c l rfl hw (by simpa using hn) (by simp) ?_; intro v1 w1 hown1 hb1)
    go_ret
    rw [List.nil_append] at hown1
    obtain ⟨A1, c1, rfl, hs1, hf1⟩ := hown1.sl h.lt
    exact ⟨A1, l.length, c1, rfl, hs1, hf1, ((Below.refl _ _).alloc (Nat.le_refl _) _).trans hb1⟩

theorem drop_step {l m : List Nat} {k x : Nat} (h : l.drop (k + 1) = m.drop (k + 1)) (hx : l[k]? = some x) (hy : m[k]? = some x) : l.drop k = m.drop k := by
  have h1 : k < l.length := by
    rcases Nat.lt_or_ge k l.length with h' | h'
    · exact h'
    · rw [List.getElem?_eq_none h'] at hx; cases hx
  have h2 : k < m.length := by
    rcases Nat.lt_or_ge k m.length with h' | h'
    · exact h'
    · rw [List.getElem?_eq_none h'] at hy; cases hy
  rw [List.drop_eq_getElem_cons h1, List.drop_eq_getElem_cons h2, h]
  rw [List.getElem?_eq_getElem h1] at hx
  rw [List.getElem?_eq_getElem h2] at hy
  injection hx with hx
  injection hy with hy
  rw [hx, hy]

theorem valDigs_lt {l l' : List Nat} {k t x y : Nat} (hk : (digs (val l)).length = k) (hk' : (digs (val l')).length = k) (hd : (digs (val l)).drop (t + 1) = (digs (val l')).drop (t + 1))
    (hx : (digs (val l))[t]? = some x) (hy : (digs (val l'))[t]? = some y) (hxy : x < y) : val l < val l' := by
  have := val_lt_of_top (limbs_digs _) (by rw [hk, hk']) hd hx hy hxy
  rwa [val_digs, val_digs] at this

set_option maxHeartbeats 1000000 in
theorem ncmp_any (A B : Option Addr) (n c m d : Nat) (l l' : List Nat) (w : World) (h : SL w A n c l) (h' : SL w B m d l') :
    Calls Tryz.prog 159 #[.slice A n c, .slice B m d] w fun e w' => e = .returned (.int .i64 (cmpN (val l) (val l'))) ∧ ∃ q, w' = w.drewN q := by
  have hT := h.trim
  have hT' := h'.trim
  have hcap := hT.cap
  have hcap' := hT'.cap
  have hmax := hT.max
  have hmax' := hT'.max
  generalize hk : (digs (val l)).length = k at *
  generalize hk' : (digs (val l')).length = k' at *
  have HK := Lib.hid hk
  have HK' := Lib.hid hk'
  clear hk hk'
  go_enter Tryz.func159, Tryz.ntmps159
  go_wp2_with fail
  refine (trim_any A n c l _ h).mono ?_
  rintro e w' ⟨rfl, rfl⟩
  rw [HK.out]
  go_wp2_with fail
  refine (trim_any B m d l' _ h').mono ?_
  rintro e w' ⟨rfl, rfl⟩
  rw [HK'.out]
  by_cases hlt : k < k'
  · have hne : ((k : Int) == (k' : Int)) = false := by simp; omega
    have hne' : ((k : Int) != (k' : Int)) = true := by simp; omega
    go_wp2_with fail
    go_ret
    exact ⟨by rw [cmpN_lt (lt_of_digs_len (by rw [HK.out, HK'.out]; exact hlt))]; rfl, 0, rfl⟩
  by_cases hgt : k' < k
  · have hne : ((k : Int) == (k' : Int)) = false := by simp; omega
    have hne' : ((k : Int) != (k' : Int)) = true := by simp; omega
    go_wp2_with fail
    go_ret
    exact ⟨by rw [cmpN_gt (lt_of_digs_len (by rw [HK.out, HK'.out]; exact hgt))]; rfl, 0, rfl⟩
  obtain rfl : k = k' := by omega
  go_wp2_with fail
  go_loopw [5] (fun i wr => ∃ j : Nat, j ≤ k ∧ i = .int .i64 ((j : Int) - 1) ∧ (∃ q, wr = w.drewN q) ∧ Hid ((digs (val l)).drop j = (digs (val l')).drop j)) (fun i _ => (intOf i + 1).toNat)
  case atStart => exact ⟨k, Nat.le_refl _, rfl, ⟨0, rfl⟩, by rw [Hid, List.drop_of_length_le (by rw [HK.out]; omega), List.drop_of_length_le (by rw [HK'.out]; omega)]⟩
  case round =>
    obtain ⟨j, hj, rfl, ⟨q, rfl⟩, HD⟩ := hrel
    by_cases h0 : j = 0
    · subst h0
      go_wp2_with fail
      go_ret
      exact ⟨by rw [cmpN_eq (digs_inj (by simpa using HD.out))]; rfl, q, rfl⟩
    · obtain ⟨t, rfl⟩ : ∃ t, j = t + 1 := ⟨j - 1, by omega⟩
      rw [show ((t + 1 : Nat) : Int) - 1 = (t : Int) from by omega]
      obtain ⟨b, off, x, rfl, hb, hx, hcell, hxlt⟩ := hT.get (k := t) (by omega)
      obtain ⟨b', off', y, rfl, hb', hy, hcell', hylt⟩ := hT'.get (k := t) (by omega)
      have HX := Lib.hid hx
      have HY := Lib.hid hy
      clear hx hy
      have ht : t < k := by omega
      by_cases hxy : x < y
      · go_wp2_with fail
        go_quiet (fail)
        go_wp2_with fail
        go_ret
        exact ⟨by rw [cmpN_lt (valDigs_lt HK.out HK'.out HD.out HX.out HY.out hxy)]; rfl, _, by rw [World.drewN_drewN]⟩
      by_cases hyx : y < x
      · go_wp2_with fail
        go_quiet (fail)
        go_wp2_with fail
        go_quiet (fail)
        go_wp2_with fail
        go_ret
        exact ⟨by rw [cmpN_gt (valDigs_lt HK'.out HK.out HD.out.symm HY.out HX.out hyx)]; rfl, _, by rw [World.drewN_drewN, World.drewN_drewN]⟩
      · obtain rfl : x = y := by omega
        go_wp2_with fail
        go_quiet (fail)
        go_wp2_with fail
        go_quiet (fail)
        go_wp2_with fail
        go_roundw
        case rel => exact ⟨t, by omega, rfl, ⟨_, by first | rfl | rw [World.drewN_drewN, World.drewN_drewN]⟩, drop_step HD.out HX.out HY.out⟩
        case measure => simp [intOf]

end Go.Proofs.YtekajoifgdpmlaaGreatDoor
