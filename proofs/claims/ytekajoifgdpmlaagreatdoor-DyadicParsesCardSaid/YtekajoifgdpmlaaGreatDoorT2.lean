/- math/bits.Div32, natural.short, strconv.FormatUint: what each call computes. -/
import Derived.Test.YtekajoifgdpmlaaGreatDoorA4
import Derived.Test.YtekajoifgdpmlaaGreatDoorMath3
namespace Go.Proofs.YtekajoifgdpmlaaGreatDoor
open Go.RowKit Pl Go.Shelf

set_option maxHeartbeats 1000000 in
theorem div32_any (x y d : Nat) (w : World) (hx : x < d) (hy : y < 4294967296) (hd : d < 4294967296) :
    Calls Tryz.prog 174 #[.int .u32 (x : Int), .int .u32 (y : Int), .int .u32 (d : Int)] w fun e w' =>
      e = .returned (.tuple #[.int .u32 (((x * 4294967296 + y) / d : Nat) : Int), .int .u32 (((x * 4294967296 + y) % d : Nat) : Int)]) ∧ ∃ q, w' = w.drewN q := by
  have hd0 : ((d : Int) != 0) = true := by simp; omega
  have hor := (or_low64 y x 32 (by omega) (by omega)).1
  have hor : bits .or .u64 ((x : Int) * 4294967296) (y : Int) = ((x * 4294967296 + y : Nat) : Int) := by rw [show x * 4294967296 + y = 2 ^ 32 * x + y from by omega]; exact hor
  have hlt : x * 4294967296 + y < d * 4294967296 := by
    have : (x + 1) * 4294967296 ≤ d * 4294967296 := Nat.mul_le_mul_right _ hx
    omega
  have hq : (x * 4294967296 + y) / d < 4294967296 := Nat.div_lt_of_lt_mul hlt
  have hr : (x * 4294967296 + y) % d < 4294967296 := Nat.lt_trans (Nat.mod_lt _ (by omega)) hd
  have hz : x * 4294967296 + y < 18446744073709551616 := by omega
  generalize x * 4294967296 + y = z at *
  have e1 : IntKind.u64.wrap ((z : Int) / (d : Int)) % 4294967296 = ((z / d : Nat) : Int) := by
    rw [← Int.natCast_ediv]
    generalize z / d = q at *
    simp only [IntKind.wrap, IntKind.bits, IntKind.signed]
    simp
    omega
  have e2 : ((z : Int) % (d : Int)) % 4294967296 = ((z % d : Nat) : Int) := by rw [← Int.natCast_emod]; generalize z % d = q at *; omega
  have E1 := Lib.hid e1
  have E2 := Lib.hid e2
  have hdi : (1 : Int) ≤ d := by omega
  clear e1 e2 hlt hq hr
  go_enter Tryz.func174, Tryz.ntmps174
  go_wp2_with fail
  have hdz : ((d : Int) == 0) = false := by simp; omega
  go_quiet (fail)
  go_wp2_with fail
  go_ret2
  refine ⟨?_, _, rfl⟩
  show Ending.returned (.tuple #[.int .u32 (IntKind.u64.wrap ((z : Int) / (d : Int)) % 4294967296), .int .u32 ((z : Int) % (d : Int) % 4294967296)]) = _
  rw [E1.out, E2.out]

/-- A quotient in memory that the call made, and a rest. -/
def RetQ (v r b : Nat) (w : World) (e : Ending) (w' : World) : Prop := ∃ A n c l, e = .returned (.tuple #[.slice A n c, .int .u32 (r : Int)]) ∧ SL w' A n c l ∧ val l = v ∧ n ≤ b ∧ Fresh w.heap.size A n ∧ Below w.heap.size w w'

set_option maxHeartbeats 1000000 in
theorem short_any (A : Option Addr) (n c d : Nat) (l : List Nat) (w : World) (h : SL w A n c l) (hn : n ≤ 1000000) (hd : d < 4294967296) (hd0 : 0 < d) :
    Calls Tryz.prog 114 #[.slice A n c, .int .u32 (d : Int)] w (RetQ (val l / d) (val l % d) n w) := by
  have hcap := h.cap
  have HL := Lib.hid h.len
  go_enter Tryz.func114, Tryz.ntmps114
  go_wp2_with (at_make; refine wpList_mk rfl (.tmp 10) (.tmp 10) _ 60 rfl u32_info Tryz.underlying23 .i64 .i64 _ _ n n rfl rfl (by omega) (by omega) (Nat.le_refl _) (by omega) ?_; intro w1 hr1 hb1 hs1)
  go_loopw [7, 8] (fun s i wr => ∃ j r : Nat, j ≤ n ∧ i = .int .i64 ((j : Int) - 1) ∧ s = .int .u32 (r : Int) ∧ r < d ∧ Hid (r = val (l.drop j) % d) ∧ Row wr w.heap.size 60 (downN n j (val (l.drop j) / d)) ∧ Below w.heap.size w wr) (fun _ i _ => (intOf i + 1).toNat)
  case atStart =>
    refine ⟨n, 0, Nat.le_refl _, rfl, rfl, hd0, ?_, ?_, hb1⟩
    · rw [Hid, List.drop_of_length_le (by rw [HL.out]; omega)]; simp [val]
    · rw [downN_all]; exact hr1
  case round =>
    obtain ⟨j, r, hj, rfl, rfl, hrd, HR, hr, hb⟩ := hrel
    by_cases h0 : j = 0
    · subst h0
      go_wp2_with fail
      go_ret2
      rw [downN_zero] at hr
      have hR := HR.out
      rw [List.drop_zero] at hR hr
      have hlt := val_lt l h.lt
      rw [HL.out] at hlt
      exact ⟨_, _, _, _, by rw [hR]; rfl, hr.sl (limbs_digN _ _) (digN_length _ _) (by omega), val_digN_of_lt (Nat.lt_of_le_of_lt (Nat.div_le_self _ _) hlt), Nat.le_refl _, fun _ => ⟨_, rfl, Nat.le_refl _⟩, hb⟩
    · obtain ⟨t, rfl⟩ : ∃ t, j = t + 1 := ⟨j - 1, by omega⟩
      rw [show ((t + 1 : Nat) : Int) - 1 = (t : Int) from by omega]
      obtain ⟨b, off, x, rfl, hxb, hx, hcell, hxlt⟩ := (h.below hb).get (k := t) (by omega)
      obtain ⟨q1, q2, q3⟩ := short_step x (val (l.drop (t + 1))) d hd0 hxlt
      rw [← HR.out, ← val_drop_cons l t x hx] at q1 q2
      rw [← HR.out] at q3
      have Q1 := Lib.hid q1
      have Q2 := Lib.hid q2
      have hrd2 : (r * 4294967296 + x) % d < d := Nat.mod_lt _ hd0
      clear hx q1 q2
      have hoc := hr.cell (downN_get n t _)
      have hof := Blk.frozen hr t
      go_wp2_with fail
      refine (div32_any r x d _ hrd hxlt hd).mono ?_
      rintro e w' ⟨rfl, qd, rfl⟩
      generalize (r * 4294967296 + x) / d = qq at *
      generalize (r * 4294967296 + x) % d = rr at *
      go_wp2_with fail
      have hrow := Row.set_ (w := wr.drewN qd) (Blk.drewN hr qd) t qq
      rw [downN_step n t qq _ (by omega) q3, ← Q1.out] at hrow
      have hbel := (below_drewN hb qd).setCell (p := ⟨w.heap.size, t, none⟩) (Nat.le_refl _) (.int .u32 (qq : Int))
      go_roundw
      case rel => exact ⟨t, rr, by omega, rfl, rfl, hrd2, Q2.out.symm, hrow, hbel⟩
      case measure => simp [intOf]

end Go.Proofs.YtekajoifgdpmlaaGreatDoor
