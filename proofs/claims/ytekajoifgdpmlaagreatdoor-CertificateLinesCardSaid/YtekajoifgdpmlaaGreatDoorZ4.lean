/- Bundle 4: what the laws' walks stand on: T2, R1, A5, R2, R3, B2, B3, D1, D2, R4, D3. -/
import Derived.Deep.RegionHeld3
import Derived.Test.YtekajoifgdpmlaaGreatDoorZ3
/-! T2 -/
namespace Go.Proofs.YtekajoifgdpmlaaGreatDoor
open Go.RowKit Pl Go.Shelf

set_option maxHeartbeats 1000000 in
theorem div32_any (x y d : Nat) (w : World) (hx : x < d) (hy : y < 4294967296) (hd : d < 4294967296) :
    Calls Tryz.prog 174 #[.int .u32 (x : Int), .int .u32 (y : Int), .int .u32 (d : Int)] w fun e w' =>
      e = .returned (.tuple #[.int .u32 (((x * 4294967296 + y) / d : Nat) : Int), .int .u32 (((x * 4294967296 + y) % d : Nat) : Int)]) ∧ ∃ q, w' = w.drewN q := by
  have hd0 : ((d : Int) != 0) = true := by simp; omega
  have hor := (or_low64 y x 32 (by omega) (by omega)).1
  have hor : bits .or .u64 ((x : Int) * 4294967296) (y : Int) = ((x * 4294967296 + y : Nat) : Int) := by rw [show x * 4294967296 + y = 2 ^ 32 * x + y from by omega]; exact hor
  have hlt : x * 4294967296 + y < d * 4294967296 := by
    have : (x + 1) * 4294967296 ≤ d * 4294967296 := Nat.mul_le_mul_right _ hx
    omega
  have hq : (x * 4294967296 + y) / d < 4294967296 := Nat.div_lt_of_lt_mul hlt
  have hr : (x * 4294967296 + y) % d < 4294967296 := Nat.lt_trans (Nat.mod_lt _ (by omega)) hd
  have hz : x * 4294967296 + y < 18446744073709551616 := by omega
  generalize x * 4294967296 + y = z at *
  have e1 : IntKind.u64.wrap ((z : Int) / (d : Int)) % 4294967296 = ((z / d : Nat) : Int) := by
    rw [← Int.natCast_ediv]
    generalize z / d = q at *
    simp only [IntKind.wrap, IntKind.bits, IntKind.signed]
    simp
    omega
  have e2 : ((z : Int) % (d : Int)) % 4294967296 = ((z % d : Nat) : Int) := by rw [← Int.natCast_emod]; generalize z % d = q at *; omega
  have E1 := Lib.hid e1
  have E2 := Lib.hid e2
  have hdi : (1 : Int) ≤ d := by omega
  clear e1 e2 hlt hq hr
  go_enter Tryz.func174, Tryz.ntmps174
  go_wp2_with fail
  have hdz : ((d : Int) == 0) = false := by simp; omega
  go_quiet (fail)
  go_wp2_with fail
  go_ret2
  refine ⟨?_, _, rfl⟩
  show Ending.returned (.tuple #[.int .u32 (IntKind.u64.wrap ((z : Int) / (d : Int)) % 4294967296), .int .u32 ((z : Int) % (d : Int) % 4294967296)]) = _
  rw [E1.out, E2.out]

/-- A quotient in memory that the call made, and a rest. -/
def RetQ (v r b : Nat) (w : World) (e : Ending) (w' : World) : Prop := ∃ A n c l, e = .returned (.tuple #[.slice A n c, .int .u32 (r : Int)]) ∧ SL w' A n c l ∧ val l = v ∧ n ≤ b ∧ Fresh w.heap.size A n ∧ Below w.heap.size w w'

set_option maxHeartbeats 1000000 in
theorem short_any (A : Option Addr) (n c d : Nat) (l : List Nat) (w : World) (h : SL w A n c l) (hn : n ≤ 1000000) (hd : d < 4294967296) (hd0 : 0 < d) :
    Calls Tryz.prog 114 #[.slice A n c, .int .u32 (d : Int)] w (RetQ (val l / d) (val l % d) n w) := by
  have hcap := h.cap
  have HL := Lib.hid h.len
  go_enter Tryz.func114, Tryz.ntmps114
  go_wp2_with (at_make; refine wpList_mk rfl (.tmp 10) (.tmp 10) _ 60 rfl u32_info Tryz.underlying23 .i64 .i64 _ _ n n rfl rfl (by omega) (by omega) (Nat.le_refl _) (by omega) ?_; intro w1 hr1 hb1 hs1)
  go_loopw [7, 8] (fun s i wr => ∃ j r : Nat, j ≤ n ∧ i = .int .i64 ((j : Int) - 1) ∧ s = .int .u32 (r : Int) ∧ r < d ∧ Hid (r = val (l.drop j) % d) ∧ Row wr w.heap.size 60 (downN n j (val (l.drop j) / d)) ∧ Below w.heap.size w wr) (fun _ i _ => (intOf i + 1).toNat)
  case atStart =>
    refine ⟨n, 0, Nat.le_refl _, rfl, rfl, hd0, ?_, ?_, hb1⟩
    · rw [Hid, List.drop_of_length_le (by rw [HL.out]; omega)]; simp [val]
    · rw [downN_all]; exact hr1
  case round =>
    obtain ⟨j, r, hj, rfl, rfl, hrd, HR, hr, hb⟩ := hrel
    by_cases h0 : j = 0
    · subst h0
      go_wp2_with fail
      go_ret2
      rw [downN_zero] at hr
      have hR := HR.out
      rw [List.drop_zero] at hR hr
      have hlt := val_lt l h.lt
      rw [HL.out] at hlt
      exact ⟨_, _, _, _, by rw [hR]; rfl, hr.sl (limbs_digN _ _) (digN_length _ _) (by omega), val_digN_of_lt (Nat.lt_of_le_of_lt (Nat.div_le_self _ _) hlt), Nat.le_refl _, fun _ => ⟨_, rfl, Nat.le_refl _⟩, hb⟩
    · obtain ⟨t, rfl⟩ : ∃ t, j = t + 1 := ⟨j - 1, by omega⟩
      rw [show ((t + 1 : Nat) : Int) - 1 = (t : Int) from by omega]
      obtain ⟨b, off, x, rfl, hxb, hx, hcell, hxlt⟩ := (h.below hb).get (k := t) (by omega)
      obtain ⟨q1, q2, q3⟩ := short_step x (val (l.drop (t + 1))) d hd0 hxlt
      rw [← HR.out, ← val_drop_cons l t x hx] at q1 q2
      rw [← HR.out] at q3
      have Q1 := Lib.hid q1
      have Q2 := Lib.hid q2
      have hrd2 : (r * 4294967296 + x) % d < d := Nat.mod_lt _ hd0
      clear hx q1 q2
      have hoc := hr.cell (downN_get n t _)
      have hof := Blk.frozen hr t
      go_wp2_with fail
      refine (div32_any r x d _ hrd hxlt hd).mono ?_
      rintro e w' ⟨rfl, qd, rfl⟩
      generalize (r * 4294967296 + x) / d = qq at *
      generalize (r * 4294967296 + x) % d = rr at *
      go_wp2_with fail
      have hrow := Row.set_ (w := wr.drewN qd) (Blk.drewN hr qd) t qq
      rw [downN_step n t qq _ (by omega) q3, ← Q1.out] at hrow
      have hbel := (below_drewN hb qd).setCell (p := ⟨w.heap.size, t, none⟩) (Nat.le_refl _) (.int .u32 (qq : Int))
      go_roundw
      case rel => exact ⟨t, rr, by omega, rfl, rfl, hrd2, Q2.out.symm, hrow, hbel⟩
      case measure => simp [intOf]

end Go.Proofs.YtekajoifgdpmlaaGreatDoor

/-! R1 -/
namespace Go.Proofs.YtekajoifgdpmlaaGreatDoor
open Go.RowKit Pl Go.Shelf

set_option maxHeartbeats 400000 in
theorem rtrim_any (A : Option Addr) (n c : Nat) (l : List Nat) (w : World) (h : SL w A n c l) (hn : n ≤ 1000000) :
    Calls Tryz.prog 40 #[.slice A n c] w (RetS (digs (val l)) w) := by
  have hcap := h.cap
  have hmax := h.max
  have hlen := Lib.hid h.len
  go_enter Tryz.func40, Tryz.ntmps40
  go_wp2_with fail
  go_loop [3] (fun i => ∃ k : Nat, k ≤ n ∧ i = .int .i64 k ∧ Hid (∀ j, k ≤ j → j < n → l[j]? = some 0)) (fun i => (intOf i).toNat)
  case atStart => exact ⟨n, Nat.le_refl _, rfl, fun j h1 h2 => absurd h2 (by omega)⟩
  case round =>
    obtain ⟨k, hk, rfl, HZ⟩ := hrel
    have hw := (h.take hk).alloc (.cells #[] 60)
    have fin : (k = 0 ∨ l[k - 1]? ≠ some 0) → ∀ v1 w1, Own w1 w.heap.size 60 v1 ([] ++ l.take k) → Below w.heap.size (w.alloc (.cells #[] 60)) w1 → RetS (digs (val l)) w (.returned v1) w1 := by
      intro he v1 w1 hown1 hb1
      have e := take_trim l h.lt k (by rw [hlen.out]; exact hk) (fun j h1 h2 => HZ.out j h1 (by rw [hlen.out] at h2; exact h2)) he
      rw [List.nil_append, e] at hown1
      obtain ⟨A1, c1, rfl, hs1, hf1⟩ := hown1.sl (limbs_digs _)
      exact ⟨_, _, _, rfl, hs1, hf1, (ballo _ _).trans hb1⟩
    have FIN := Lib.hid fin
    clear fin
    by_cases h0 : 0 < k
    · obtain ⟨b, off, x, rfl, hb, hx, hcell, hlt⟩ := h.get (k := k - 1) (by omega)
      have HX := Lib.hid hx
      clear hx
      by_cases hx0 : x = 0
      · subst hx0
        go_wp2_with fail
        go_round
        case rel => exact ⟨k - 1, by omega, by go_num, trimStep HZ.out HX.out⟩
        case measure => simp [intOf]; omega
      · have hx1 : ((x : Int) == 0) = false := by simp; omega
        go_wp2_with (at_builtin; refine wpList_app rfl (.tmp 18) (.tmp 21) _ rfl 60 u32_info Tryz.underlying23 w.heap.size _ [] rfl (Own.row (Blk.new _ _ _) (Nat.le_refl _) (by simp)) _ k c (l.take k) rfl hw (by simp; omega) (by simp) ?_; intro v1 w1 hown1 hb1)
        go_ret
        exact FIN.out (.inr (by rw [HX.out]; simp; omega)) v1 w1 hown1 hb1
    · obtain rfl : k = 0 := by omega
      go_wp2_with (at_builtin; refine wpList_app rfl (.tmp 18) (.tmp 21) _ rfl 60 u32_info Tryz.underlying23 w.heap.size _ [] rfl (Own.row (Blk.new _ _ _) (Nat.le_refl _) (by simp)) _ 0 c (l.take 0) rfl hw (by simp) (by simp) ?_; intro v1 w1 hown1 hb1)
      go_ret
      exact FIN.out (by simp) v1 w1 hown1 hb1

theorem and_one32 (x : Nat) (hx : x < 4294967296) : bits .and .u32 (x : Int) 1 = ((x % 2 : Nat) : Int) := by
  have := u32_and_nat x 1 hx (by omega)
  rw [Nat.and_one_is_mod] at this
  exact this

set_option maxHeartbeats 400000 in
theorem zeros_any (A : Option Addr) (n c : Nat) (l : List Nat) (w : World) (h : SL w A n c l) (hn : n ≤ 1000000) (h0 : 0 < val l) :
    Calls Tryz.prog 179 #[.slice A n c] w fun e w' => e = .returned (.int .i64 (tz (val l))) ∧ w = w' := by
  have hcap := h.cap
  have hidx := tz_index l h.lt h0
  rw [h.len] at hidx
  have H0 := Lib.hid h0
  clear h0
  generalize hz : tz (val l) = z at *
  have HZ := Lib.hid hz
  clear hz
  go_enter Tryz.func179, Tryz.ntmps179
  go_wp2_with fail
  go_loop [3] (fun i => ∃ k : Nat, k ≤ z ∧ i = .int .i64 k) (fun i => z - (intOf i).toNat)
  case atStart => exact ⟨0, Nat.zero_le _, rfl⟩
  case round =>
    obtain ⟨k, hk, rfl⟩ := hrel
    obtain ⟨b, off, x, rfl, hb, hx, hcell, hlt⟩ := h.get (k := k / 32) (by omega)
    have hbit := bit_at l h.lt k x hx
    have htz := bit_tz (val l) k H0.out (by rw [HZ.out]; exact hk)
    rw [HZ.out] at htz
    have hxr : x / 2 ^ (k % 32) < 4294967296 := Nat.lt_of_le_of_lt (Nat.div_le_self _ _) hlt
    have hand := and_one32 (x / 2 ^ (k % 32)) hxr
    rw [Int.natCast_ediv, Int.natCast_pow, show ((2 : Nat) : Int) = 2 from rfl] at hand
    have HA := Lib.hid hand
    clear hand hxr
    have HX := Lib.hid hx
    clear hx
    by_cases hkz : k = z
    · subst hkz
      have h1 : x / 2 ^ (k % 32) % 2 = 1 := by rw [hbit]; exact htz.2 rfl
      have ha : bits .and .u32 ((x : Int) / 2 ^ (k % 32)) 1 = 1 := by rw [HA.out, h1]; rfl
      clear hbit htz h1
      go_wp2_with fail
      go_ret
      exact ⟨rfl, rfl⟩
    · have h1 : x / 2 ^ (k % 32) % 2 = 0 := by
        have : ¬ val l / 2 ^ k % 2 = 1 := fun h => hkz (htz.1 h)
        omega
      have ha : bits .and .u32 ((x : Int) / 2 ^ (k % 32)) 1 = 0 := by rw [HA.out, h1]; rfl
      clear hbit htz h1
      go_wp2_with fail
      go_round
      case rel => exact ⟨k + 1, by omega, by go_num⟩
      case measure => simp [intOf]; omega

theorem mask32 (a : Nat) (ha : a < 18446744073709551616) : bits .and .u64 (a : Int) 4294967295 = ((a % 4294967296 : Nat) : Int) := by
  have := u64_and_nat a 4294967295 ha (by omega)
  rw [show (4294967295 : Nat) = 2 ^ 32 - 1 from rfl, Nat.and_two_pow_sub_one_eq_mod] at this
  exact this
theorem maskMod (a : Nat) (ha : a < 18446744073709551616) : bits .and .u64 (a : Int) 4294967295 % 4294967296 = ((a % 4294967296 : Nat) : Int) := by
  rw [mask32 a ha]; omega
theorem rr_mid {dl : List Nat} (h : Limbs dl) {j x y k V : Nat} (hV : V = val dl / 2 ^ (k % 32)) (hx : dl[j]? = some x) (hy : dl[j + 1]? = some y) :
    bits .and .u64 (bits .or .u64 (x : Int) ((y : Int) * 4294967296) / 2 ^ (k % 32)) 4294967295 % 4294967296 = ((dig V j : Nat) : Int) := by
  have e := shr_mid h (k := k) hx hy
  have hxl := h.get hx
  have hyl := h.get hy
  rw [show bits .or .u64 (x : Int) ((y : Int) * 4294967296) = ((2 ^ 32 * y + x : Nat) : Int) from (or_low64 x y 32 hxl (by omega)).2] at e ⊢
  have e2 : ((2 ^ 32 * y + x : Nat) : Int) / 2 ^ (k % 32) = (((2 ^ 32 * y + x) / 2 ^ (k % 32) : Nat) : Int) := by rw [Int.natCast_ediv, Int.natCast_pow]; rfl
  rw [e2] at e ⊢
  rw [maskMod _ (Nat.lt_of_le_of_lt (Nat.div_le_self _ _) (by omega)), hV, ← e]
  omega
theorem rr_last {dl : List Nat} (h : Limbs dl) {j x k V : Nat} (hV : V = val dl / 2 ^ (k % 32)) (hx : dl[j]? = some x) (hy : dl[j + 1]? = none) :
    bits .and .u64 ((x : Int) / 2 ^ (k % 32)) 4294967295 % 4294967296 = ((dig V j : Nat) : Int) := by
  have e := shr_last h (k := k) hx hy
  have hxl := h.get hx
  have e2 : (x : Int) / 2 ^ (k % 32) = ((x / 2 ^ (k % 32) : Nat) : Int) := by rw [Int.natCast_ediv, Int.natCast_pow]; rfl
  rw [e2] at e ⊢
  rw [maskMod _ (Nat.lt_of_le_of_lt (Nat.div_le_self _ _) (by omega)), hV, ← e]
  omega

set_option maxRecDepth 100000 in
set_option maxHeartbeats 1000000 in
theorem rright_any (A : Option Addr) (n c k : Nat) (l : List Nat) (w : World) (h : SL w A n c l) (hn : n ≤ 1000000) (hk : k ≤ 100000000) :
    Calls Tryz.prog 180 #[.slice A n c, .int .i64 (k : Int)] w (RetS (digs (val l / 2 ^ k)) w) := by
  have hlen := h.len
  have hcap := h.cap
  have hmax := h.max
  have HL := Lib.hid hlen
  clear hlen
  by_cases hbig : n ≤ k / 32
  · have hv : val l / 2 ^ k = 0 := by
      rw [Nat.div_eq_of_lt]
      have h1 := val_lt l h.lt
      rw [HL.out, base_pow] at h1
      exact Nat.lt_of_lt_of_le h1 (Nat.pow_le_pow_right (by omega) (by omega))
    have HV := Lib.hid hv
    clear hv
    go_enter Tryz.func180, Tryz.ntmps180
    go_wp2_with fail
    go_ret
    rw [HV.out]
    exact ⟨_, _, _, rfl, SL.nil _, Fresh.zero, Below.refl _ _⟩
  · obtain ⟨b, off, rfl, _, _⟩ := h.at_ (by omega)
    have hdec : decide ((n : Int) ≤ (k : Int) / 32) = false := by simp; omega
    have hS := h.drop (k := k / 32) (by omega)
    have HV := Lib.hid (val_drop l h.lt (k / 32) (by rw [HL.out]; omega))
    go_enter Tryz.func180, Tryz.ntmps180
    go_wp2_with fail
    have HM : Hid (n - k / 32 ≤ 1000000) := by unfold Hid; omega
    clear hdec hbig hcap hmax
    generalize n - k / 32 = M at *
    generalize off + k / 32 = off2 at *
    generalize c - k / 32 = c2 at *
    generalize l.drop (k / 32) = dl at *
    have hM := HM.out
    obtain ⟨V, hV⟩ : ∃ V, V = val dl / 2 ^ (k % 32) := ⟨_, rfl⟩
    have HVV := Lib.hid hV
    clear hV
    go_loopw [5, 6] (fun v i wr => ∃ j : Nat, j ≤ M ∧ i = .int .i64 j ∧ Own wr w.heap.size 60 v (digN j V) ∧ Below w.heap.size w wr) (fun _ i _ => M - (intOf i).toNat)
    case atStart => exact ⟨0, Nat.zero_le _, rfl, Own.nil _ _ _, Below.refl _ _⟩
    case round =>
      obtain ⟨j, hj, rfl, hr, hb⟩ := hrel
      by_cases hlt : j < M
      · obtain ⟨x, hxb, hx, hcell, hxlt⟩ := (hS.below hb).get' hlt
        have HX := Lib.hid hx
        clear hx
        by_cases hlast : j + 1 < M
        · obtain ⟨y, hyb, hy, hcelly, hylt⟩ := (hS.below hb).get' hlast
          have HY := Lib.hid hy
          clear hy
          go_wp2_with (at_builtin; refine wpList_app rfl (.tmp 42) (.tmp 50) _ rfl 60 u32_info Tryz.underlying23 w.heap.size _ (digN j V) rfl (hr.alloc _) _ 1 1 [dig V j] rfl (SL.oneI _ _ _ _ (rr_mid hS.lt HVV.out HX.out HY.out) (dig_lt _ _)) (by rw [digN_length]; omega) (by have := hb.size; simp; omega) ?_; intro v1 w1 hown1 hb1)
          rw [← digN_succ] at hown1
          have hbw := (hb.alloc hb.size _).trans hb1
          go_roundw
          case rel => exact ⟨j + 1, by omega, by go_num, hown1, hbw⟩
          case measure => simp [intOf]; omega
        · go_wp2_with (at_builtin; refine wpList_app rfl (.tmp 42) (.tmp 50) _ rfl 60 u32_info Tryz.underlying23 w.heap.size _ (digN j V) rfl (hr.alloc _) _ 1 1 [dig V j] rfl (SL.oneI _ _ _ _ (rr_last hS.lt HVV.out HX.out (List.getElem?_eq_none (by rw [hS.len]; omega))) (dig_lt _ _)) (by rw [digN_length]; omega) (by have := hb.size; simp; omega) ?_; intro v1 w1 hown1 hb1)
          rw [← digN_succ] at hown1
          have hbw := (hb.alloc hb.size _).trans hb1
          go_roundw
          case rel => exact ⟨j + 1, by omega, by go_num, hown1, hbw⟩
          case measure => simp [intOf]; omega
      · obtain ⟨A1, c1, rfl, hs1, hf1⟩ := hr.sl (limbs_digN _ _)
        rw [digN_length] at hs1 hf1 ⊢
        go_wp2_with fail
        refine (rtrim_any A1 j c1 _ _ hs1 (by omega)).mono ?_
        rintro e w2 ⟨A2, n2, c2, rfl, hs2, hf2, hb2⟩
        go_wp2_with fail
        go_ret
        obtain rfl : j = M := by omega
        have hlt := val_lt dl hS.lt
        rw [hS.len] at hlt
        rw [val_digN_of_lt (by rw [HVV.out]; exact Nat.lt_of_le_of_lt (Nat.div_le_self _ _) hlt), HVV.out, HV.out, Nat.div_div_eq_div_mul, base_pow, ← Nat.pow_add, show 32 * (k / 32) + k % 32 = k from by omega] at hs2
        exact ⟨A2, n2, c2, rfl, hs2, hf2.mono hb.size, bnext hb hb2⟩

end Go.Proofs.YtekajoifgdpmlaaGreatDoor

/-! A5 -/
namespace Go.Proofs.YtekajoifgdpmlaaGreatDoor
open Go.RowKit Pl Go.Shelf

/-- In range, for the number v 2^e. -/
def inR (v : Nat) (e : Int) : Bool := decide (v = 0 ∨ (blen v ≤ 4096 ∧ -16384 ≤ e ∧ e ≤ 16384 ∧ (blen v : Int) + e ≤ 16384))

set_option maxHeartbeats 1000000 in
theorem inRange_any (neg : Bool) (A : Option Addr) (n c : Nat) (l : List Nat) (x : Int) (w : World) (h : SL w A n c l) (hn : n ≤ 100000000) :
    Calls Tryz.prog 106 #[.agg #[.bool neg, .slice A n c, .int .i64 x]] w fun e w' => e = .returned (.bool (inR (val l) x)) ∧ w.alloc (.cells #[.bool neg, .slice A n c, .int .i64 x] 25) = w' := by
  have h1 := h.alloc (.cells #[.bool neg, .slice A n c, .int .i64 x] 25)
  have hb0 : val l = 0 ↔ blen (val l) = 0 := ⟨fun h => by rw [h]; rfl, fun h => by
    rcases Nat.eq_zero_or_pos (val l) with h' | h'
    · exact h'
    · have := blen_pos _ h'; omega⟩
  have hR : inR (val l) x = decide (blen (val l) = 0 ∨ (blen (val l) ≤ 4096 ∧ -16384 ≤ x ∧ x ≤ 16384 ∧ (blen (val l) : Int) + x ≤ 16384)) := by unfold inR; exact decide_eq_decide.2 (or_congr hb0 Iff.rfl)
  have HR := Lib.hid hR
  clear hR hb0
  generalize hN : blen (val l) = N at *
  have HN := Lib.hid hN
  clear hN
  have fin : ∀ b : Bool, (b = true ↔ (N = 0 ∨ (N ≤ 4096 ∧ -16384 ≤ x ∧ x ≤ 16384 ∧ (N : Int) + x ≤ 16384))) → Ending.returned (.bool b) = .returned (.bool (inR (val l) x)) := by
    intro b hb
    rw [HR.out]
    congr 2
    rw [Bool.eq_iff_iff, hb, decide_eq_true_iff]
  have FIN := Lib.hid fin
  clear fin
  by_cases c0 : N = 0
  · subst c0
    go_enter Tryz.func106, Tryz.ntmps106
    go_wp2_with (go_at_call 168; refine (size_any A n c l _ h1 hn).mono ?_; rintro e w' ⟨rfl, rfl⟩; rw [HN.out])
    go_ret
    exact ⟨FIN.out true (by simp), rfl⟩
  have c0' : ((N : Int) == 0) = false := by simp; omega
  by_cases c1 : N ≤ 4096
  · by_cases c2 : -16384 ≤ x
    · by_cases c3 : x ≤ 16384
      · by_cases c4 : (N : Int) + x ≤ 16384
        · go_enter Tryz.func106, Tryz.ntmps106
          go_wp2_with (go_at_call 168; refine (size_any A n c l _ h1 hn).mono ?_; rintro e w' ⟨rfl, rfl⟩; rw [HN.out])
          go_ret
          exact ⟨FIN.out true (by simp; omega), rfl⟩
        · go_enter Tryz.func106, Tryz.ntmps106
          go_wp2_with (go_at_call 168; refine (size_any A n c l _ h1 hn).mono ?_; rintro e w' ⟨rfl, rfl⟩; rw [HN.out])
          go_ret
          exact ⟨FIN.out (decide ((N : Int) + x ≤ 16384)) (by simp; omega), rfl⟩
      · go_enter Tryz.func106, Tryz.ntmps106
        go_wp2_with (go_at_call 168; refine (size_any A n c l _ h1 hn).mono ?_; rintro e w' ⟨rfl, rfl⟩; rw [HN.out])
        go_ret
        exact ⟨FIN.out false (by simp; omega), rfl⟩
    · go_enter Tryz.func106, Tryz.ntmps106
      go_wp2_with (go_at_call 168; refine (size_any A n c l _ h1 hn).mono ?_; rintro e w' ⟨rfl, rfl⟩; rw [HN.out])
      go_ret
      exact ⟨FIN.out false (by simp; omega), rfl⟩
  · go_enter Tryz.func106, Tryz.ntmps106
    go_wp2_with (go_at_call 168; refine (size_any A n c l _ h1 hn).mono ?_; rintro e w' ⟨rfl, rfl⟩; rw [HN.out])
    go_ret
    exact ⟨FIN.out false (by simp; omega), rfl⟩

/-- A number that the call made, and an error number. -/
def RetE (d : Dy) (k : Int) (w : World) (e : Ending) (w' : World) : Prop := ∃ A n c, e = .returned (.tuple #[.agg #[.bool d.neg, .slice A n c, .int .i64 d.e], .int .i64 k]) ∧ SL w' A n c d.l ∧ Fresh w.heap.size A n ∧ Below w.heap.size w w'
set_option maxHeartbeats 1000000 in
theorem checked_ok (neg : Bool) (A : Option Addr) (n c : Nat) (l : List Nat) (x : Int) (w : World) (h : SL w A n c l) (hn : n ≤ 100000000) (hr : inR (val l) x = true) :
    Calls Tryz.prog 34 #[.agg #[.bool neg, .slice A n c, .int .i64 x]] w fun e w' => e = .returned (.tuple #[.agg #[.bool neg, .slice A n c, .int .i64 x], .int .i64 0]) ∧ Below w.heap.size w w' := by
  have h2 := (h.alloc (.cells #[.bool neg, .slice A n c, .int .i64 x] 25)).alloc (.cells #[.bool false, .slice none 0 0, .int .i64 0] 25)
  have HR := Lib.hid hr
  clear hr
  go_enter Tryz.func34, Tryz.ntmps34
  go_wp2_with (go_at_call 106; refine (inRange_any neg A n c l x _ h2 hn).mono ?_; rintro e w' ⟨rfl, rfl⟩; rw [HR.out])
  refine bodyPost_ret (v := .tuple #[.agg #[.bool neg, .slice A n c, .int .i64 x], .int .i64 0]) (by simp [results, Tryz.results34, go_sem]) rfl ⟨rfl, ?_⟩
  repeat (first | exact Below.refl _ _ | refine Below.alloc ?_ (by simp <;> omega) _ | refine Below.setCell ?_ (by simp) _)

set_option maxHeartbeats 1000000 in
theorem checked_big (neg : Bool) (A : Option Addr) (n c : Nat) (l : List Nat) (x : Int) (w : World) (h : SL w A n c l) (hn : n ≤ 100000000) (hr : inR (val l) x = false) :
    Calls Tryz.prog 34 #[.agg #[.bool neg, .slice A n c, .int .i64 x]] w fun e w' => e = .returned (.tuple #[.agg #[.bool false, .slice none 0 0, .int .i64 0], .int .i64 9]) ∧ Below w.heap.size w w' := by
  have h2 := (h.alloc (.cells #[.bool neg, .slice A n c, .int .i64 x] 25)).alloc (.cells #[.bool false, .slice none 0 0, .int .i64 0] 25)
  have HR := Lib.hid hr
  clear hr
  go_enter Tryz.func34, Tryz.ntmps34
  go_wp2_with (go_at_call 106; refine (inRange_any neg A n c l x _ h2 hn).mono ?_; rintro e w' ⟨rfl, rfl⟩; rw [HR.out])
  refine bodyPost_ret (v := .tuple #[.agg #[.bool false, .slice none 0 0, .int .i64 0], .int .i64 9]) (by simp [results, Tryz.results34, go_sem]) rfl ⟨rfl, ?_⟩
  repeat (first | exact Below.refl _ _ | refine Below.alloc ?_ (by simp <;> omega) _ | refine Below.setCell ?_ (by simp) _)

/-- The canonical number and OK, or zero and ErrBig. -/
def checkD (neg : Bool) (v : Nat) (e : Int) : Dy × Int := if inR (val (canonD neg v e).l) (canonD neg v e).e = true then (canonD neg v e, 0) else (zeroD, 9)

end Go.Proofs.YtekajoifgdpmlaaGreatDoor

/-! R2 -/
namespace Go.Proofs.YtekajoifgdpmlaaGreatDoor
open Go.RowKit Pl Go.Shelf

set_option maxHeartbeats 400000 in
theorem rbits_any (A : Option Addr) (n c : Nat) (l : List Nat) (w : World) (h : SL w A n c l) (hn : n ≤ 1000000) (ht : Trim l) :
    Calls Tryz.prog 134 #[.slice A n c] w fun e w' => e = .returned (.int .i64 (blen (val l))) ∧ w = w' := by
  by_cases h0 : n = 0
  · have hl := h.empty h0
    subst h0
    subst hl
    go_enter Tryz.func134, Tryz.ntmps134
    go_wp2_with fail
    go_ret
    exact ⟨rfl, rfl⟩
  · obtain ⟨k, rfl⟩ : ∃ k, n = k + 1 := ⟨n - 1, by omega⟩
    obtain ⟨b, off, x, rfl, hb, hx, hcell, hlt⟩ := h.get (k := k) (by omega)
    have hx0 : 0 < x := by
      rcases Nat.eq_zero_or_pos x with rfl | hp
      · exact absurd (by rw [List.getLast?_eq_getElem?, h.len]; exact hx) ht
      · exact hp
    have hb1 := le_blen x hx0
    have hb2 := lt_blen x
    have hb3 := blen_pos x hx0
    have hfin : blen (val l) = 32 * k + blen x := by
      have := blen_top l h.lt k x (blen x - 1) h.len hx hb1 (by rw [show blen x - 1 + 1 = blen x from by omega]; exact hb2)
      omega
    have hbl : blen x ≤ 32 := blen_le_of x 32 hlt
    have HF := Lib.hid hfin
    have HX := Lib.hid hx
    have HT := Lib.hid ht
    clear hfin hx hb1 hb2 ht h0
    go_enter Tryz.func134, Tryz.ntmps134
    go_wp2_with fail
    go_loop [3, 4] (fun s v => ∃ y t : Nat, y ≤ x ∧ v = .int .u32 (y : Int) ∧ s = .int .i64 (32 * k + t) ∧ t ≤ 32 ∧ Hid (blen x = t + blen y)) (fun _ v => (intOf v).toNat)
    case atStart => exact ⟨x, 0, Nat.le_refl _, rfl, by go_num, by omega, by simp [Hid]⟩
    case round =>
      obtain ⟨y, t, hy, rfl, rfl, ht, HB⟩ := hrel
      by_cases hy0 : 0 < y
      · have hh := blen_half y hy0
        have hB := HB.out
        have HH : Hid (blen x = (t + 1) + blen (y / 2)) := by unfold Hid; omega
        have ht' : t + 1 ≤ 32 := by omega
        clear hh hB
        go_wp2_with fail
        go_round
        case rel => exact ⟨y / 2, t + 1, by omega, by go_num, by go_num, ht', HH⟩
        case measure => simp [intOf]; omega
      · obtain rfl : y = 0 := by omega
        go_wp2_with fail
        go_ret
        have hB := HB.out
        rw [blen_zero] at hB
        exact ⟨by rw [HF.out, hB]; go_num, rfl⟩

set_option maxHeartbeats 1000000 in
theorem rcompare_any (A B : Option Addr) (n c m d : Nat) (l l' : List Nat) (w : World) (h : SL w A n c l) (h' : SL w B m d l') :
    Calls Tryz.prog 99 #[.slice A n c, .slice B m d] w fun e w' => e = .returned (.int .i64 (cmpL l l')) ∧ ∃ q, w' = w.drewN q := by
  have hcap := h.cap
  have hcap' := h'.cap
  have hmax := h.max
  have hmax' := h'.max
  have HK := Lib.hid h.len
  have HK' := Lib.hid h'.len
  by_cases hlt : n < m
  · have hne : ((n : Int) == (m : Int)) = false := by simp; omega
    have hne' : ((n : Int) != (m : Int)) = true := by simp; omega
    go_enter Tryz.func99, Tryz.ntmps99
    go_wp2_with fail
    go_ret
    exact ⟨by rw [cmpL, HK.out, HK'.out, if_pos hlt]; rfl, 0, rfl⟩
  by_cases hgt : m < n
  · have hne : ((n : Int) == (m : Int)) = false := by simp; omega
    have hne' : ((n : Int) != (m : Int)) = true := by simp; omega
    go_enter Tryz.func99, Tryz.ntmps99
    go_wp2_with fail
    go_ret
    exact ⟨by rw [cmpL, HK.out, HK'.out, if_neg hlt, if_pos hgt]; rfl, 0, rfl⟩
  obtain rfl : n = m := by omega
  have HC : Hid (cmpL l l' = cmpN (val l) (val l')) := by unfold Hid cmpL; rw [HK.out, HK'.out, if_neg hlt, if_neg hgt]
  clear hlt hgt
  go_enter Tryz.func99, Tryz.ntmps99
  go_wp2_with fail
  go_loopw [5] (fun i wr => ∃ j : Nat, j ≤ n ∧ i = .int .i64 ((j : Int) - 1) ∧ (∃ q, wr = w.drewN q) ∧ Hid (l.drop j = l'.drop j)) (fun i _ => (intOf i + 1).toNat)
  case atStart => exact ⟨n, Nat.le_refl _, rfl, ⟨0, rfl⟩, by rw [Hid, List.drop_of_length_le (by rw [HK.out]; omega), List.drop_of_length_le (by rw [HK'.out]; omega)]⟩
  case round =>
    obtain ⟨j, hj, rfl, ⟨q, rfl⟩, HD⟩ := hrel
    by_cases h0 : j = 0
    · subst h0
      go_wp2_with fail
      go_ret
      exact ⟨by rw [HC.out, cmpN_eq (by have := HD.out; simp at this; rw [this])]; rfl, q, rfl⟩
    · obtain ⟨t, rfl⟩ : ∃ t, j = t + 1 := ⟨j - 1, by omega⟩
      rw [show ((t + 1 : Nat) : Int) - 1 = (t : Int) from by omega]
      obtain ⟨b, off, x, rfl, hb, hx, hcell, hxlt⟩ := h.get (k := t) (by omega)
      obtain ⟨b', off', y, rfl, hb', hy, hcell', hylt⟩ := h'.get (k := t) (by omega)
      have HX := Lib.hid hx
      have HY := Lib.hid hy
      clear hx hy
      have ht : t < n := by omega
      by_cases hxy : x < y
      · go_wp2_with fail
        go_quiet (fail)
        go_wp2_with fail
        go_ret
        exact ⟨by rw [HC.out, cmpN_lt (val_lt_of_top h.lt (by rw [HK.out, HK'.out]) HD.out HX.out HY.out hxy)]; rfl, _, by rw [World.drewN_drewN]⟩
      by_cases hyx : y < x
      · go_wp2_with fail
        go_quiet (fail)
        go_wp2_with fail
        go_quiet (fail)
        go_wp2_with fail
        go_ret
        exact ⟨by rw [HC.out, cmpN_gt (val_lt_of_top h'.lt (by rw [HK.out, HK'.out]) HD.out.symm HY.out HX.out hyx)]; rfl, _, by rw [World.drewN_drewN, World.drewN_drewN]⟩
      · obtain rfl : x = y := by omega
        go_wp2_with fail
        go_quiet (fail)
        go_wp2_with fail
        go_quiet (fail)
        go_wp2_with fail
        go_roundw
        case rel => exact ⟨t, by omega, rfl, ⟨_, by first | rfl | rw [World.drewN_drewN, World.drewN_drewN]⟩, drop_step HD.out HX.out HY.out⟩
        case measure => simp [intOf]

end Go.Proofs.YtekajoifgdpmlaaGreatDoor

/-! R3 -/
namespace Go.Proofs.YtekajoifgdpmlaaGreatDoor
open Go.RowKit Pl Go.Shelf

/-- Two numbers are equal as values. -/
def eqD (d d' : Dy) : Bool := decide (d.neg = d'.neg ∧ d.e = d'.e ∧ d.l = d'.l)
theorem eqD_self (d : Dy) : eqD d d = true := by simp [eqD]
theorem eqD_iff (d d' : Dy) : eqD d d' = true ↔ d = d' := by
  obtain ⟨a, b, c⟩ := d
  obtain ⟨a', b', c'⟩ := d'
  simp [eqD]
  intro _
  exact and_comm

set_option maxHeartbeats 1000000 in
theorem requal_any (neg neg' : Bool) (A B : Option Addr) (n c m d : Nat) (l l' : List Nat) (x x' : Int) (w : World) (h : SL w A n c l) (h' : SL w B m d l') :
    Calls Tryz.prog 29 #[.agg #[.bool neg, .slice A n c, .int .i64 x], .agg #[.bool neg', .slice B m d, .int .i64 x']] w
      fun e w' => e = .returned (.bool (eqD ⟨neg, l, x⟩ ⟨neg', l', x'⟩)) ∧ Below w.heap.size w w' := by
  have h2 := (h.alloc (.cells #[.bool neg, .slice A n c, .int .i64 x] 25)).alloc (.cells #[.bool neg', .slice B m d, .int .i64 x'] 25)
  have h2' := (h'.alloc (.cells #[.bool neg, .slice A n c, .int .i64 x] 25)).alloc (.cells #[.bool neg', .slice B m d, .int .i64 x'] 25)
  have HK := Lib.hid h.len
  have HK' := Lib.hid h'.len
  by_cases c1 : neg = neg'
  · subst c1
    by_cases c2 : x = x'
    · subst c2
      by_cases c3 : n = m
      · subst c3
        have HC : Hid (eqD ⟨neg, l, x⟩ ⟨neg, l', x⟩ = (cmpL l l' == 0)) := by
          unfold Hid eqD cmpL
          rw [HK.out, HK'.out, if_neg (by omega), if_neg (by omega)]
          by_cases hv : val l = val l'
          · rw [cmpN_eq hv, list_of_val h.lt h'.lt (by rw [HK.out, HK'.out]) hv]; simp
          · have hl : l ≠ l' := fun e => hv (by rw [e])
            rcases Nat.lt_or_gt_of_ne hv with h1 | h1
            · rw [cmpN_lt h1]; simp [hl]
            · rw [cmpN_gt h1]; simp [hl]
        generalize hz : cmpL l l' = z at *
        have HZ := Lib.hid hz
        clear hz
        go_enter Tryz.func29, Tryz.ntmps29
        go_wp2_with (go_at_call 99; refine (rcompare_any A B n c n d l l' _ h2 h2').mono ?_; rintro e w' ⟨rfl, q, rfl⟩; rw [HZ.out])
        go_ret
        exact ⟨by rw [HC.out]; rfl, below_drewN ((Below.refl _ _).alloc (Nat.le_refl _) _ |>.alloc (by simp) _) q⟩
      · have c3' : ((n : Int) == (m : Int)) = false := by simp; omega
        have HC : Hid (eqD ⟨neg, l, x⟩ ⟨neg, l', x⟩ = false) := by
          unfold Hid eqD
          have hl : l ≠ l' := fun e => c3 (by rw [← HK.out, ← HK'.out, e])
          simp [hl]
        go_enter Tryz.func29, Tryz.ntmps29
        go_wp2_with fail
        go_ret
        exact ⟨by rw [HC.out]; rfl, (Below.refl _ _).alloc (Nat.le_refl _) _ |>.alloc (by simp) _⟩
    · have c2' : (x == x') = false := by simp [c2]
      have HC : Hid (eqD ⟨neg, l, x⟩ ⟨neg, l', x'⟩ = false) := by unfold Hid eqD; simp [c2]
      go_enter Tryz.func29, Tryz.ntmps29
      go_wp2_with fail
      go_ret
      exact ⟨by rw [HC.out]; rfl, (Below.refl _ _).alloc (Nat.le_refl _) _ |>.alloc (by simp) _⟩
  · have c1' : (neg == neg') = false := by simp [c1]
    have HC : Hid (eqD ⟨neg, l, x⟩ ⟨neg', l', x'⟩ = false) := by unfold Hid eqD; simp [c1]
    go_enter Tryz.func29, Tryz.ntmps29
    go_wp2_with fail
    go_ret
    exact ⟨by rw [HC.out]; rfl, (Below.refl _ _).alloc (Nat.le_refl _) _ |>.alloc (by simp) _⟩

/-- A number is valid: canonical and in range. -/
def vld (d : Dy) : Bool := decide ((d.l = [] ∧ d.neg = false ∧ d.e = 0) ∨
  (d.l ≠ [] ∧ d.l.length ≤ 256 ∧ d.l.getLast? ≠ some 0 ∧ val d.l % 2 = 1 ∧ blen (val d.l) ≤ 4096 ∧ -16384 ≤ d.e ∧ d.e ≤ 16384 ∧ (blen (val d.l) : Int) + d.e ≤ 16384))

theorem vld_nil (neg : Bool) (x : Int) : vld ⟨neg, [], x⟩ = (!neg && x == 0) := by
  unfold vld
  cases neg
  · simp only [List.length_nil]
    by_cases h : x = 0 <;> simp [h]
  · simp
theorem val_odd {l : List Nat} {x : Nat} (hx : l[0]? = some x) : val l % 2 = x % 2 := by
  cases l with
  | nil => cases hx
  | cons y l => simp at hx; subst hx; rw [val]; omega
theorem vld_cons {neg : Bool} {l : List Nat} {x : Int} {n x0 xl : Nat} (hn : l.length = n) (h0 : l[0]? = some x0) (hl : l[n - 1]? = some xl) :
    vld ⟨neg, l, x⟩ = decide (n ≤ 256 ∧ x0 % 2 = 1 ∧ xl ≠ 0 ∧ blen (val l) ≤ 4096 ∧ -16384 ≤ x ∧ x ≤ 16384 ∧ (blen (val l) : Int) + x ≤ 16384) := by
  have hne : l ≠ [] := by rintro rfl; cases h0
  unfold vld
  refine decide_eq_decide.2 ?_
  simp only [List.getLast?_eq_getElem?, hn, hl, val_odd h0]
  constructor
  · rintro (⟨h, _⟩ | ⟨_, h1, h2, h3, h4⟩)
    · exact absurd h hne
    · exact ⟨h1, h3, fun e => h2 (by rw [e]), h4⟩
  · rintro ⟨h1, h2, h3, h4⟩
    exact .inr ⟨hne, h1, fun e => h3 (by injection e), h2, h4⟩
theorem inR_pos {v : Nat} {x : Int} (h : 0 < v) : inR v x = decide (blen v ≤ 4096 ∧ -16384 ≤ x ∧ x ≤ 16384 ∧ (blen v : Int) + x ≤ 16384) := by
  unfold inR
  refine decide_eq_decide.2 ⟨fun hh => hh.resolve_left (by omega), .inr⟩

set_option maxHeartbeats 1000000 in
theorem valid_any (neg : Bool) (A : Option Addr) (n c : Nat) (l : List Nat) (x : Int) (w : World) (h : SL w A n c l) (hn : n ≤ 100000000) :
    Calls Tryz.prog 42 #[.agg #[.bool neg, .slice A n c, .int .i64 x]] w fun e w' => e = .returned (.bool (vld ⟨neg, l, x⟩)) ∧ Below w.heap.size w w' := by
  by_cases h0 : n = 0
  · have hl := h.empty h0
    subst h0
    subst hl
    have HV := Lib.hid (vld_nil neg x)
    cases neg
    · go_enter Tryz.func42, Tryz.ntmps42
      go_wp2_with fail
      go_ret
      exact ⟨by rw [HV.out]; simp, (Below.refl _ _).alloc (Nat.le_refl _) _⟩
    · go_enter Tryz.func42, Tryz.ntmps42
      go_wp2_with fail
      go_ret
      exact ⟨by rw [HV.out]; simp, (Below.refl _ _).alloc (Nat.le_refl _) _⟩
  have h0' : ((n : Int) == 0) = false := by simp; omega
  have h1 := h.alloc (.cells #[.bool neg, .slice A n c, .int .i64 x] 25)
  have hlen := h.len
  have hcap := h.cap
  obtain ⟨b, off, x0, rfl, hb, hx, hcell, hlt⟩ := h.get (k := 0) (by omega)
  obtain ⟨xl, _, hxl, hcelll, hltl⟩ := h.get' (k := n - 1) (by omega)
  rw [Nat.add_zero] at hcell
  have HV := Lib.hid (vld_cons (neg := neg) (x := x) hlen hx hxl)
  have hpos : 0 < x0 → 0 < val l := by
    intro hp
    cases l with
    | nil => cases hx
    | cons y l => simp at hx; subst hx; rw [val]; omega
  have HPOS := Lib.hid hpos
  clear hx hxl hlen hpos
  by_cases c1 : n ≤ 256
  · by_cases c2 : x0 % 2 = 1
    · have c2' : ((x0 : Int) % 2 == 1) = true := by simp; omega
      by_cases c3 : xl = 0
      · subst c3
        go_enter Tryz.func42, Tryz.ntmps42
        go_wp2_with fail
        go_ret
        exact ⟨by rw [HV.out]; simp, (Below.refl _ _).alloc (Nat.le_refl _) _⟩
      · have c3' : ((xl : Int) != 0) = true := by simp; omega
        have HR : Hid (inR (val l) x = vld ⟨neg, l, x⟩) := by
          unfold Hid
          rw [HV.out, inR_pos (HPOS.out (by omega))]
          refine decide_eq_decide.2 ⟨fun hh => ⟨c1, c2, c3, hh⟩, fun hh => hh.2.2.2⟩
        clear c2 c3
        go_enter Tryz.func42, Tryz.ntmps42
        go_wp2_with (go_at_call 106; refine (inRange_any neg _ n c l x _ h1 hn).mono ?_; rintro e w' ⟨rfl, rfl⟩; rw [HR.out])
        go_ret
        exact ⟨rfl, (Below.refl _ _).alloc (Nat.le_refl _) _ |>.alloc (by simp) _⟩
    · have c2' : ((x0 : Int) % 2 == 1) = false := by simp; omega
      have HF : Hid (vld ⟨neg, l, x⟩ = false) := by unfold Hid; rw [HV.out]; simp; intro _ h; exact absurd h c2
      clear c2
      go_enter Tryz.func42, Tryz.ntmps42
      go_wp2_with fail
      go_ret
      exact ⟨by rw [HF.out]; rfl, (Below.refl _ _).alloc (Nat.le_refl _) _⟩
  · have HF : Hid (vld ⟨neg, l, x⟩ = false) := by unfold Hid; rw [HV.out]; simp; intro h; exact absurd h c1
    go_enter Tryz.func42, Tryz.ntmps42
    go_wp2_with fail
    go_ret
    exact ⟨by rw [HF.out]; rfl, (Below.refl _ _).alloc (Nat.le_refl _) _⟩

set_option maxHeartbeats 2000000 in
theorem rvalid_any (neg : Bool) (A : Option Addr) (n c : Nat) (l : List Nat) (x : Int) (w : World) (h : SL w A n c l) (hn : n ≤ 1000000) :
    Calls Tryz.prog 68 #[.agg #[.bool neg, .slice A n c, .int .i64 x]] w fun e w' => e = .returned (.bool (vld ⟨neg, l, x⟩)) ∧ Below w.heap.size w w' := by
  by_cases h0 : n = 0
  · have hl := h.empty h0
    subst h0
    subst hl
    have HV := Lib.hid (vld_nil neg x)
    cases neg
    · go_enter Tryz.func68, Tryz.ntmps68
      go_wp2_with fail
      go_ret
      exact ⟨by rw [HV.out]; simp, (Below.refl _ _).alloc (Nat.le_refl _) _⟩
    · go_enter Tryz.func68, Tryz.ntmps68
      go_wp2_with fail
      go_ret
      exact ⟨by rw [HV.out]; simp, (Below.refl _ _).alloc (Nat.le_refl _) _⟩
  have h0' : ((n : Int) == 0) = false := by simp; omega
  have h1 := h.alloc (.cells #[.bool neg, .slice A n c, .int .i64 x] 25)
  have hlen := h.len
  have hcap := h.cap
  obtain ⟨b, off, x0, rfl, hb, hx, hcell, hlt⟩ := h.get (k := 0) (by omega)
  obtain ⟨xl, _, hxl, hcelll, hltl⟩ := h.get' (k := n - 1) (by omega)
  rw [Nat.add_zero] at hcell
  have HV := Lib.hid (vld_cons (neg := neg) (x := x) hlen hx hxl)
  have HT : Hid (xl ≠ 0 → Trim l) := fun h0 e => h0 (by rw [List.getLast?_eq_getElem?, hlen, hxl] at e; injection e)
  have hand := and_one32 x0 hlt
  clear hx hxl hlen
  by_cases c1 : n ≤ 256
  · by_cases c3 : xl = 0
    · subst c3
      have HF : Hid (vld ⟨neg, l, x⟩ = false) := by unfold Hid; rw [HV.out]; simp
      clear hand
      go_enter Tryz.func68, Tryz.ntmps68
      go_wp2_with fail
      go_ret
      exact ⟨by rw [HF.out]; rfl, (Below.refl _ _).alloc (Nat.le_refl _) _⟩
    · have c3' : ((xl : Int) == 0) = false := by simp; omega
      by_cases c2 : x0 % 2 = 1
      · have ha : bits .and .u32 (x0 : Int) 1 = 1 := by rw [hand, c2]; rfl
        clear hand
        by_cases c4 : -16384 ≤ x
        · by_cases c5 : x ≤ 16384
          · have hbl : blen (val l) ≤ 100000000 := by
              have h2 := val_lt l h.lt
              rw [base_pow, h.len] at h2
              have := blen_le_of _ _ h2
              omega
            have HR : Hid (vld ⟨neg, l, x⟩ = decide (blen (val l) ≤ 4096 ∧ (blen (val l) : Int) + x ≤ 16384)) := by
              unfold Hid
              rw [HV.out]
              refine decide_eq_decide.2 ⟨fun hh => ⟨hh.2.2.2.1, hh.2.2.2.2.2.2⟩, fun hh => ⟨c1, c2, c3, hh.1, c4, c5, hh.2⟩⟩
            have hT := HT.out c3
            clear HT c2 c3
            generalize hN : blen (val l) = N at *
            have HN := Lib.hid hN
            clear hN
            by_cases c6 : N ≤ 4096
            · go_enter Tryz.func68, Tryz.ntmps68
              go_wp2_with (go_at_call 134; refine (rbits_any _ n c l _ h1 hn hT).mono ?_; rintro e w' ⟨rfl, rfl⟩; rw [HN.out])
              go_ret
              exact ⟨by rw [HR.out]; simp [c6], (Below.refl _ _).alloc (Nat.le_refl _) _⟩
            · go_enter Tryz.func68, Tryz.ntmps68
              go_wp2_with (go_at_call 134; refine (rbits_any _ n c l _ h1 hn hT).mono ?_; rintro e w' ⟨rfl, rfl⟩; rw [HN.out])
              go_ret
              exact ⟨by rw [HR.out]; simp; omega, (Below.refl _ _).alloc (Nat.le_refl _) _⟩
          · have HF : Hid (vld ⟨neg, l, x⟩ = false) := by unfold Hid; rw [HV.out]; exact decide_eq_false (fun hh => c5 hh.2.2.2.2.2.1)
            clear c2 c3
            go_enter Tryz.func68, Tryz.ntmps68
            go_wp2_with fail
            go_ret
            exact ⟨by rw [HF.out]; rfl, (Below.refl _ _).alloc (Nat.le_refl _) _⟩
        · have HF : Hid (vld ⟨neg, l, x⟩ = false) := by unfold Hid; rw [HV.out]; exact decide_eq_false (fun hh => c4 hh.2.2.2.2.1)
          clear c2 c3
          go_enter Tryz.func68, Tryz.ntmps68
          go_wp2_with fail
          go_ret
          exact ⟨by rw [HF.out]; rfl, (Below.refl _ _).alloc (Nat.le_refl _) _⟩
      · have ha : bits .and .u32 (x0 : Int) 1 = 0 := by rw [hand, show x0 % 2 = 0 from by omega]; rfl
        have HF : Hid (vld ⟨neg, l, x⟩ = false) := by unfold Hid; rw [HV.out]; exact decide_eq_false (fun hh => c2 hh.2.1)
        clear hand c2 c3
        go_enter Tryz.func68, Tryz.ntmps68
        go_wp2_with fail
        go_ret
        exact ⟨by rw [HF.out]; rfl, (Below.refl _ _).alloc (Nat.le_refl _) _⟩
  · have HF : Hid (vld ⟨neg, l, x⟩ = false) := by unfold Hid; rw [HV.out]; exact decide_eq_false (fun hh => c1 hh.1)
    clear hand
    go_enter Tryz.func68, Tryz.ntmps68
    go_wp2_with fail
    go_ret
    exact ⟨by rw [HF.out]; rfl, (Below.refl _ _).alloc (Nat.le_refl _) _⟩

end Go.Proofs.YtekajoifgdpmlaaGreatDoor

/-! B2 -/
namespace Go.Proofs.YtekajoifgdpmlaaGreatDoor
open Go.RowKit Pl Go.Shelf

theorem wrapU64 (t : Nat) (h : t < 18446744073709551616) : IntKind.u64.wrap (t : Int) = (t : Int) := by
  simp only [IntKind.wrap, IntKind.bits, IntKind.signed]
  simp
  omega
theorem shl_mid {l : List Nat} (h : Limbs l) {x z r i : Nat} (hx : lim l i = x) (hz : z = shlC l r i) (hr : r < 32) :
    bits .or .u64 (IntKind.u64.wrap ((x : Int) * 2 ^ r)) (z : Int) = ((2 ^ r * x + z : Nat) : Int) ∧ (2 ^ r * x + z) % 4294967296 = dig (val l * 2 ^ r) i ∧ (2 ^ r * x + z) / 4294967296 = shlC l r (i + 1) ∧ 2 ^ r * x + z < 18446744073709551616 := by
  have hxl := lim_lt h i
  rw [hx] at hxl
  have hzl := shlC_lt l h r i
  rw [← hz] at hzl
  have h2 : 2 ^ r ≤ 2 ^ 31 := Nat.pow_le_pow_right (by omega) (by omega)
  have h3 : 2 ^ r * (x + 1) ≤ 2 ^ 31 * 4294967296 := Nat.mul_le_mul h2 hxl
  have h4 : 2 ^ r * (x + 1) = 2 ^ r * x + 2 ^ r := Nat.mul_succ ..
  have e : IntKind.u64.wrap ((x : Int) * 2 ^ r) = (x : Int) * 2 ^ r := by
    have e2 : ((x : Int) * 2 ^ r) = ((2 ^ r * x : Nat) : Int) := by rw [Int.natCast_mul, Int.natCast_pow, Int.mul_comm]; rfl
    rw [e2, wrapU64 _ (by omega)]
  rw [e]
  refine ⟨(or_low64 z x r hzl (by omega)).1, ?_, ?_, by omega⟩
  · rw [shl_dig, hx, ← hz]
  · rw [shl_carry, hx, ← hz]

set_option maxHeartbeats 1000000 in
theorem shl_any (A : Option Addr) (n c k : Nat) (l : List Nat) (w : World) (h : SL w A n c l) (hn : n ≤ 1000000) (hk : k ≤ 1000000) :
    Calls Tryz.prog 221 #[.slice A n c, .int .i64 (k : Int)] w (RetV (val l * 2 ^ k) 3000000 w) := by
  have hT := h.trim
  have hNn : (digs (val l)).length ≤ n := by rw [← h.len]; exact digs_val_len l h.lt
  have HVD := Lib.hid (val_digs (val l))
  generalize hN : (digs (val l)).length = N at *
  have HN := Lib.hid hN
  clear hN
  have hcap := hT.cap
  go_enter Tryz.func221, Tryz.ntmps221
  go_wp2_with fail
  refine (trim_any A n c l _ h).mono ?_
  rintro e w' ⟨rfl, rfl⟩
  rw [HN.out]
  go_wp2_with (at_make; refine wpList_mk rfl (.tmp 13) (.tmp 19) _ 60 rfl u32_info Tryz.underlying23 .i64 .i64 _ _ (k / 32) (k / 32 + N + 1) rfl rfl (by omega) (by omega) (by omega) (by omega) ?_; intro w1 hr1 hb1 hs1)
  generalize digs (val l) = da at *
  have ho1 : Own w1 w.heap.size 60 (.slice (some ⟨w.heap.size, 0, none⟩) (k / 32) (k / 32 + N + 1)) (List.replicate (k / 32) 0) := Own.made hr1 (Nat.le_refl _) (by omega) (by omega)
  obtain ⟨V, hV⟩ : ∃ V, V = val da * 2 ^ (k % 32) := ⟨_, rfl⟩
  have HVV := Lib.hid hV
  clear hV hr1
  go_loopw [5, 6, 23] (fun v cy i wr => ∃ j z : Nat, j ≤ N ∧ i = .int .i64 j ∧ cy = .int .u64 (z : Int) ∧ z < 4294967296 ∧ Hid (z = shlC da (k % 32) j) ∧ Own wr w.heap.size 60 v (List.replicate (k / 32) 0 ++ digN j V) ∧ Below w.heap.size w wr) (fun _ _ i _ => N - (intOf i).toNat)
  case atStart => exact ⟨0, 0, Nat.zero_le _, rfl, rfl, by omega, (shlC_zero _ _).symm, by simpa [digN] using ho1, hb1⟩
  case round =>
    obtain ⟨j, z, hj, rfl, rfl, hz, HZ, hr, hb⟩ := hrel
    have hlenr : (List.replicate (k / 32) 0 ++ digN j V).length = k / 32 + j := by rw [List.length_append, List.length_replicate, digN_length]
    by_cases hlt : j < N
    · obtain ⟨b, off, x, rfl, hxb, hx, hcell, hxlt⟩ := (hT.below hb).get hlt
      obtain ⟨e1, e2, e3, e4⟩ := shl_mid hT.lt (lim_some hx) HZ.out (show k % 32 < 32 from by omega)
      rw [← HVV.out] at e2
      have HE2 := Lib.hid e2
      have HE3 := Lib.hid e3
      have HLR := Lib.hid hlenr
      clear hx e2 e3 hlenr
      generalize 2 ^ (k % 32) * x + z = s at *
      have hs3 : s / 4294967296 < 4294967296 := by omega
      go_wp2_with (at_builtin; refine wpList_app rfl (.tmp 34) (.tmp 37) _ rfl 60 u32_info Tryz.underlying23 w.heap.size _ (List.replicate (k / 32) 0 ++ digN j V) rfl (hr.alloc _) _ 1 1 [dig V j] rfl (SL.oneI _ _ _ _ (by rw [← HE2.out]; omega) (dig_lt _ _)) (by rw [HLR.out]; omega) (by have := hb.size; simp; omega) ?_; intro v1 w2 hown1 hb2)
      rw [List.append_assoc, ← digN_succ] at hown1
      have hbw := (hb.alloc hb.size _).trans hb2
      go_roundw
      case rel => exact ⟨j + 1, s / 4294967296, by omega, by go_num, by go_num, hs3, HE3, hown1, hbw⟩
      case measure => simp [intOf]; omega
    · obtain rfl : j = N := by omega
      have HE2 : Hid (z = dig V j) := by unfold Hid; rw [HVV.out, shl_last da hT.lt _ j (by omega) (by rw [hT.len]; omega), ← HZ.out]
      have HLR := Lib.hid hlenr
      clear hlenr
      go_wp2_with (at_builtin; refine wpList_app rfl (.tmp 42) (.tmp 45) _ rfl 60 u32_info Tryz.underlying23 w.heap.size _ (List.replicate (k / 32) 0 ++ digN j V) rfl (hr.alloc _) _ 1 1 [dig V j] rfl (SL.oneI _ _ _ _ (by rw [← HE2.out]) (dig_lt _ _)) (by rw [HLR.out]; omega) (by have := hb.size; simp; omega) ?_; intro v1 w2 hown1 hb2)
      rw [List.append_assoc, ← digN_succ] at hown1
      have hbw := (hb.alloc hb.size _).trans hb2
      go_ret
      obtain ⟨A1, c1, rfl, hs1, hf1⟩ := hown1.sl ((limbs_replicate _).append (limbs_digN _ _))
      refine ⟨_, _, _, _, rfl, hs1, ?_, by rw [List.length_append, List.length_replicate, digN_length]; omega, hf1, hbw⟩
      rw [val_append, val_replicate, List.length_replicate, val_digN_of_lt (by rw [HVV.out]; exact shl_lt da hT.lt _ j (by omega) (by rw [hT.len]; omega)), HVV.out, HVD.out, base_pow, Nat.zero_add, Nat.mul_comm, Nat.mul_assoc, ← Nat.pow_add, show k % 32 + 32 * (k / 32) = k from by omega]

end Go.Proofs.YtekajoifgdpmlaaGreatDoor

/-! B3 -/
namespace Go.Proofs.YtekajoifgdpmlaaGreatDoor
open Go.RowKit Pl Go.Shelf

set_option maxHeartbeats 400000 in
theorem Shl_ok (A : Option Addr) (n c k : Nat) (l : List Nat) (w : World) (h : SL w A n c l) (hn : n ≤ 256) (hk : k ≤ 65536) (hs : (digs (val l * 2 ^ k)).length ≤ 256) :
    Calls Tryz.prog 197 #[.slice A n c, .int .i64 (k : Int)] w (RetP (digs (val l * 2 ^ k)) w) := by
  have hw := h.alloc (.cells #[.slice A n c] 23)
  have h256 : ¬ 256 < n := by omega
  go_enter Tryz.func197, Tryz.ntmps197
  go_wp2_with fail
  refine (long_one _ A n c _ (by simp)).mono ?_
  rintro e w' ⟨rfl, rfl⟩
  go_wp2_with fail
  refine (shl_any A n c k l _ hw (by omega) (by omega)).mono ?_
  rintro e w' ⟨A1, n1, c1, l1, rfl, hs1, hv1, _, hf1, hb1⟩
  have hb : Below w.heap.size w w' := bnext (ballo _ _) hb1
  have HV := Lib.hid hv1
  clear hv1
  have h256' : (digs (val l1)).length ≤ 256 := by rw [HV.out]; exact hs
  clear hs
  go_wp2_with fail
  refine (done_ok A1 n1 c1 l1 _ hs1 h256').mono ?_
  rintro e w2 ⟨rfl, hb2⟩
  go_wp2_with fail
  go_ret2
  have hl1 := digs_val_len l1 hs1.lt
  have hl2 := hs1.len
  rw [← HV.out]
  exact ⟨_, _, _, rfl, (hs1.trim.clip).below hb2, (hf1.mono (by simp)).less (by omega), bnext hb hb2⟩

set_option maxHeartbeats 400000 in
theorem shifted_ok (A : Option Addr) (n c k : Nat) (l : List Nat) (w : World) (h : SL w A n c l) (hn : n ≤ 256) (hk : k ≤ 65536) (hs : (digs (val l * 2 ^ k)).length ≤ 256) :
    Calls Tryz.prog 157 #[.slice A n c, .int .i64 (k : Int)] w (RetS (digs (val l * 2 ^ k)) w) := by
  go_enter Tryz.func157, Tryz.ntmps157
  go_wp2_with fail
  refine (Shl_ok A n c k l _ h hn hk hs).mono ?_
  rintro e w1 ⟨A1, n1, c1, rfl, hs1, hf1, hb1⟩
  go_wp2_with fail
  go_ret
  exact ⟨_, _, _, rfl, hs1, hf1, hb1⟩

end Go.Proofs.YtekajoifgdpmlaaGreatDoor

/-! D1 -/
namespace Go.Proofs.YtekajoifgdpmlaaGreatDoor
open Go.RowKit Pl Go.Shelf

/-- The sign of a number. -/
def sgnD (d : Dy) : Int := if vld d = true ∧ d.l ≠ [] then (if d.neg then -1 else 1) else 0
def topD (d : Dy) : Int := if vld d = true ∧ d.l ≠ [] then (blen (val d.l) : Int) + d.e else 0

theorem ne_nil_iff {w : World} {A : Option Addr} {n c : Nat} {l : List Nat} (h : SL w A n c l) : l ≠ [] ↔ n ≠ 0 := by
  rw [← h.len]
  constructor
  · intro h1 h2; exact h1 (List.eq_nil_of_length_eq_zero h2)
  · rintro h1 rfl; exact h1 rfl

set_option maxHeartbeats 400000 in
theorem signD_any (neg : Bool) (A : Option Addr) (n c : Nat) (l : List Nat) (x : Int) (w : World) (h : SL w A n c l) (hn : n ≤ 100000000) :
    Calls Tryz.prog 63 #[.agg #[.bool neg, .slice A n c, .int .i64 x]] w fun e w' => e = .returned (.int .i64 (sgnD ⟨neg, l, x⟩)) ∧ Below w.heap.size w w' := by
  have h1 := h.alloc (.cells #[.bool neg, .slice A n c, .int .i64 x] 25)
  have HB : Hid (sgnD ⟨neg, l, x⟩ = if vld ⟨neg, l, x⟩ = true ∧ n ≠ 0 then (if neg then -1 else 1) else 0) := by
    unfold Hid sgnD
    simp only [ne_nil_iff h]
  generalize sgnD ⟨neg, l, x⟩ = r at *
  generalize hv : vld ⟨neg, l, x⟩ = v at *
  have HV := Lib.hid hv
  clear hv
  go_enter Tryz.func63, Tryz.ntmps63
  go_wp2_with fail
  refine (valid_any neg A n c l x _ h1 hn).mono ?_
  rintro e w1 ⟨rfl, hb1⟩
  rw [HV.out]
  obtain ⟨hc, hf⟩ := bcell hb1
  cases v
  · go_wp2_with fail
    go_ret
    exact ⟨by rw [HB.out]; rfl, bnext (ballo _ _) hb1⟩
  · by_cases h0 : n = 0
    · subst h0
      go_wp2_with fail
      go_ret
      exact ⟨by rw [HB.out]; rfl, bnext (ballo _ _) hb1⟩
    · have h0' : ((n : Int) == 0) = false := by simp; omega
      have HB2 : Hid (r = if neg then -1 else 1) := by unfold Hid; rw [HB.out, if_pos ⟨rfl, h0⟩]
      cases neg
      · go_wp2_with fail
        go_ret
        exact ⟨by rw [HB2.out]; rfl, bnext (ballo _ _) hb1⟩
      · go_wp2_with fail
        go_ret
        exact ⟨by rw [HB2.out]; rfl, bnext (ballo _ _) hb1⟩

theorem vld_bounds {d : Dy} (h : vld d = true) (hne : d.l ≠ []) : d.l.length ≤ 256 ∧ Trim d.l ∧ val d.l % 2 = 1 ∧ blen (val d.l) ≤ 4096 ∧ -16384 ≤ d.e ∧ d.e ≤ 16384 ∧ (blen (val d.l) : Int) + d.e ≤ 16384 := by
  unfold vld at h
  rcases of_decide_eq_true h with ⟨h, _⟩ | ⟨_, h⟩
  · exact absurd h hne
  · exact h

set_option maxHeartbeats 400000 in
theorem topD_any (neg : Bool) (A : Option Addr) (n c : Nat) (l : List Nat) (x : Int) (w : World) (h : SL w A n c l) (hn : n ≤ 100000000) :
    Calls Tryz.prog 156 #[.agg #[.bool neg, .slice A n c, .int .i64 x]] w fun e w' => e = .returned (.int .i64 (topD ⟨neg, l, x⟩)) ∧ Below w.heap.size w w' := by
  have h1 := h.alloc (.cells #[.bool neg, .slice A n c, .int .i64 x] 25)
  have HB : Hid (topD ⟨neg, l, x⟩ = if vld ⟨neg, l, x⟩ = true ∧ n ≠ 0 then (blen (val l) : Int) + x else 0) := by
    unfold Hid topD
    simp only [ne_nil_iff h]
  have HBD : Hid (vld ⟨neg, l, x⟩ = true → n ≠ 0 → blen (val l) ≤ 4096 ∧ -16384 ≤ x ∧ x ≤ 16384) := fun h1 h2 => by
    have := vld_bounds h1 ((ne_nil_iff h).2 h2)
    exact ⟨this.2.2.2.1, this.2.2.2.2.1, this.2.2.2.2.2.1⟩
  generalize topD ⟨neg, l, x⟩ = r at *
  generalize hv : vld ⟨neg, l, x⟩ = v at *
  have HV := Lib.hid hv
  clear hv
  go_enter Tryz.func156, Tryz.ntmps156
  go_wp2_with fail
  refine (valid_any neg A n c l x _ h1 hn).mono ?_
  rintro e w1 ⟨rfl, hb1⟩
  rw [HV.out]
  obtain ⟨hc, hf⟩ := bcell hb1
  cases v
  · go_wp2_with fail
    go_ret
    exact ⟨by rw [HB.out]; rfl, bnext (ballo _ _) hb1⟩
  · by_cases h0 : n = 0
    · subst h0
      go_wp2_with fail
      go_ret
      exact ⟨by rw [HB.out]; rfl, bnext (ballo _ _) hb1⟩
    · have h0' : ((n : Int) == 0) = false := by simp; omega
      have HB2 : Hid (r = (blen (val l) : Int) + x) := by unfold Hid; rw [HB.out, if_pos ⟨rfl, h0⟩]
      obtain ⟨hb3, hb4, hb5⟩ := HBD.out rfl h0
      have h2 := h1.below hb1
      generalize hN : blen (val l) = N at *
      have HN := Lib.hid hN
      clear hN
      have c0 := hc w.heap.size 1 (by simp)
      have c1 := hc w.heap.size 2 (by simp)
      simp at c0 c1
      have hw : IntKind.i64.wrap ((N : Int) + x) = (N : Int) + x := IntWalk.i64_in _ (by omega)
      have HQ : Hid (∀ q, Calls Tryz.prog 168 #[.slice A n c] (w1.drewN q) fun e w' => e = .returned (.int .i64 (N : Int)) ∧ w' = w1.drewN q) := fun q => by
        have := size_any A n c l _ (h2.drewN q) hn
        rw [HN.out] at this
        exact this.mono (fun e w' ⟨he, hw⟩ => ⟨he, hw.symm⟩)
      go_wp2_with fail
      go_quiet ((go_at_call 168; exact Calls.quiet_of_same (HQ.out _)))
      go_wp2_with fail
      go_ret
      exact ⟨by rw [HB2.out]; rfl, below_drewN (bnext (ballo _ _) hb1) _⟩

end Go.Proofs.YtekajoifgdpmlaaGreatDoor

/-! D2 -/
namespace Go.Proofs.YtekajoifgdpmlaaGreatDoor
open Go.RowKit Pl Go.Shelf

theorem Blk.cells3 {w : World} {g : Nat} {t : TypeId} {a b c : Value} (h : Blk w g t #[a, b, c]) : w.cell? ⟨g, 0, none⟩ = some a ∧ w.cell? ⟨g, 1, none⟩ = some b ∧ w.cell? ⟨g, 2, none⟩ = some c :=
  ⟨by rw [h.cell 0]; rfl, by rw [h.cell 1]; rfl, by rw [h.cell 2]; rfl⟩

def negD (d : Dy) : Dy := if vld d = true ∧ d.l ≠ [] then ⟨!d.neg, d.l, d.e⟩ else zeroD
end Go.Proofs.YtekajoifgdpmlaaGreatDoor

/-! R4 -/
namespace Go.Proofs.YtekajoifgdpmlaaGreatDoor
open Go.RowKit Pl Go.Shelf

theorem canon_pos {neg : Bool} {v : Nat} {x : Int} (h : 0 < v) : canonD neg v x = ⟨neg, digs (v / 2 ^ tz v), x + tz v⟩ := by unfold canonD; rw [if_neg (by omega)]; rfl
theorem val_canon {neg : Bool} {v : Nat} {x : Int} (h : 0 < v) : val (canonD neg v x).l = oddp v := by rw [canon_pos h]; exact val_digs _

theorem digs_len_blen (n k : Nat) (h : blen n ≤ 32 * k) : (digs n).length ≤ k :=
  digs_length_lt n k (by rw [base_pow]; exact Nat.lt_of_lt_of_le (lt_blen n) (Nat.pow_le_pow_right (by omega) h))

/-- A canonical number is valid exactly if it is in range. -/
theorem vld_canon (neg : Bool) (v : Nat) (x : Int) : vld (canonD neg v x) = inR (val (canonD neg v x).l) (canonD neg v x).e := by
  rcases Nat.eq_zero_or_pos v with rfl | hp
  · simp [canonD, vld, inR, zeroD, val]
  · have ho := (oddp_spec v hp).2
    have ho0 : 0 < oddp v := by omega
    rw [val_canon hp, inR_pos ho0, canon_pos hp]
    unfold vld
    refine decide_eq_decide.2 ?_
    have e : v / 2 ^ tz v = oddp v := rfl
    simp only [e, val_digs]
    constructor
    · rintro (⟨h, _⟩ | ⟨_, _, _, _, h⟩)
      · rw [digs_pos _ ho0] at h; cases h
      · exact h
    · intro h
      refine .inr ⟨by rw [digs_pos _ ho0]; simp, ?_, trim_digs _, ho, h⟩
      have := digs_len_blen (oddp v) 128 (by omega)
      omega

set_option maxHeartbeats 1000000 in
theorem rof_any (neg : Bool) (A : Option Addr) (n c : Nat) (l : List Nat) (x : Int) (w : World) (h : SL w A n c l) (hn : n ≤ 1000000) (hx1 : -1000000 ≤ x) (hx2 : x ≤ 1000000) :
    Calls Tryz.prog 120 #[.bool neg, .slice A n c, .int .i64 x] w (RetD (canonD neg (val l) x) w) := by
  have h1 := h.alloc (.cells #[.bool false, .slice none 0 0, .int .i64 0] 25)
  have hn1 : (digs (val l)).length ≤ 1000000 := Nat.le_trans (digs_val_len l h.lt) (by rw [h.len]; exact hn)
  go_enter Tryz.func120, Tryz.ntmps120
  go_wp2_with fail
  refine (rtrim_any A n c l _ h1 hn).mono ?_
  rintro e w1 ⟨A1, n1, c1, rfl, hs1, hf1, hb1⟩
  have hlen1 := hs1.len
  have hn1' : n1 ≤ 1000000 := by rw [← hlen1]; exact hn1
  by_cases h0 : val l = 0
  · have hd : n1 = 0 := by rw [← hlen1, h0]; rfl
    subst hd
    have H0 := Lib.hid h0
    clear h0 hlen1
    obtain ⟨hc, hf⟩ := bcell hb1
    have hsz : w.heap.size + 1 ≤ w1.heap.size := by simpa using hb1.size
    have hB0 := (Blk.new w 25 #[.bool false, .slice none 0 0, .int .i64 0]).below hb1 (by simp)
    go_wp2_with fail
    refine bodyPost_ret (resD Tryz.results120 rfl (hB0.set3 _ _ _)) rfl ?_
    rw [canonD, if_pos H0.out]
    exact ⟨none, 0, 0, rfl, SL.nil _, Fresh.zero, below_set3 (bnext (ballo _ _) hb1) (Nat.le_refl _) _ _ _⟩
  · have hp : 0 < val l := by omega
    have hne : ((n1 : Int) == 0) = false := by
      have : n1 ≠ 0 := by rw [← hlen1, digs_pos _ hp]; simp
      simp; omega
    have htz : tz (val l) < 100000000 := by
      have h1 := tz_lt_blen (val l) hp
      have h2 := val_lt l h.lt
      rw [base_pow, h.len] at h2
      have := blen_le_of _ _ h2
      omega
    have HCD := Lib.hid (canon_pos (neg := neg) (x := x) hp)
    have hvd : val (digs (val l)) = val l := val_digs _
    have HVD := Lib.hid hvd
    clear hvd h0 hlen1
    generalize hdd : digs (val l) = dl at *
    clear hdd
    generalize hz : tz (val l) = z at *
    have HZ := Lib.hid hz
    clear hz
    go_wp2_with fail
    refine (zeros_any A1 n1 c1 dl _ hs1 hn1' (by rw [HVD.out]; exact hp)).mono ?_
    rintro e w' ⟨rfl, rfl⟩
    rw [HVD.out, HZ.out]
    go_wp2_with fail
    refine (rright_any A1 n1 c1 z dl _ hs1 hn1' (by omega)).mono ?_
    rintro e w2 ⟨A2, n2, c2, rfl, hs2, hf2, hb2⟩
    have hb12 := bnext hb1 hb2
    obtain ⟨hc, hf⟩ := bcell hb12
    have hsz : w.heap.size + 1 ≤ w2.heap.size := by simpa using hb12.size
    have hB0 := (Blk.new w 25 #[.bool false, .slice none 0 0, .int .i64 0]).below hb12 (by simp)
    go_wp2_with fail
    refine bodyPost_ret (resD Tryz.results120 rfl (hB0.set3 _ _ _)) rfl ?_
    rw [HCD.out]
    rw [HVD.out] at hs2
    have hlt : w.heap.size < w1.heap.size := Nat.lt_of_lt_of_le (by simp) hb1.size
    exact ⟨A2, n2, c2, rfl, (((hs2.far hf2 hlt 0 _).far hf2 hlt 1 _).far hf2 hlt 2 _), hf2.mono (Nat.le_trans (by simp) hb1.size), below_set3 (bnext (ballo _ _) hb12) (Nat.le_refl _) _ _ _⟩

end Go.Proofs.YtekajoifgdpmlaaGreatDoor

/-! D3 -/
namespace Go.Proofs.YtekajoifgdpmlaaGreatDoor
open Go.RowKit Pl Go.Shelf

theorem keep6 {B g g' : Nat} {W W' : World} {a b c a' b' c' : Value} (hb : Below B W W') (hg : g < B) (hg' : g' < B) (h : W.cell? ⟨g, 0, none⟩ = some a ∧ W.cell? ⟨g, 1, none⟩ = some b ∧ W.cell? ⟨g, 2, none⟩ = some c ∧ W.cell? ⟨g', 0, none⟩ = some a' ∧ W.cell? ⟨g', 1, none⟩ = some b' ∧ W.cell? ⟨g', 2, none⟩ = some c') :
    W'.cell? ⟨g, 0, none⟩ = some a ∧ W'.cell? ⟨g, 1, none⟩ = some b ∧ W'.cell? ⟨g, 2, none⟩ = some c ∧ W'.cell? ⟨g', 0, none⟩ = some a' ∧ W'.cell? ⟨g', 1, none⟩ = some b' ∧ W'.cell? ⟨g', 2, none⟩ = some c' := by
  obtain ⟨h0, h1, h2, h3, h4, h5⟩ := h
  exact ⟨(hb.cell (p := ⟨g, 0, none⟩) hg).trans h0, (hb.cell (p := ⟨g, 1, none⟩) hg).trans h1, (hb.cell (p := ⟨g, 2, none⟩) hg).trans h2, (hb.cell (p := ⟨g', 0, none⟩) hg').trans h3, (hb.cell (p := ⟨g', 1, none⟩) hg').trans h4, (hb.cell (p := ⟨g', 2, none⟩) hg').trans h5⟩

theorem shifted_int (A : Option Addr) (n c k : Nat) (z : Int) (l : List Nat) (w : World) (h : SL w A n c l) (hn : n ≤ 256) (hz : z = (k : Int)) (hk : k ≤ 65536) (hs : (digs (val l * 2 ^ k)).length ≤ 256) :
    Calls Tryz.prog 157 #[.slice A n c, .int .i64 z] w (RetS (digs (val l * 2 ^ k)) w) := by
  subst hz; exact shifted_ok A n c k l w h hn hk hs
theorem keep4 {B g g' : Nat} {W W' : World} {b c b' c' : Value} (hb : Below B W W') (hg : g < B) (hg' : g' < B) (h : W.cell? ⟨g, 1, none⟩ = some b ∧ W.cell? ⟨g, 2, none⟩ = some c ∧ W.cell? ⟨g', 1, none⟩ = some b' ∧ W.cell? ⟨g', 2, none⟩ = some c') :
    W'.cell? ⟨g, 1, none⟩ = some b ∧ W'.cell? ⟨g, 2, none⟩ = some c ∧ W'.cell? ⟨g', 1, none⟩ = some b' ∧ W'.cell? ⟨g', 2, none⟩ = some c' := by
  obtain ⟨h0, h1, h2, h3⟩ := h
  exact ⟨(hb.cell (p := ⟨g, 1, none⟩) hg).trans h0, (hb.cell (p := ⟨g, 2, none⟩) hg).trans h1, (hb.cell (p := ⟨g', 1, none⟩) hg').trans h2, (hb.cell (p := ⟨g', 2, none⟩) hg').trans h3⟩

end Go.Proofs.YtekajoifgdpmlaaGreatDoor
