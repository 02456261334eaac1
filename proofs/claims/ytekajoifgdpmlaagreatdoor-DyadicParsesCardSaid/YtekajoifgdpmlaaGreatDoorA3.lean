/- dyadic.low, natural.shr, Shr: what each call computes. -/
import Derived.Test.YtekajoifgdpmlaaGreatDoorA2
import Derived.Test.YtekajoifgdpmlaaGreatDoorMath2
namespace Go.Proofs.YtekajoifgdpmlaaGreatDoor
open Go.RowKit Pl Go.Shelf

/-- The tables of the library's that are read. -/
def Tabs (w : World) : Prop := TabAt 3 Lib.deBruijn32tab w

theorem tz32_any (x : Nat) (w : World) (hx : x < 4294967296) (h0 : x ≠ 0) (ht : Tabs w) :
    Calls Tryz.prog 169 #[.int .u32 (x : Int)] w fun e w' => e = .returned (.int .i64 (tz x)) ∧ w = w' := by
  refine (Tryz.bits_TrailingZeros32 x hx w (fun _ => ht)).mono ?_
  rintro e w' ⟨rfl, rfl⟩
  refine ⟨?_, rfl⟩
  obtain ⟨m, hm, _⟩ := Lib.ctzFrom_spec 32 x (by omega) (by omega)
  rw [tz_eq hm, Lib.ctz, if_neg h0]
theorem tz32_lt (x : Nat) (hx : x < 4294967296) (h0 : 0 < x) : tz x < 32 := Nat.lt_of_lt_of_le (tz_lt_blen x h0) (blen_le_of x 32 hx)

set_option maxHeartbeats 400000 in
theorem low_any (A : Option Addr) (n c : Nat) (l : List Nat) (w : World) (h : SL w A n c l) (hn : n ≤ 100000000) (h0 : 0 < val l) (ht : Tabs w) :
    Calls Tryz.prog 108 #[.slice A n c] w fun e w' => e = .returned (.int .i64 (tz (val l))) ∧ w = w' := by
  have hcap := h.cap
  have hlen := Lib.hid h.len
  have HT := Lib.hid ht
  clear ht
  go_enter Tryz.func108, Tryz.ntmps108
  go_wp2_with fail
  go_loop [3, 8] (fun s i => ∃ k : Nat, k ≤ n ∧ i = .int .i64 k ∧ s = .int .i64 (32 * k) ∧ Hid (∀ j, j < k → l[j]? = some 0)) (fun _ i => n - (intOf i).toNat)
  case atStart => exact ⟨0, Nat.zero_le _, rfl, rfl, fun j hj => absurd hj (by omega)⟩
  case round =>
    obtain ⟨k, hk, rfl, rfl, HZ⟩ := hrel
    by_cases hlt : k < n
    · obtain ⟨b, off, x, rfl, hb, hx, hcell, hxlt⟩ := h.get hlt
      have HX := Lib.hid hx
      clear hx
      by_cases hx0 : x = 0
      · subst hx0
        go_wp2_with fail
        go_round
        case rel => exact ⟨k + 1, by omega, by go_num, by go_num, fun j hj => by
          by_cases hjk : j < k
          · exact HZ.out j hjk
          · obtain rfl : j = k := by omega
            exact HX.out⟩
        case measure => simp [intOf]; omega
      · have hx1 : ((x : Int) != 0) = true := by simp; omega
        obtain ⟨m, hm⟩ := tz_spec x (by omega)
        have hc32 := tz32_lt x hxlt (by omega)
        have HF := Lib.hid (tz_low l k x _ m HZ.out HX.out hc32 hm)
        clear hm
        go_wp2_with (go_at_call 169; refine (tz32_any x _ hxlt hx0 HT.out).mono ?_; rintro e w' ⟨rfl, rfl⟩)
        go_ret
        exact ⟨by rw [HF.out]; go_num, rfl⟩
    · exfalso
      have : val l = 0 := val_zero_of (by
        intro y hy
        obtain ⟨j, hj, rfl⟩ := List.mem_iff_getElem.1 hy
        have := HZ.out j (by have := hlen.out; omega)
        rw [List.getElem?_eq_getElem hj] at this
        injection this)
      omega

/-- Limbs of a number, in memory that the call made. -/
def RetV (v b : Nat) (w : World) (e : Ending) (w' : World) : Prop := ∃ A n c l, e = .returned (.slice A n c) ∧ SL w' A n c l ∧ val l = v ∧ n ≤ b ∧ Fresh w.heap.size A n ∧ Below w.heap.size w w'

theorem or_nat64 (a b : Nat) (ha : a < 18446744073709551616) (hb : b < 18446744073709551616) : bits .or .u64 (a : Int) (b : Int) = ((a ||| b : Nat) : Int) := by
  have hx : a ||| b < 2 ^ 64 := Nat.or_lt_two_pow (by omega) (by omega)
  have e : ∀ c : Nat, c < 18446744073709551616 → (BitVec.ofInt 64 (c : Int)).toNat = c := fun c hc => by
    rw [BitVec.ofInt_natCast, BitVec.toNat_ofNat]; exact Nat.mod_eq_of_lt (by omega)
  show IntKind.u64.wrap ((BitVec.ofInt 64 (a : Int) ||| BitVec.ofInt 64 (b : Int)).toNat : Int) = _
  rw [BitVec.toNat_or, e a ha, e b hb]
  simp only [IntKind.wrap, IntKind.bits, IntKind.signed]
  simp
  omega
/-- '|' of a number below 2^r and a multiple of 2^r is their sum. -/
theorem or_low64 (a y r : Nat) (ha : a < 2 ^ r) (hr : 2 ^ r * (y + 1) ≤ 18446744073709551616) : bits .or .u64 ((y : Int) * 2 ^ r) (a : Int) = ((2 ^ r * y + a : Nat) : Int) ∧ bits .or .u64 (a : Int) ((y : Int) * 2 ^ r) = ((2 ^ r * y + a : Nat) : Int) := by
  have h1 : 2 ^ r * y + a < 18446744073709551616 := by rw [Nat.mul_add] at hr; omega
  have e : ((y : Int) * 2 ^ r) = ((2 ^ r * y : Nat) : Int) := by
    rw [Int.natCast_mul, Int.natCast_pow, Int.mul_comm]; rfl
  rw [e, or_nat64 _ _ (by omega) (by omega), or_nat64 _ _ (by omega) (by omega)]
  have h2 := Nat.two_pow_add_eq_or_of_lt ha y
  exact ⟨by rw [h2], by rw [h2, Nat.or_comm]⟩

theorem rows_step {w wr : World} {g : Nat} {t : TypeId} {n v i : Nat} (hr : Row wr g t (fillN n v i)) (hi : i < n) (hb : Below w.heap.size w wr) (hg : w.heap.size ≤ g) (z : Int) (hz : z = ((dig v i : Nat) : Int)) :
    Row (wr.setCell ⟨g, i, none⟩ (.int .u32 z)) g t (fillN n v (i + 1)) ∧ Below w.heap.size w (wr.setCell ⟨g, i, none⟩ (.int .u32 z)) := by
  subst hz
  refine ⟨?_, hb.setCell (p := ⟨g, i, none⟩) hg _⟩
  have := hr.set_ i (dig v i)
  rwa [fillN_step hi] at this

theorem shr_mid {dl : List Nat} (h : Limbs dl) {j x y k : Nat} (hx : dl[j]? = some x) (hy : dl[j + 1]? = some y) :
    bits .or .u64 (x : Int) ((y : Int) * 4294967296) / 2 ^ (k % 32) % 4294967296 = ((dig (val dl / 2 ^ (k % 32)) j : Nat) : Int) := by
  have hxl := h.get hx
  have hyl := h.get hy
  rw [dig_shr dl h (k % 32) j x y (by omega) hx (by rw [hy]; rfl)]
  rw [show bits .or .u64 (x : Int) ((y : Int) * 4294967296) = ((2 ^ 32 * y + x : Nat) : Int) from (or_low64 x y 32 hxl (by omega)).2, show 2 ^ 32 * y + x = x + 4294967296 * y from by omega]
  rw [Int.natCast_emod, Int.natCast_ediv, Int.natCast_pow]; rfl
theorem shr_last {dl : List Nat} (h : Limbs dl) {j x k : Nat} (hx : dl[j]? = some x) (hy : dl[j + 1]? = none) :
    (x : Int) / 2 ^ (k % 32) % 4294967296 = ((dig (val dl / 2 ^ (k % 32)) j : Nat) : Int) := by
  rw [dig_shr dl h (k % 32) j x 0 (by omega) hx (by rw [hy]; rfl)]
  rw [Int.natCast_emod, Int.natCast_ediv, Int.natCast_pow]; rfl

set_option maxHeartbeats 1000000 in
theorem shr_any (A : Option Addr) (n c k : Nat) (l : List Nat) (w : World) (h : SL w A n c l) (hn : n ≤ 1000000) (hk : k ≤ 1000000) :
    Calls Tryz.prog 171 #[.slice A n c, .int .i64 (k : Int)] w (RetV (val l / 2 ^ k) 1000000 w) := by
  have hT := h.trim
  have hle := digs_val_len l h.lt
  have hlen := h.len
  have hcap := hT.cap
  have hmax := hT.max
  generalize hN : (digs (val l)).length = N at *
  have HN := Lib.hid hN
  clear hN
  have hNn : N ≤ n := by omega
  have HL := Lib.hid hlen
  clear hlen hle
  by_cases hbig : N ≤ k / 32
  · go_enter Tryz.func171, Tryz.ntmps171
    go_wp2_with (go_at_call 113; refine (trim_any A n c l _ h).mono ?_; rintro e w' ⟨rfl, rfl⟩; rw [HN.out])
    go_ret
    refine ⟨_, _, _, _, rfl, SL.nil _, ?_, Nat.zero_le _, Fresh.zero, Below.refl _ _⟩
    rw [val, Nat.div_eq_of_lt]
    have h1 := lt_digs_length (val l)
    rw [HN.out, base_pow] at h1
    exact Nat.lt_of_lt_of_le h1 (Nat.pow_le_pow_right (by omega) (by omega))
  · obtain ⟨b, off, rfl, _, _⟩ := hT.at_ (by omega)
    have hdec : decide ((N : Int) ≤ (k : Int) / 32) = false := by simp; omega
    have hS := hT.drop (k := k / 32) (by omega)
    have hv : val ((digs (val l)).drop (k / 32)) = val l / 4294967296 ^ (k / 32) := by rw [val_drop _ (limbs_digs _) _ (by rw [HN.out]; omega), val_digs]
    have HV := Lib.hid hv
    clear hv
    go_enter Tryz.func171, Tryz.ntmps171
    go_wp2_with (first
      | (go_at_call 113; refine (trim_any _ n c l _ h).mono ?_; rintro e w' ⟨rfl, rfl⟩; rw [HN.out])
      | (at_make; refine wpList_mk rfl (.tmp 21) (.tmp 21) _ 60 rfl u32_info Tryz.underlying23 .i64 .i64 _ _ (N - k / 32) (N - k / 32) rfl rfl (by omega) (by omega) (Nat.le_refl _) (by omega) ?_; intro w1 hr1 hb1 hs1))
    have HM : Hid (N - k / 32 ≤ 1000000) := by unfold Hid; omega
    have HM0 : Hid (0 < N - k / 32) := by unfold Hid; omega
    clear hdec hbig hT hNn hcap hmax
    generalize N - k / 32 = M at *
    generalize off + k / 32 = off2 at *
    generalize c - k / 32 = c2 at *
    generalize (digs (val l)).drop (k / 32) = dl at *
    have hM := HM.out
    go_loopw [25] (fun i wr => ∃ j : Nat, j ≤ M ∧ i = .int .i64 j ∧ Row wr w.heap.size 60 (fillN M (val dl / 2 ^ (k % 32)) j) ∧ Below w.heap.size w wr) (fun i _ => M - (intOf i).toNat)
    case atStart => exact ⟨0, Nat.zero_le _, rfl, by rw [fillN_zero]; exact hr1, hb1⟩
    case round =>
      obtain ⟨j, hj, rfl, hr, hb⟩ := hrel
      by_cases hlt : j < M
      · obtain ⟨x, hxb, hx, hcell, hxlt⟩ := (hS.below hb).get' hlt
        have HX := Lib.hid hx
        clear hx
        have hoc := hr.cell (fillN_get hlt)
        have hof := Blk.frozen hr j
        by_cases hlast : j + 1 < M
        · obtain ⟨y, hyb, hy, hcelly, hylt⟩ := (hS.below hb).get' hlast
          have HY := Lib.hid hy
          clear hy
          go_wp2_with fail
          go_roundw
          case rel =>
            clear hr1 hcell hcelly hoc
            exact ⟨j + 1, by omega, by go_num, rows_step hr hlt hb (Nat.le_refl _) _ (shr_mid hS.lt HX.out HY.out)⟩
          case measure => simp [intOf]; omega
        · go_wp2_with fail
          go_roundw
          case rel =>
            clear hr1 hcell hoc
            exact ⟨j + 1, by omega, by go_num, rows_step hr hlt hb (Nat.le_refl _) _ (shr_last hS.lt HX.out (List.getElem?_eq_none (by rw [hS.len]; omega)))⟩
          case measure => simp [intOf]; omega
      · go_wp2_with fail
        go_ret
        obtain rfl : j = M := by omega
        rw [fillN_all] at hr
        refine ⟨_, _, _, _, rfl, hr.sl (limbs_digN _ _) (digN_length _ _) (by omega), ?_, hM, fun _ => ⟨_, rfl, Nat.le_refl _⟩, hb⟩
        have hlt := val_lt dl hS.lt
        rw [hS.len] at hlt
        rw [val_digN_of_lt (Nat.lt_of_le_of_lt (Nat.div_le_self _ _) hlt), HV.out, Nat.div_div_eq_div_mul, base_pow, ← Nat.pow_add, show 32 * (k / 32) + k % 32 = k from by omega]

end Go.Proofs.YtekajoifgdpmlaaGreatDoor
