/- natural.mul, natural.Mul: what each call computes. -/
import Derived.Test.YtjhokljoomeilaaGreatDoorM6
import Derived.Test.YtjhokljoomeilaaGreatDoorB3
namespace Go.Proofs.YtjhokljoomeilaaGreatDoor
open Go.RowKit Pl Go.Shelf

set_option maxHeartbeats 4000000 in
theorem mul_any (A B : Option Addr) (n c m d : Nat) (l l' : List Nat) (w : World) (h : SL w A n c l) (h' : SL w B m d l') (hn : n ≤ 1000000) (hm : m ≤ 1000000) :
    Calls Tryz.prog 72 #[.slice A n c, .slice B m d] w (RetV (val l * val l') 2000000 w) := by
  have hcap := h.cap
  have hcap' := h'.cap
  have hmax := h.max
  have hmax' := h'.max
  have HL := Lib.hid h.len
  have HL' := Lib.hid h'.len
  go_enter Tryz.func72, Tryz.ntmps72
  go_wp2_with (at_make; refine wpList_mk rfl (.tmp 16) (.tmp 16) _ 45 rfl u32_info Tryz.underlying22 .i64 .i64 _ _ (n + m) (n + m) rfl rfl (by omega) (by omega) (Nat.le_refl _) (by omega) ?_; intro w1 hr1 hb1 hs1)
  generalize hNM : n + m = N at *
  go_loopw [20] (fun i wr => ∃ (j : Nat) (L : List Nat), j ≤ n ∧ i = .int .i64 j ∧ Hid (L.length = N ∧ Limbs L ∧ val L = val (l.take j) * val l' ∧ ∀ q, j + m ≤ q → q < N → L[q]? = some 0) ∧ Row wr w.heap.size 45 L ∧ Below w.heap.size w wr) (fun i _ => n - (intOf i).toNat)
  case atStart => exact ⟨0, List.replicate N 0, Nat.zero_le _, rfl, ⟨by simp, limbs_replicate _, by simp [val_replicate, val], fun q _ hq => by simp [hq]⟩, hr1, hb1⟩
  case round =>
    obtain ⟨i, L, hi, rfl, HI, hr, hb⟩ := hrel
    by_cases hlt : i < n
    · obtain ⟨b, off, x, rfl, hxb, hx, hcell, hxlt⟩ := (h.below hb).get hlt
      have HX := Lib.hid hx
      clear hx
      obtain ⟨V, hV⟩ : ∃ V, V = val (l.take i) * val l' := ⟨_, rfl⟩
      have HV := Lib.hid hV
      clear hV
      go_wp2_with fail
      go_loopw [8, 27] (fun cv k wr => ∃ (j cy : Nat) (L : List Nat), j ≤ m ∧ k = .int .i64 j ∧ cv = .int .u64 (cy : Int) ∧ cy < 4294967296 ∧ Hid (Mul N i m j cy V x l' L) ∧ Row wr w.heap.size 45 L ∧ Below w.heap.size w wr) (fun _ k _ => m - (intOf k).toNat)
      case atStart =>
        exact ⟨0, 0, L, Nat.zero_le _, rfl, rfl, by omega, ⟨HI.out.1, HI.out.2.1, by rw [HI.out.2.2.1, HV.out]; simp [val], HI.out.2.2.2⟩, hr, hb⟩
      case round =>
        obtain ⟨k, cy, L, hk, rfl, rfl, hcy, HM, hr, hb⟩ := hrel
        by_cases hlk : k < m
        · obtain ⟨b', off', y, rfl, hyb, hy, hcelly, hylt⟩ := (h'.below hb).get hlk
          have HY := Lib.hid hy
          clear hy
          have hik : i + k < L.length := by rw [HM.out.len]; omega
          obtain ⟨z, hz⟩ : ∃ z, L[i + k]? = some z := ⟨_, List.getElem?_eq_getElem hik⟩
          have hoc := hr.cell hz
          have hof := Blk.frozen hr (i + k)
          have hzl := HM.out.lim.get hz
          have HST := Lib.hid (HM.out.step hlk HY.out hz hxlt hylt hcy)
          have hbd := mul_bound hxlt hylt hzl hcy
          clear hik hz
          obtain ⟨p, hp⟩ : ∃ p : Nat, x * y = p := ⟨_, rfl⟩
          have hpi : (x : Int) * (y : Int) = (p : Int) := by rw [← hp]; simp
          rw [hp] at hbd
          have HP := Lib.hid hp
          clear hp
          go_wp2_with fail
          go_roundw
          case rel =>
            have e1 : ((p : Int) + (z : Int) + (cy : Int)) % 4294967296 = (((p + z + cy) % 4294967296 : Nat) : Int) := by omega
            have e2 : ((p : Int) + (z : Int) + (cy : Int)) / 4294967296 = (((p + z + cy) / 4294967296 : Nat) : Int) := by omega
            have hst := HST.out
            rw [HP.out] at hst
            rw [e1, e2]
            exact ⟨k + 1, _, _, by omega, by go_num, rfl, hst.2, hst.1, hr.set_ _ _, hb.setCell (p := ⟨w.heap.size, i + k, none⟩) (Nat.le_refl _) _⟩
          case measure => simp [intOf]; omega
        · obtain rfl : k = m := by omega
          have hz := HM.out.zero (i + k) (Nat.le_refl _) (by omega)
          have hoc := hr.cell hz
          have hof := Blk.frozen hr (i + k)
          have HD := Lib.hid (HM.out.done HL'.out (by omega) HX.out HV.out hcy)
          clear hz
          go_wp2_with fail
          go_roundw
          case rel => exact ⟨i + 1, L.set (i + k) cy, by omega, by go_num, HD.out, hr.set_ _ _, hb.setCell (p := ⟨w.heap.size, i + k, none⟩) (Nat.le_refl _) _⟩
          case measure => simp [intOf]; omega
    · obtain rfl : i = n := by omega
      go_wp2_with fail
      go_ret
      obtain ⟨e1, e2, e3, -⟩ := HI.out
      rw [List.take_of_length_le (by rw [HL.out]; exact Nat.le_refl _)] at e3
      exact ⟨_, _, _, _, rfl, hr.sl e2 e1 (by omega), e3, by omega, fun _ => ⟨_, rfl, Nat.le_refl _⟩, hb⟩

set_option maxHeartbeats 2000000 in
theorem Mul_ok (A B : Option Addr) (n c m d : Nat) (l l' : List Nat) (w : World) (h : SL w A n c l) (h' : SL w B m d l') (hn : n ≤ 256) (hm : m ≤ 256) (hs : (digs (val l * val l')).length ≤ 256) :
    Calls Tryz.prog 34 #[.slice A n c, .slice B m d] w (RetP (digs (val l * val l')) w) := by
  have hw := h.alloc (.cells #[.slice A n c, .slice B m d] 22)
  have hw' := h'.alloc (.cells #[.slice A n c, .slice B m d] 22)
  have hlb : decide (256 < n ∨ 256 < m) = false := by simp; omega
  have HLB := Lib.hid hlb
  clear hlb
  have t1 := hw.trim
  have t2 := hw'.trim
  have u1 : (digs (val l)).length ≤ 256 := Nat.le_trans (digs_val_len l h.lt) (by rw [h.len]; exact hn)
  have u2 : (digs (val l')).length ≤ 256 := Nat.le_trans (digs_val_len l' h'.lt) (by rw [h'.len]; exact hm)
  go_enter Tryz.func34, Tryz.ntmps34
  go_wp2_with fail
  refine (long_two _ A B n c m d _ (by simp) (by simp)).mono ?_
  rintro e w' ⟨rfl, rfl⟩
  rw [HLB.out]
  go_wp2_with fail
  refine (trim_any A n c l _ hw).mono ?_
  rintro e w' ⟨rfl, rfl⟩
  go_wp2_with fail
  refine (trim_any B m d l' _ hw').mono ?_
  rintro e w' ⟨rfl, rfl⟩
  go_wp2_with fail
  refine (mul_any A B _ c _ d _ _ _ t1 t2 (by omega) (by omega)).mono ?_
  rw [val_digs, val_digs]
  rintro e w' ⟨A1, n1, c1, l1, rfl, hs1, hv1, _, hf1, hb1⟩
  have hb : Below w.heap.size w w' := bnext (ballo _ _) hb1
  have HV := Lib.hid hv1
  clear hv1
  have h256' : (digs (val l1)).length ≤ 256 := by rw [HV.out]; exact hs
  clear hs
  go_wp2_with fail
  refine (done_ok A1 n1 c1 l1 _ hs1 h256').mono ?_
  rintro e w2 ⟨rfl, hb2⟩
  go_wp2_with fail
  go_ret2
  have hl1 := digs_val_len l1 hs1.lt
  have hl2 := hs1.len
  rw [← HV.out]
  exact ⟨_, _, _, rfl, (hs1.trim.clip).below hb2, (hf1.mono (by simp)).less (by omega), bnext hb hb2⟩

end Go.Proofs.YtjhokljoomeilaaGreatDoor
