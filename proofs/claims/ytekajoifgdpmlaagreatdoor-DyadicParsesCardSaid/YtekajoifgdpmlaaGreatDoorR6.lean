/- The reference: times: what the call computes. -/
import Derived.Test.YtekajoifgdpmlaaGreatDoorR5
import Derived.Test.YtekajoifgdpmlaaGreatDoorM6
namespace Go.Proofs.YtekajoifgdpmlaaGreatDoor
open Go.RowKit Pl Go.Shelf

theorem set_same {L : List Nat} {i x : Nat} (h : L[i]? = some x) : L.set i x = L := by
  apply List.ext_getElem?
  intro j
  by_cases hj : i = j
  · subst hj
    rw [List.getElem?_set_self (by rcases Nat.lt_or_ge i L.length with h' | h'; exact h'; rw [List.getElem?_eq_none h'] at h; cases h), h]
  · rw [List.getElem?_set_ne hj]

set_option maxRecDepth 100000 in
set_option maxHeartbeats 4000000 in
theorem rtimes_any (A B : Option Addr) (n c m d : Nat) (l l' : List Nat) (w : World) (h : SL w A n c l) (h' : SL w B m d l') (hn : n ≤ 100000) (hm : m ≤ 100000) :
    Calls Tryz.prog 39 #[.slice A n c, .slice B m d] w (RetS (digs (val l * val l')) w) := by
  have hcap := h.cap
  have hcap' := h'.cap
  have hmax := h.max
  have hmax' := h'.max
  have HL := Lib.hid h.len
  have HL' := Lib.hid h'.len
  go_enter Tryz.func39, Tryz.ntmps39
  go_wp2_with (at_make; refine wpList_mk rfl (.tmp 17) (.tmp 17) _ 60 rfl u32_info Tryz.underlying23 .i64 .i64 _ _ (n + m + 1) (n + m + 1) rfl rfl (by omega) (by omega) (Nat.le_refl _) (by omega) ?_; intro w1 hr1 hb1 hs1)
  generalize hNM : n + m + 1 = N at *
  go_loopw [6] (fun i wr => ∃ (j : Nat) (L : List Nat), j ≤ n ∧ i = .int .i64 j ∧ Hid (L.length = N ∧ Limbs L ∧ val L = val (l.take j) * val l' ∧ ∀ q, j + m ≤ q → q < N → L[q]? = some 0) ∧ Row wr w.heap.size 60 L ∧ Below w.heap.size w wr) (fun i _ => n - (intOf i).toNat)
  case atStart => exact ⟨0, List.replicate N 0, Nat.zero_le _, rfl, ⟨by simp, limbs_replicate _, by simp [val_replicate, val], fun q _ hq => by simp [hq]⟩, hr1, hb1⟩
  case round =>
    obtain ⟨i, L, hi, rfl, HI, hr, hb⟩ := hrel
    by_cases hlt : i < n
    · obtain ⟨b, off, x, rfl, hxb, hx, hcell0, hxlt⟩ := h.get hlt
      have HX := Lib.hid hx
      clear hx
      have HC0 := Lib.hid hcell0
      clear hcell0
      obtain ⟨V, hV⟩ : ∃ V, V = val (l.take i) * val l' := ⟨_, rfl⟩
      have HV := Lib.hid hV
      clear hV
      obtain ⟨wo, rfl⟩ : ∃ wo : World, wo = wr := ⟨_, rfl⟩
      have hbo := hb
      go_wp2_with fail
      go_loopw [7, 8] (fun cv k wr => ∃ (j cy : Nat) (L : List Nat), j ≤ m ∧ k = .int .i64 j ∧ cv = .int .u64 (cy : Int) ∧ cy < 4294967296 ∧ Hid (Mul N i m j cy V x l' L) ∧ Row wr w.heap.size 60 L ∧ Below w.heap.size w wr) (fun _ k _ => m - (intOf k).toNat)
      case atStart =>
        exact ⟨0, 0, L, Nat.zero_le _, rfl, rfl, by omega, ⟨HI.out.1, HI.out.2.1, by rw [HI.out.2.2.1, HV.out]; simp [val], HI.out.2.2.2⟩, hr, hb⟩
      case round =>
        obtain ⟨k, cy, L, hk, rfl, rfl, hcy, HM, hr, hb⟩ := hrel
        by_cases hlk : k < m
        · obtain ⟨b', off', y, rfl, hyb, hy, hcelly, hylt⟩ := (h'.below hb).get hlk
          have HY := Lib.hid hy
          clear hy
          have hcell := (hb.cell (p := ⟨b, off + i, none⟩) hxb).trans HC0.out
          have hik : i + k < L.length := by rw [HM.out.len]; omega
          obtain ⟨z, hz⟩ : ∃ z, L[i + k]? = some z := ⟨_, List.getElem?_eq_getElem hik⟩
          have hoc := hr.cell hz
          have hof := Blk.frozen hr (i + k)
          have hzl := HM.out.lim.get hz
          have HST := Lib.hid (HM.out.step hlk HY.out hz hxlt hylt hcy)
          have hbd := mul_bound hxlt hylt hzl hcy
          clear hik hz
          obtain ⟨p, hp⟩ : ∃ p : Nat, x * y = p := ⟨_, rfl⟩
          have hpi : (x : Int) * (y : Int) = (p : Int) := by rw [← hp]; simp
          rw [hp] at hbd
          have HP := Lib.hid hp
          clear hp
          have hwik : IntKind.i64.wrap ((i : Int) + (k : Int)) = (i : Int) + (k : Int) := IntWalk.i64_in _ (by omega)
          have hwp : IntKind.u64.wrap (p : Int) = (p : Int) := wrapU64 p (by omega)
          have hwz : IntKind.u64.wrap ((p : Int) + (z : Int)) = (p : Int) + (z : Int) := by have := wrapU64 (p + z) (by omega); simpa using this
          have hwc : IntKind.u64.wrap ((p : Int) + (z : Int) + (cy : Int)) = (p : Int) + (z : Int) + (cy : Int) := by have := wrapU64 (p + z + cy) (by omega); simpa using this
          have i1 : (0 : Int) ≤ (i : Int) := by omega
          have i2 : (i : Int) < (n : Int) := by omega
          have k1 : (0 : Int) ≤ (k : Int) := by omega
          have k2 : (k : Int) < (m : Int) := by omega
          have s1 : (0 : Int) ≤ (i : Int) + (k : Int) := by omega
          have s2 : (i : Int) + (k : Int) < (N : Int) := by omega
          have s3 : ((i : Int) + (k : Int)).toNat = i + k := by omega
          go_wp2_with fail
          go_quiet (fail)
          clear hwik hwp hwz hwc s3
          have hmk := maskOf (v := (p : Int) + (z : Int) + (cy : Int)) (a := p + z + cy) (by omega) (by omega)
          have HMK := Lib.hid hmk
          clear hmk
          go_wp2_with fail
          go_roundw
          case rel =>
            have e2 : ((p : Int) + (z : Int) + (cy : Int)) / 4294967296 = (((p + z + cy) / 4294967296 : Nat) : Int) := by omega
            have hst := HST.out
            rw [HP.out] at hst
            rw [HMK.out, e2]
            exact ⟨k + 1, _, _, by omega, by go_num, rfl, hst.2, hst.1, Row.set_ (hr.drewN _) _ _, (below_drewN hb _).setCell (p := ⟨w.heap.size, i + k, none⟩) (Nat.le_refl _) _⟩
          case measure => simp [intOf]; omega
        · obtain rfl : k = m := by omega
          have hz := HM.out.zero (i + k) (Nat.le_refl _) (by omega)
          have hoc := hr.cell hz
          have hof := Blk.frozen hr (i + k)
          have HD := Lib.hid (HM.out.done HL'.out (by omega) HX.out HV.out hcy)
          have HSS := Lib.hid (set_same hz)
          clear hz
          obtain ⟨wi, rfl⟩ : ∃ wi : World, wi = wr := ⟨_, rfl⟩
          go_wp2_with fail
          go_loopw [7, 10] (fun cv kv wr => ∃ (q g : Nat) (M : List Nat), ((q = i + k ∧ g = cy ∧ M = L ∧ wr = wi) ∨ (q = i + k + 1 ∧ g = 0 ∧ M = L.set (i + k) cy)) ∧ kv = .int .i64 (q : Int) ∧ cv = .int .u64 (g : Int) ∧ Row wr w.heap.size 60 M ∧ Below w.heap.size w wr) (fun _ kv _ => i + k + 2 - (intOf kv).toNat)
          case atStart => exact ⟨i + k, cy, L, .inl ⟨rfl, rfl, rfl, rfl⟩, by go_num, rfl, hr, hb⟩
          case round =>
            obtain ⟨q, g, M, hqg, rfl, rfl, hrM, hbM⟩ := hrel
            rcases hqg with ⟨rfl, rfl, rfl, rfl⟩ | ⟨rfl, rfl, rfl⟩
            · by_cases hc0 : 0 < g
              · have hmk := maskOf (v := (0 : Int) + (g : Int)) (a := g) (by omega) (by omega)
                simp only [Int.zero_add] at hmk
                rw [Nat.mod_eq_of_lt hcy] at hmk
                have HMK := Lib.hid hmk
                clear hmk
                go_wp2_with fail
                go_roundw
                case rel =>
                  have e2 : (g : Int) / 4294967296 = ((0 : Nat) : Int) := by omega
                  rw [HMK.out, e2]
                  exact ⟨i + k + 1, 0, _, .inr ⟨rfl, rfl, rfl⟩, by go_num, rfl, Row.set_ hr _ _, hb.setCell (p := ⟨w.heap.size, i + k, none⟩) (Nat.le_refl _) _⟩
                case measure => simp [intOf]; omega
              · obtain rfl : g = 0 := by omega
                go_wp2_with fail
                go_roundw
                case rel =>
                  have hd := HD.out
                  rw [HSS.out] at hd
                  exact ⟨i + 1, M, by omega, by go_num, hd, hr, hb⟩
                case measure => simp [intOf]; omega
            · go_wp2_with fail
              go_roundw
              case rel => exact ⟨i + 1, L.set (i + k) cy, by omega, by go_num, HD.out, hrM, hbM⟩
              case measure => simp [intOf]; omega
    · obtain rfl : i = n := by omega
      obtain ⟨e1, e2, e3, -⟩ := HI.out
      rw [List.take_of_length_le (by rw [HL.out]; exact Nat.le_refl _)] at e3
      have hsl := hr.sl e2 e1 (by omega)
      have HE3 := Lib.hid e3
      clear e1 e2 e3
      go_wp2_with fail
      refine (rtrim_any _ N N L _ hsl (by omega)).mono ?_
      rw [HE3.out]
      rintro e w3 ⟨A3, n3, c3, rfl, hs3, hf3, hb3⟩
      go_wp2_with fail
      go_ret
      exact ⟨_, _, _, rfl, hs3, hf3.mono hb.size, bthen hb hb3 (Nat.le_refl _)⟩

end Go.Proofs.YtekajoifgdpmlaaGreatDoor
