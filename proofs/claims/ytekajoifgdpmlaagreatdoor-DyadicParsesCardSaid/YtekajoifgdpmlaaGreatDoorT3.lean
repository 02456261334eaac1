/- natural.Text and dyadic.Text at the examples of the chapter. -/
import Derived.Test.YtekajoifgdpmlaaGreatDoorT1
import Derived.Test.YtekajoifgdpmlaaGreatDoorT2
import Derived.Test.YtekajoifgdpmlaaGreatDoorD5
namespace Go.Proofs.YtekajoifgdpmlaaGreatDoor
open Go.RowKit Pl Go.Shelf

set_option maxHeartbeats 1000000 in
theorem reverse_one (A : Option Addr) (c : Nat) (w : World) :
    Calls Tryz.prog 117 #[.slice A 1 c] w fun e w' => e = .returned (.tuple #[]) ∧ w = w' := by
  go_enter Tryz.func117, Tryz.ntmps117
  go_wp2_with fail
  go_loop [2, 3] (fun i j => i = .int .i64 0 ∧ j = .int .i64 0) (fun _ _ => 0)
  case atStart => exact ⟨rfl, rfl⟩
  case round =>
    obtain ⟨rfl, rfl⟩ := hrel
    go_wp2_with fail
    go_end0
    exact ⟨rfl, rfl⟩

set_option maxHeartbeats 1000000 in
theorem formatUint_small (i : Nat) (w : World) (h : i < 100) :
    Calls Tryz.prog 115 #[.int .u64 (i : Int), .int .i64 10] w fun e w' => e = .returned (.string ⟨(Lib.decDigits i).toArray⟩) ∧ w = w' := by
  go_enter Tryz.func115, Tryz.ntmps115
  go_wp2_with (first
    | (go_at_call 175; go_in)
    | (go_at_call 210; refine (Tryz.internal_strconv_small i h _).mono ?_; rintro e w' ⟨rfl, hw⟩; subst hw))
  go_ret
  exact ⟨rfl, rfl⟩

def sliceLen : Value → Nat | .slice _ n _ => n | _ => 0
theorem str_info : (Tryz.prog.info? 9).map (fun i => (i.zero, i.size, i.bytes)) = some (some (.string ByteArray.empty), 1, 16) := by kernel_rfl

set_option maxHeartbeats 2000000 in
theorem ntext_one (A : Option Addr) (c : Nat) (w : World) (h : SL w A 1 c [1]) :
    Calls Tryz.prog 43 #[.slice A 1 c] w fun e w' => e = .returned (.tuple #[.string ⟨#[49]⟩, .int .i64 0]) ∧ Below w.heap.size w w' := by
  obtain ⟨i0, hi, hz0, hz1, hz2⟩ := info_parts str_info
  have h1 := h.alloc (.cells #[.slice A 1 c] 23)
  have HD : Hid ((digs (val [1])).length = 1) := by unfold Hid; decide
  have hT := h1.trim
  have HD1 : Hid (digs (val [1]) = [1]) := by unfold Hid; decide
  rw [HD1.out] at hT
  have hcap := h.cap
  go_enter Tryz.func43, Tryz.ntmps43
  go_wp2_with fail
  refine (long_one _ A 1 c _ (by simp)).mono ?_
  rintro e w' ⟨rfl, rfl⟩
  go_wp2_with fail
  refine (trim_any A 1 c [1] _ h1).mono ?_
  rintro e w' ⟨rfl, rfl⟩
  rw [HD.out]
  go_wp2_with fail
  go_loopw [0, 4] (fun a p wr => (a = .slice A 1 c ∧ p = .slice none 0 0 ∧ wr = w.alloc (.cells #[.slice A 1 c] 23)) ∨ (∃ A' c', a = .slice A' 0 c' ∧ wr.ownsRow w.heap.size 9 1 p 1 [.string ⟨#[49]⟩] ∧ Below w.heap.size w wr)) (fun a _ _ => sliceLen a)
  case atStart => exact .inl ⟨rfl, rfl, rfl⟩
  case round =>
    rcases hrel with ⟨rfl, rfl, rfl⟩ | ⟨A', c', rfl, hown, hb⟩
    · go_wp2_with fail
      refine (short_any A 1 c 1000000000 [1] _ hT (by omega) (by omega) (by omega)).mono ?_
      rintro e w2 ⟨A2, n2, c2, l2, rfl, hs2, hv2, hn2, hf2, hb2⟩
      have hv0 : val l2 = 0 := by rw [hv2]; decide
      have HR : Hid (((val [1] % 1000000000 : Nat) : Int) = 1) := by unfold Hid; decide
      have HD2 : Hid ((digs (val l2)).length = 0) := by unfold Hid; rw [hv0]; rfl
      clear hv2 hv0
      rw [HR.out]
      have hbw := bnext (ballo w (.cells #[.slice A 1 c] 23)) hb2
      go_wp2_with fail
      refine (trim_any A2 n2 c2 l2 _ hs2).mono ?_
      rintro e w' ⟨rfl, rfl⟩
      rw [HD2.out]
      go_wp2_with fail
      refine (formatUint_small 1 _ (by omega)).mono ?_
      rintro e w' ⟨rfl, rfl⟩
      have HS : Hid ((Lib.decDigits 1).toArray = #[49]) := by unfold Hid; rw [Lib.decDigits_one (by omega)]; rfl
      rw [HS.out]
      have hsz := hbw.size
      go_wp2_with (at_builtin; refine wpList_append_own _ rfl _ _ 54 rfl w.heap.size 9 i0 (.string ByteArray.empty) 1 16 Tryz.underlying54 hi hz0 hz1 hz2 rfl (by decide) (.slice none 0 0) 0 [] rfl ⟨rfl, .inl ⟨rfl, rfl⟩⟩ ⟨w2.heap.size, 0, none⟩ 1 1 [.string ⟨#[49]⟩] rfl rfl ?c1 ?c2 ?c3 ?c4 ?c5 ?_)
      case c1 =>
        intro j u hj
        match j, hj with
        | 0, hj => simp at hj; subst hj; simp [Addr.add]
      case c2 => intro u hu; simp at hu; subst hu; rfl
      case c3 => unfold maxLen; omega
      case c4 => omega
      case c5 => simp; omega
      intro v' w3 hown' hgrow _
      have hbw3 : Below w.heap.size w w3 := (hbw.alloc hsz _).grown hgrow (by simp; omega) (by intro k hk; cases hk)
      go_wp2_with fail
      go_roundw
      case rel => exact .inr ⟨A2, c2, rfl, by simpa using hown', hbw3⟩
      case measure => simp [sliceLen]
    · obtain ⟨g, cap, rfl⟩ : ∃ g cap, u4 = .slice (some ⟨g, 0, none⟩) 1 cap := by
        rcases hown.2 with ⟨_, h0⟩ | ⟨g, cap, cur, hv, _⟩
        · omega
        · exact ⟨g, cap, hv⟩
      have hcells := hown.cells (g := g) rfl
      have hg : g < wr.heap.size := (hown.lt g rfl).2
      have hcap1 : 1 ≤ cap := by
        rcases hown.2 with ⟨hv, _⟩ | ⟨g', cap', cur, hv, _, _, hc, _⟩
        · cases hv
        · injection hv with _ _ e3; omega
      have HC := Lib.hid hcells
      clear hcells
      go_wp2_with fail
      refine (reverse_one _ cap _).mono ?_
      rintro e w' ⟨rfl, rfl⟩
      go_wp2_with fail
      refine (Tryz.strings_Join g 0 cap [⟨#[49]⟩] ⟨#[]⟩ _ (fun j x hx => by
        match j, hx with
        | 0, hx =>
          simp at hx
          subst hx
          have := HC.out 0 _ rfl
          simpa [Addr.add] using this) hg (by simp) hcap1 (by simp [Lib.join, List.intercalate])).mono ?_
      rintro e w4 ⟨rfl, hb4⟩
      have HJ : Hid ((⟨(Lib.join (List.map (fun x : ByteArray => x.data.toList) [⟨#[49]⟩]) (ByteArray.mk #[]).data.toList).toArray⟩ : ByteArray) = ⟨#[49]⟩) := by unfold Hid; rfl
      rw [HJ.out]
      go_wp2_with fail
      go_ret2
      exact ⟨rfl, bnext hb hb4⟩

set_option maxHeartbeats 2000000 in
theorem dtext_one (A : Option Addr) (c : Nat) (w : World) (h : SL w A 1 c [1]) :
    Calls Tryz.prog 13 #[.agg #[.bool true, .slice A 1 c, .int .i64 33]] w fun e w' => e = .returned (.tuple #[.string ⟨#[45, 49, 112, 51, 51]⟩, .int .i64 0]) ∧ Below w.heap.size w w' := by
  have h1 := h.alloc (.cells #[.bool true, .slice A 1 c, .int .i64 33] 25)
  have HV : Hid (vld ⟨true, [1], 33⟩ = true) := by unfold Hid; decide
  have k0 := Blk.new w 25 #[.bool true, .slice A 1 c, .int .i64 33]
  go_enter Tryz.func13, Tryz.ntmps13
  go_wp2_with fail
  refine (valid_any true A 1 c [1] 33 _ h1 (by omega)).mono ?_
  rintro e w1 ⟨rfl, hb1⟩
  rw [HV.out]
  have k1 := k0.below hb1 (by simp)
  have h2 := h1.below hb1
  have hbw1 := bnext (ballo _ _) hb1
  have hz1 : w.heap.size + 1 ≤ w1.heap.size := by simpa using hb1.size
  obtain ⟨s0, s1, s2⟩ := k1.cells3
  go_wp2_with fail
  refine (ntext_one A c _ h2).mono ?_
  rintro e w2 ⟨rfl, hb2⟩
  have k2 := k1.below hb2 (by omega)
  have hbw2 := bnext hbw1 hb2
  have hz2 : w.heap.size + 1 ≤ w2.heap.size := by have := hb2.size; omega
  clear s0 s1 s2
  obtain ⟨s0, s1, s2⟩ := k2.cells3
  have kA := k2.alloc (.cells #[.pointer none, .slice none 0 0] 82)
  obtain ⟨a0, a1, a2⟩ := kA.cells3
  have hB : Lib.IsBuilder 82 5 w2.heap.size w2.heap.size [] (w2.alloc (.cells #[.pointer none, .slice none 0 0] 82)) :=
    .inl ⟨Nat.le_refl _, .slice none 0 0, Blk.new _ _ _, ⟨rfl, .inl ⟨rfl, rfl⟩⟩, by simp [Value.ownBlock]⟩
  go_wp2_with fail
  refine (writeByte_any w2.heap.size w2.heap.size [] 45 _ hB (by simp) (by simp)).mono ?_
  rintro e w3 ⟨rfl, hB3, hb3⟩
  have k3 := kA.below hb3 (by omega)
  have hbw3 := (bnext hbw2 (ballo _ _)).trans (hb3.mono (by omega))
  have hz3 : w2.heap.size + 1 ≤ w3.heap.size := by simpa using hb3.size
  clear a0 a1 a2 s0 s1 s2
  obtain ⟨s0, s1, s2⟩ := k3.cells3
  have HI : Hid (∀ W, Calls Tryz.prog 46 #[.int .i64 33] W fun e w' => e = .returned (.string ⟨#[51, 51]⟩) ∧ W = w') := fun W => by
    have := Tryz.strconv_Itoa_small 33 (by omega) W
    have e : (Lib.decDigits 33).toArray = #[51, 51] := by rw [Lib.decDigits_two (by omega) (by omega)]; rfl
    rw [e] at this
    exact this.mono (fun e w' ⟨h1, h2⟩ => ⟨h1, h2.symm⟩)
  have HB3 := Lib.hid hB3
  clear hB3
  go_wp2_with fail
  refine (HI.out _).mono ?_
  rintro e w' ⟨rfl, rfl⟩
  go_wp2_with fail
  rw [show ((⟨#[49]⟩ : ByteArray) ++ ⟨#[112]⟩ ++ ⟨#[51, 51]⟩) = ⟨#[49, 112, 51, 51]⟩ from by decide]
  refine (writeString_any w2.heap.size w2.heap.size _ ⟨#[49, 112, 51, 51]⟩ _ (.inr HB3.out) (by simp [ByteArray.size]) (by omega)).mono ?_
  rintro e w4 ⟨rfl, hB4, hb4⟩
  have HB4 : Hid (Lib.IsBuilder 82 5 w2.heap.size w2.heap.size (Lib.byteCells [45, 49, 112, 51, 51]) w4) := .inr hB4
  have hbw4 := hbw3.trans (hb4.mono (by omega))
  have hz4 : w2.heap.size + 1 ≤ w4.heap.size := by have := hb4.size; omega
  clear hB4
  go_wp2_with fail
  refine (Tryz.Builder_String_any w2.heap.size w2.heap.size [45, 49, 112, 51, 51] _ HB4.out (by omega)).mono ?_
  rintro e w5 ⟨rfl, hb5⟩
  go_wp2_with fail
  go_ret2
  exact ⟨rfl, hbw4.trans (hb5.mono (by omega))⟩

end Go.Proofs.YtekajoifgdpmlaaGreatDoor
