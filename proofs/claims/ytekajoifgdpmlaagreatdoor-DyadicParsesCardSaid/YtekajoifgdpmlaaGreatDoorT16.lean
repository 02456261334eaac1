/- dyadic.Parse at a text without 'p'; what is parsed has this text. -/
import Derived.Test.YtekajoifgdpmlaaGreatDoorTB
import Derived.Test.YtekajoifgdpmlaaGreatDoorT15
namespace Go.Proofs.YtekajoifgdpmlaaGreatDoor
open Go.RowKit Pl Go.Shelf
open Go.Lib (decDigits itoa)

/-- A text without 'p' behind its sign. -/
structure NoP (S : List UInt8) (neg : Bool) (T : List UInt8) : Prop where
  eq : S = (if neg then [45] else []) ++ T
  nop : ∀ c ∈ T, c ≠ 112
  sgn : neg = false → T.head? ≠ some 45

set_option maxRecDepth 100000 in
set_option maxHeartbeats 2000000 in
theorem parse_nop {S : List UInt8} {neg : Bool} {T : List UInt8} (hP : NoP S neg T) (w : World) (hl : S.length ≤ 1250) (hS0 : ¬ S = [48]) :
    Calls Tryz.prog 10 #[.string ⟨S.toArray⟩] w (RetE zeroD 3 w) := by
  have heq := hP.eq
  have hTl : T.length ≤ 1250 := by rw [heq] at hl; simp at hl; omega
  have HC1 : Hid (∀ W, Calls Tryz.prog 30 #[.string ⟨S.toArray⟩, .string ⟨#[45]⟩] W fun e w' => e = .returned (.tuple #[.string ⟨T.toArray⟩, .bool neg]) ∧ W = w') := fun W => by
    cases neg
    · have := cutMinus_no S W (by rw [heq]; exact hP.sgn rfl)
      rw [heq] at this ⊢
      exact this
    · rw [heq]
      exact cutMinus_yes T W (by omega)
  have HC2 : Hid (∀ W, Calls Tryz.prog 31 #[.string ⟨T.toArray⟩, .string ⟨#[112]⟩] W fun e w' => e = .returned (.tuple #[.string ⟨T.toArray⟩, .string ⟨#[]⟩, .bool false]) ∧ Below W.heap.size W w') := fun W => cutP_no T W hP.nop
  have HC3 : Hid (∀ W, Calls Tryz.prog 30 #[.string ⟨#[]⟩, .string ⟨#[45]⟩] W fun e w' => e = .returned (.tuple #[.string ⟨#[]⟩, .bool false]) ∧ W = w') := fun W => cutMinus_no [] W (by simp)
  have hS1 : (S == [48]) = false := by simpa using hS0
  clear heq hP
  have hbw := ballo w (.cells #[.bool false, .slice none 0 0, .int .i64 0] 25)
  have kz := Blk.new w 25 #[.bool false, .slice none 0 0, .int .i64 0]
  go_enter Tryz.func10, Tryz.ntmps10
  go_wp2_with fail
  generalize w.alloc (.cells #[.bool false, .slice none 0 0, .int .i64 0] 25) = W0 at *
  refine (HC1.out _).mono ?_
  rintro e w' ⟨rfl, rfl⟩
  go_wp2_with fail
  refine (HC2.out _).mono ?_
  rintro e w2 ⟨rfl, hb2⟩
  replace hbw := bnext hbw hb2
  replace kz := kz.below hb2 kz.lt
  clear hb2
  go_wp2_with fail
  refine (HC3.out _).mono ?_
  rintro e w' ⟨rfl, rfl⟩
  obtain ⟨z0, z1, z2⟩ := kz.cells3
  have f0 := kz.frozen 0
  have f1 := kz.frozen 1
  have f2 := kz.frozen 2
  go_wp2_with fail
  refine bodyPost_ret (resDE Tryz.results10 rfl (kz.set3 _ _ _)) rfl ?_
  exact ⟨none, 0, 0, rfl, SL.nil _, Fresh.zero, below_set3 hbw (Nat.le_refl _) _ _ _⟩

/-- A right decimal number is the numeral of its value. -/
theorem dec_num : ∀ (n : Nat) (m : List UInt8), m.length = n → m.all isDig = true → m ≠ [] → (m.head? ≠ some 48 ∨ m.length = 1) → decDigits (numL m) = m := by
  intro n
  induction n with
  | zero => intro m h _ hne _; exact absurd (List.eq_nil_of_length_eq_zero h) hne
  | succ n ih =>
    intro m hlen hall hne hh
    rcases List.eq_nil_or_concat m with e | ⟨m', c, e⟩
    · exact absurd e hne
    · rw [List.concat_eq_append] at e
      subst e
      have hc := (List.all_eq_true.1 hall) c (by simp)
      simp [isDig] at hc
      have hcc : UInt8.ofNat (48 + (c.toNat - 48)) = c := by
        apply UInt8.toNat_inj.1
        have := c.toNat_lt
        simp
        omega
      rw [numL_snoc]
      by_cases hm : m' = []
      · subst hm
        rw [show numL [] = 0 from rfl, dec_small (by omega), show 10 * 0 + (c.toNat - 48) = c.toNat - 48 by omega, hcc]
        rfl
      · have hlm : m'.length = n := by simpa using hlen
        have hhead : m'.head? ≠ some 48 := by
          rcases hh with h | h
          · cases m' with
            | nil => exact absurd rfl hm
            | cons a t => simpa using h
          · exfalso
            simp at h
            exact hm h
        have hr := ih m' hlm (by rw [List.all_append] at hall; simp at hall; rw [List.all_eq_true]; intro x hx; exact hall.1 x hx) hm (.inl hhead)
        have hpos : 0 < numL m' := by
          rcases Nat.eq_zero_or_pos (numL m') with h0 | h0
          · exfalso
            rw [h0, dec_small (by omega)] at hr
            rw [← hr] at hhead
            exact hhead rfl
          · exact h0
        rw [dec_big (by omega), show (10 * numL m' + (c.toNat - 48)) / 10 = numL m' by omega, hr, show (10 * numL m' + (c.toNat - 48)) % 10 = c.toNat - 48 by omega, hcc]
theorem dec_back {m : List UInt8} (h : decOk m = true) : decDigits (numL m) = m := by
  unfold decOk at h
  simp only [Bool.and_eq_true] at h
  obtain ⟨⟨h1, h2⟩, h3⟩ := h
  refine dec_num m.length m rfl h3 (by rintro rfl; simp at h1) ?_
  simpa using h2

theorem parts_text {S m u : List UInt8} {neg mi : Bool} {d : Dy} (hP : Parts S neg m mi u) (h : partsD neg m mi u = (d, 0)) : textD d = S := by
  unfold partsD at h
  split at h
  · rename_i hok
    unfold partsOk at hok
    simp only [Bool.and_eq_true, Bool.not_eq_true', decide_eq_true_eq] at hok
    obtain ⟨⟨⟨⟨hm, hu⟩, _⟩, hz⟩, hodd⟩ := hok
    have hc : checkD neg (numL m) (expo mi u) = if vld ⟨neg, digs (numL m), expo mi u⟩ = true then (⟨neg, digs (numL m), expo mi u⟩, 0) else (zeroD, 9) := by
      have := check_odd (neg := neg) (l := digs (numL m)) (e := expo mi u) (limbs_digs _) (trim_digs _) (by rw [val_digs]; exact hodd)
      rwa [val_digs] at this
    rw [hc] at h
    split at h
    · have hd := (Prod.mk.inj h).1
      rw [← hd, hP.eq]
      unfold textD
      have hne : digs (numL m) ≠ [] := by rw [digs_pos _ (by omega)]; simp
      simp only [val_digs]
      rw [if_neg hne, dec_back hm]
      have hi : itoa (expo mi u) = (if mi then [45] else []) ++ u := by
        have hub := dec_back hu
        cases mi
        · unfold expo itoa
          simp
          exact hub
        · have hu0 : 0 < numL u := by
            rcases Nat.eq_zero_or_pos (numL u) with h0 | h0
            · exfalso
              rw [h0, dec_small (by omega)] at hub
              rw [← hub] at hz
              revert hz
              decide
            · exact h0
          unfold expo itoa
          have : (-(numL u : Int)) < 0 := by omega
          simp [hu0]
          exact hub
      rw [hi]
      simp
    · have := (Prod.mk.inj h).2; omega
  · have := (Prod.mk.inj h).2; omega

end Go.Proofs.YtekajoifgdpmlaaGreatDoor
