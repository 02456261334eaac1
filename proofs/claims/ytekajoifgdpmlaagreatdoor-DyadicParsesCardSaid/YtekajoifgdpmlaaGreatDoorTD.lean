/- TD: several texts in one. -/
import Derived.Test.YtekajoifgdpmlaaGreatDoorT17
import Derived.Test.YtekajoifgdpmlaaGreatDoorL2
/-! The reference's Parse at the other texts; every text is of one of four kinds. -/
namespace Go.Proofs.YtekajoifgdpmlaaGreatDoor
open Go.RowKit Pl Go.Shelf

set_option maxRecDepth 100000 in
set_option maxHeartbeats 1000000 in
theorem rparse_long (S : List UInt8) (w : World) (hl : 1250 < S.length) (hs : S.length ≤ 1000000) :
    Calls Tryz.prog 11 #[.string ⟨S.toArray⟩] w (RetX zeroD 3 (fun _ => True) w) := by
  have hS0 : ¬ S = [48] := by rintro rfl; simp at hl
  have hS1 : (S == [48]) = false := by simpa using hS0
  have hSn : ¬ S = [] := by rintro rfl; simp at hl
  have hS2 : (S == []) = false := by simpa using hSn
  have hS3 : S.isEmpty = false := by simpa using hSn
  go_enter Tryz.func11, Tryz.ntmps11
  go_wp2_with fail
  refine bodyPost_ret (resDE Tryz.results11 rfl (Blk.newAt _ _ _ rfl)) rfl ?_
  exact ⟨none, 0, 0, rfl, SL.nil _, (fun _ _ _ => Off.zero), ballo _ _⟩
set_option maxRecDepth 100000 in
set_option maxHeartbeats 1000000 in
theorem rparse_zero (w : World) :
    Calls Tryz.prog 11 #[.string ⟨#[48]⟩] w (RetX zeroD 0 (fun _ => True) w) := by
  go_enter Tryz.func11, Tryz.ntmps11
  go_wp2_with fail
  refine bodyPost_ret (resDE Tryz.results11 rfl (Blk.newAt _ _ _ rfl)) rfl ?_
  exact ⟨none, 0, 0, rfl, SL.nil _, (fun _ _ _ => Off.zero), ballo _ _⟩
set_option maxRecDepth 100000 in
set_option maxHeartbeats 1000000 in
theorem rparse_empty (w : World) :
    Calls Tryz.prog 11 #[.string ⟨#[]⟩] w (RetX zeroD 3 (fun _ => True) w) := by
  go_enter Tryz.func11, Tryz.ntmps11
  go_wp2_with fail
  refine bodyPost_ret (resDE Tryz.results11 rfl (Blk.newAt _ _ _ rfl)) rfl ?_
  exact ⟨none, 0, 0, rfl, SL.nil _, (fun _ _ _ => Off.zero), ballo _ _⟩

set_option maxRecDepth 100000 in
set_option maxHeartbeats 4000000 in
theorem rparse_nop {S : List UInt8} {neg : Bool} {T : List UInt8} (hP : NoP S neg T) (w : World) (hl : S.length ≤ 1250) (hS0 : ¬ S = [48]) :
    Calls Tryz.prog 11 #[.string ⟨S.toArray⟩] w (RetX zeroD 3 (fun _ => True) w) := by
  by_cases hSn : S = []
  · subst hSn
    exact rparse_empty w
  have heq := hP.eq
  have hTl : T.length ≤ 1250 := by rw [heq] at hl; simp at hl; omega
  have hS1 : (S == [48]) = false := by simpa using hS0
  have hS2 : (S == []) = false := by simpa using hSn
  have hS3 : S.isEmpty = false := by simpa using hSn
  have hSp : 0 < S.length := List.length_pos_iff.2 hSn
  have HNP := Lib.hid hP.nop
  have hbw := ballo w (.cells #[.bool false, .slice none 0 0, .int .i64 0] 25)
  have kz := Blk.new w 25 #[.bool false, .slice none 0 0, .int .i64 0]
  obtain ⟨c0, hc0⟩ : ∃ c0, S[0]? = some c0 := ⟨_, List.getElem?_eq_getElem hSp⟩
  have hsg : (neg = true ∧ c0 = 45 ∧ S = 45 :: T) ∨ (neg = false ∧ c0 ≠ 45 ∧ S = T) := by
    cases neg
    · have h2 : S = T := by simpa using heq
      refine .inr ⟨rfl, ?_, h2⟩
      rw [h2] at hc0
      intro h3
      rw [h3] at hc0
      exact hP.sgn rfl (by rw [List.head?_eq_getElem?]; exact hc0)
    · refine .inl ⟨rfl, ?_, by simpa using heq⟩
      have h2 : S = 45 :: T := by simpa using heq
      rw [h2] at hc0
      simpa using hc0.symm
  have hb0 := byte_of hc0
  clear heq hP hc0 hS0 hSn
  go_enter Tryz.func11, Tryz.ntmps11
  rcases hsg with ⟨rfl, rfl, hST⟩ | ⟨rfl, hc45, hST⟩
  case' inl =>
    subst hST
    have hx0 : (⟨(45 :: T).toArray⟩ : ByteArray).extract 1 (T.length + 1) = ⟨T.toArray⟩ := by rw [ext_mk]; simp
    simp only [List.length_cons] at hl
    go_wp2_with fail
  case' inr =>
    obtain rfl : T = S := hST.symm
    have hq1 : ¬ c0.toNat = 45 := fun h => hc45 (UInt8.toNat_inj.1 h)
    have hq2 : ¬ (c0.toNat : Int) = 45 := by omega
    have hq3 : ((c0.toNat : Int) == 45) = false := by simpa using hq2
    go_wp2_with fail
  all_goals
    clear hb0
    generalize w.alloc (.cells #[.bool false, .slice none 0 0, .int .i64 0] 25) = W0 at *
    go_loop [6] (fun i => ∃ k : Nat, k ≤ T.length ∧ i = .int .i64 k) (fun i => T.length - (intOf i).toNat)
    case atStart => exact ⟨0, by omega, rfl⟩
    case round =>
      obtain ⟨k, hk, rfl⟩ := hrel
      by_cases hlt : k < T.length
      · have hch := HNP.out T[k] (List.getElem_mem hlt)
        have hg : T[k]? = some T[k] := List.getElem?_eq_getElem hlt
        generalize T[k] = ch at *
        have hby := byte_of hg
        have hq1 : ¬ ch.toNat = 112 := fun h => hch (UInt8.toNat_inj.1 h)
        have hq2 : ¬ (ch.toNat : Int) = 112 := by omega
        have hq3 : ((ch.toNat : Int) != 112) = true := by simpa using hq2
        have hkT : decide ((k : Int) < (T.length : Int)) = true := by simp; omega
        clear hg
        go_wp2_with fail
        go_round
        case rel => exact ⟨k + 1, by omega, by go_num⟩
        case measure => simp [intOf]; omega
      · obtain rfl : k = T.length := by omega
        obtain ⟨z0, z1, z2⟩ := kz.cells3
        have f0 := kz.frozen 0
        have f1 := kz.frozen 1
        have f2 := kz.frozen 2
        go_wp2_with fail
        refine bodyPost_ret (resDE Tryz.results11 rfl (kz.set3 _ _ _)) rfl ?_
        exact ⟨none, 0, 0, rfl, SL.nil _, (fun _ _ _ => Off.zero), below_set3 hbw (Nat.le_refl _) _ _ _⟩

/-- A list is free of 'p', or it is parted at the first one. -/
theorem first_p (T : List UInt8) : (∀ c ∈ T, c ≠ 112) ∨ ∃ m R, T = m ++ 112 :: R ∧ ∀ c ∈ m, c ≠ 112 := by
  induction T with
  | nil => exact .inl (by simp)
  | cons c T ih =>
    by_cases hc : c = 112
    · subst hc
      exact .inr ⟨[], T, rfl, by simp⟩
    · rcases ih with h | ⟨m, R, rfl, h⟩
      · exact .inl (by simpa [hc] using h)
      · exact .inr ⟨c :: m, R, rfl, by simpa [hc] using h⟩
theorem cut_sign (S : List UInt8) : ∃ (neg : Bool) (T : List UInt8), S = (if neg then [45] else []) ++ T ∧ (neg = false → T.head? ≠ some 45) := by
  cases S with
  | nil => exact ⟨false, [], rfl, fun _ => by simp⟩
  | cons c T =>
    by_cases hc : c = 45
    · subst hc
      exact ⟨true, T, rfl, fun h => by cases h⟩
    · exact ⟨false, c :: T, rfl, fun _ => by simpa using hc⟩
theorem text_kinds (S : List UInt8) : (∃ neg T, NoP S neg T) ∨ ∃ neg m mi u, Parts S neg m mi u := by
  obtain ⟨neg, T, hS, hs⟩ := cut_sign S
  rcases first_p T with h | ⟨m, R, rfl, h⟩
  · exact .inl ⟨neg, T, hS, h, hs⟩
  · obtain ⟨mi, u, rfl, hu⟩ := cut_sign R
    exact .inr ⟨neg, m, mi, u, hS, h, hs, hu⟩
theorem limbs_nil : Limbs [] := by intro x hx; cases hx
theorem limbs_canon (neg : Bool) (v : Nat) (e : Int) : Limbs (canonD neg v e).l := by
  unfold canonD
  split
  · exact limbs_nil
  · exact limbs_digs _
theorem vld_check (neg : Bool) (v : Nat) (e : Int) : Limbs (checkD neg v e).1.l ∧ vld (checkD neg v e).1 = true ∧ ((checkD neg v e).2 = 0 ∨ (checkD neg v e).1 = zeroD) := by
  rw [← chk_canon]
  unfold chk
  split
  · rename_i h
    refine ⟨?_, h, .inl rfl⟩
    exact limbs_canon _ _ _
  · exact ⟨limbs_nil, vld_zero, .inr rfl⟩
/-- Both parse any text alike, and what is parsed has this text. -/
theorem parse_both (S : List UInt8) (hs : S.length ≤ 1300) : ∃ (d : Dy) (k : Int), (∀ W, Tabs W → Calls Tryz.prog 10 #[.string ⟨S.toArray⟩] W (RetE d k W)) ∧ (∀ W, Calls Tryz.prog 11 #[.string ⟨S.toArray⟩] W (RetX d k (fun _ => True) W)) ∧ Limbs d.l ∧ vld d = true ∧ (k = 0 ∧ textD d = S ∨ k = 3 ∨ k = 9) := by
  by_cases hl : 1250 < S.length
  · exact ⟨zeroD, 3, fun W _ => parse_long S W hl (by omega), fun W => rparse_long S W hl (by omega), limbs_nil, vld_zero, .inr (.inl rfl)⟩
  by_cases h0 : S = [48]
  · subst h0
    exact ⟨zeroD, 0, fun W _ => parse_zero W, fun W => rparse_zero W, limbs_nil, vld_zero, .inl ⟨rfl, rfl⟩⟩
  rcases text_kinds S with ⟨neg, T, h⟩ | ⟨neg, m, mi, u, h⟩
  · exact ⟨zeroD, 3, fun W _ => parse_nop h W (by omega) h0, fun W => rparse_nop h W (by omega) h0, limbs_nil, vld_zero, .inr (.inl rfl)⟩
  · refine ⟨(partsD neg m mi u).1, (partsD neg m mi u).2, fun W ht => parse_parts h W (by omega) ht, fun W => rparse_parts h W (by omega), ?_⟩
    have hk : (partsD neg m mi u).2 = 0 → textD (partsD neg m mi u).1 = S := fun e => parts_text h (by rw [← e])
    unfold partsD at hk ⊢
    split
    · rename_i hok
      rw [if_pos hok] at hk
      have hv := vld_check neg (numL m) (expo mi u)
      refine ⟨hv.1, hv.2.1, ?_⟩
      have h2 : (checkD neg (numL m) (expo mi u)).2 = 0 ∨ (checkD neg (numL m) (expo mi u)).2 = 9 := by
        unfold checkD
        split <;> simp
      rcases h2 with h2 | h2
      · exact .inl ⟨h2, hk h2⟩
      · exact .inr (.inr h2)
    · exact ⟨limbs_nil, vld_zero, .inr (.inl rfl)⟩

end Go.Proofs.YtekajoifgdpmlaaGreatDoor

/-! The law DyadicParses: its walk. -/
namespace Go.Proofs.YtekajoifgdpmlaaGreatDoor
open Go.RowKit Pl Go.Shelf

set_option maxRecDepth 100000 in
set_option maxHeartbeats 8000000 in
theorem lparses_any (s : ByteArray) (w : World) (hsz : s.size ≤ maxLen) (ht : Tabs w) (hten : Tens w) :
    Calls Tryz.prog 3 #[.string s] w fun e w' => e = .returned (.bool true) ∧ Below w.heap.size w w' := by
  obtain ⟨S, rfl⟩ : ∃ S : List UInt8, s = ⟨S.toArray⟩ := ⟨s.data.toList, by cases s; simp⟩
  have hS : S.length ≤ 9223372036854775807 := by simpa [maxLen, ByteArray.size] using hsz
  clear hsz
  have HN := Lib.hid hten
  clear hten
  have HT := Lib.hid ht
  clear ht
  go_enter Tryz.func3, Tryz.ntmps3
  go_wp2_with fail
  refine (awake_any _ HT.out).mono ?_
  rintro e w1 ⟨rfl, hbw⟩
  replace HT := Lib.hid (HT.out.next hbw)
  by_cases hl : 1300 < S.length
  · go_wp2_with fail
    refine (awake_any _ HT.out).mono ?_
    rintro e w2 ⟨rfl, hb2⟩
    replace hbw := bnext hbw hb2
    clear hb2
    go_wp2_with fail
    go_ret
    exact ⟨rfl, hbw⟩
  obtain ⟨⟨dn, dl, de⟩, k, hp, hr, hL, hv, hk⟩ := parse_both S (by omega)
  have HP := Lib.hid hp
  have HR := Lib.hid hr
  have HV := Lib.hid hv
  have HK := Lib.hid hk
  clear hp hr hv hk
  go_wp2_with fail
  refine (HP.out _ HT.out).mono ?_
  rintro e w2 ⟨dA, ds, dc, rfl, hsd, hfd, hbd⟩
  dsimp only at hsd
  clear hfd
  have hbd2 := bnext hbd (ballo w2 (.cells #[.bool dn, .slice dA ds dc, .int .i64 de] 25))
  have vd := Var.new w2 dn de hsd
  replace hbw := bnext hbw hbd2
  replace HT := Lib.hid (HT.out.next hbd2)
  clear hbd hbd2 hsd
  go_wp2_with fail
  generalize w2.alloc (.cells #[.bool dn, .slice dA ds dc, .int .i64 de] 25) = W2 at *
  generalize w2.heap.size = gd at *
  refine (HR.out _).mono ?_
  rintro e w3 ⟨xA, xs, xc, rfl, hsx, -, hbx⟩
  dsimp only at hsx
  have hbx2 := bnext hbx (ballo w3 (.cells #[.bool dn, .slice xA xs xc, .int .i64 de] 25))
  have vx := Var.new w3 dn de hsx
  replace vd := vd.next hbx2
  replace hbw := bnext hbw hbx2
  replace HT := Lib.hid (HT.out.next hbx2)
  clear hbx hbx2 hsx
  obtain ⟨dq0, dq1, dq2⟩ := vd.cells
  go_wp2_with fail
  generalize w3.alloc (.cells #[.bool dn, .slice xA xs xc, .int .i64 de] 25) = W3 at *
  generalize w3.heap.size = gx at *
  refine (is_same dn dA xA ds dc xs xc dl de k _ vd.sl vx.sl).mono ?_
  rintro e w4 ⟨rfl, hb4⟩
  clear dq0 dq1 dq2
  replace vd := vd.next hb4
  replace hbw := bnext hbw hb4
  clear hb4 vx
  obtain ⟨dq0, dq1, dq2⟩ := vd.cells
  go_wp2_with fail
  refine (dtext_ok dn dA ds dc dl de _ vd.sl HV.out (HN.out.next hbw)).mono ?_
  rintro e w5 ⟨rfl, hb5⟩
  clear dq0 dq1 dq2
  replace hbw := bnext hbw hb5
  clear hb5 vd
  rcases HK.out with ⟨rfl, hk⟩ | rfl | rfl
  · rw [hk]
    clear hk HK
    go_wp2_with fail
    go_ret
    exact ⟨rfl, hbw⟩
  all_goals
    clear HK
    go_wp2_with fail
    go_ret
    exact ⟨rfl, hbw⟩

end Go.Proofs.YtekajoifgdpmlaaGreatDoor
