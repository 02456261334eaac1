/- The reference's Parse at a text in parts: what the call computes. (Printed by gen_t17.py.) -/
import Derived.Test.YtekajoifgdpmlaaGreatDoorT16
namespace Go.Proofs.YtekajoifgdpmlaaGreatDoor
open Go.RowKit Pl Go.Shelf

theorem get_at_append {a b : List UInt8} {c : UInt8} (h : ∀ x ∈ a, x ≠ 112) (k : Nat) (hk : k < a.length) : ∃ ch, ch ≠ 112 ∧ a[k]? = some ch ∧ (a ++ c :: b)[k]? = some ch := by
  refine ⟨a[k], h _ (List.getElem_mem hk), List.getElem?_eq_getElem hk, ?_⟩
  rw [List.getElem?_append_left hk, List.getElem?_eq_getElem hk]
theorem byte_of {s : List UInt8} {k : Nat} {c : UInt8} (h : s[k]? = some c) : ∀ hh, (⟨s.toArray⟩ : ByteArray)[k]'hh = c := fun hh => by
  obtain ⟨h1, h2⟩ := List.getElem?_eq_some_iff.1 h
  exact h2
theorem wrap_dig {q : Nat} (h : q ≤ 9) : IntKind.u32.wrap (IntKind.u8.wrap (q : Int)) = (q : Int) := by
  simp [IntKind.wrap, IntKind.bits, IntKind.signed]
  omega

set_option maxRecDepth 100000 in
set_option maxHeartbeats 8000000 in
theorem rparse_parts {S : List UInt8} {neg : Bool} {m : List UInt8} {mi : Bool} {u : List UInt8} (hP : Parts S neg m mi u) (w : World) (hl : S.length ≤ 1250) :
    Calls Tryz.prog 11 #[.string ⟨S.toArray⟩] w (RetX (partsD neg m mi u).1 (partsD neg m mi u).2 (fun _ => True) w) := by
  obtain ⟨R, hR⟩ : ∃ R, R = (if mi then [45] else []) ++ u := ⟨_, rfl⟩
  obtain ⟨T, hT⟩ : ∃ T, T = m ++ 112 :: R := ⟨_, rfl⟩
  have heq := hP.eq
  rw [← hR, ← hT] at heq
  have hTl : T.length ≤ 1250 := by rw [heq] at hl; simp at hl; omega
  have hml : m.length + R.length + 1 = T.length := by rw [hT]; simp; omega
  have hul : u.length ≤ R.length := by rw [hR]; simp
  have hS0 : ¬ S = [48] := by
    intro h
    have h1 : (112 : UInt8) ∈ S := by rw [heq, hT]; simp
    rw [h] at h1
    simp at h1
  have hS1 : (S == [48]) = false := by simpa using hS0
  have hSn : ¬ S = [] := by
    intro h
    have h1 : (112 : UInt8) ∈ S := by rw [heq, hT]; simp
    rw [h] at h1
    simp at h1
  have hS2 : (S == []) = false := by simpa using hSn
  have hS3 : S.isEmpty = false := by simpa using hSn
  have HSn := Lib.hid hSn
  have hSp : 0 < S.length := List.length_pos_iff.2 hSn
  have HG := Lib.hid (fun k hk => get_at_append (c := 112) (b := R) hP.nop k hk)
  have HTm : Hid (T[m.length]? = some 112) := by unfold Hid; rw [hT]; simp
  have hx1 : (⟨T.toArray⟩ : ByteArray).extract 0 m.length = ⟨m.toArray⟩ := by rw [ext_mk, hT]; simp
  have hx2 : (⟨T.toArray⟩ : ByteArray).extract (m.length + 1) T.length = ⟨R.toArray⟩ := by
    rw [ext_mk, List.take_of_length_le (Nat.le_refl _), hT, show m ++ 112 :: R = (m ++ [112]) ++ R by simp, List.drop_left' (by simp)]
  have HR := Lib.hid hR
  have HTT := Lib.hid hT
  have HE : Hid (partsD neg m mi u = if partsOk m mi u = true then checkD neg (numL m) (expo mi u) else (zeroD, 3)) := rfl
  obtain ⟨V, hV⟩ : ∃ V, V = checkD neg (numL m) (expo mi u) := ⟨_, rfl⟩
  rw [← hV] at HE
  have HVV := Lib.hid hV
  clear hV
  generalize partsD neg m mi u = X at *
  have hbw := ballo w (.cells #[.bool false, .slice none 0 0, .int .i64 0] 25)
  have kz := Blk.new w 25 #[.bool false, .slice none 0 0, .int .i64 0]
  obtain ⟨c0, hc0⟩ : ∃ c0, S[0]? = some c0 := ⟨_, List.getElem?_eq_getElem hSp⟩
  have hsg : (neg = true ∧ c0 = 45 ∧ S = 45 :: T) ∨ (neg = false ∧ c0 ≠ 45 ∧ S = T) := by
    cases neg
    · refine .inr ⟨rfl, ?_, by simpa using heq⟩
      have h1 := hP.sgn rfl
      rw [← hR, ← hT] at h1
      have h2 : S = T := by simpa using heq
      rw [h2] at hc0
      intro h3
      rw [h3] at hc0
      exact h1 (by rw [List.head?_eq_getElem?]; exact hc0)
    · refine .inl ⟨rfl, ?_, by simpa using heq⟩
      have h2 : S = 45 :: T := by simpa using heq
      rw [h2] at hc0
      simpa using hc0.symm
  have hb0 := byte_of hc0
  have HML := Lib.hid hml
  have HSG := Lib.hid hP.sgn'
  have hmT : m.length + 1 ≤ T.length := by omega
  have hRT : R.length ≤ 1250 := by omega
  clear heq hR hT hP hc0 hS0 hSn hml
  have hcb : ((c0.toNat : Int) == 45) = neg := by
    rcases hsg with ⟨rfl, rfl, _⟩ | ⟨rfl, h, _⟩
    · rfl
    · have : ¬ c0.toNat = 45 := fun h2 => h (UInt8.toNat_inj.1 h2)
      simp; omega
  have HSGN := Lib.hid hsg
  clear hsg
  go_enter Tryz.func11, Tryz.ntmps11
  go_upto_if 28 with fail
  go_cut [0] (fun s0 wx => s0 = .string ⟨T.toArray⟩ ∧ wx = w.alloc (.cells #[.bool false, .slice none 0 0, .int .i64 0] 25))
  case first =>
    rcases HSGN.out with ⟨rfl, rfl, hST⟩ | ⟨rfl, -, hST⟩
    · have hx0 : (⟨S.toArray⟩ : ByteArray).extract 1 S.length = ⟨T.toArray⟩ := by rw [ext_mk, hST]; simp
      clear hST HSGN
      go_wp2_with fail
      go_meet
      exact ⟨rfl, rfl⟩
    · obtain rfl : T = S := hST.symm
      go_wp2_with fail
      go_meet
      exact ⟨rfl, rfl⟩
  case rest =>
    obtain ⟨rfl, rfl⟩ := hcut
    clear hb0 hcb HSGN hS1 hS2 hS3 hSp
    generalize w.alloc (.cells #[.bool false, .slice none 0 0, .int .i64 0] 25) = W0 at *
    go_wp2_with fail
    go_loop [6] (fun i => ∃ k : Nat, k ≤ m.length ∧ i = .int .i64 k) (fun i => T.length - (intOf i).toNat)
    case atStart => exact ⟨0, by omega, rfl⟩
    case round =>
      obtain ⟨k, hk, rfl⟩ := hrel
      by_cases hlt : k < m.length
      · obtain ⟨ch, hch, -, hg⟩ := HG.out k hlt
        rw [← HTT.out] at hg
        have hby := byte_of hg
        have hq1 : ¬ ch.toNat = 112 := fun h => hch (UInt8.toNat_inj.1 h)
        have hq2 : ¬ (ch.toNat : Int) = 112 := by omega
        have hq3 : ((ch.toNat : Int) != 112) = true := by simpa using hq2
        have hkT : decide ((k : Int) < (T.length : Int)) = true := by simp; omega
        clear hg
        go_wp2_with fail
        go_round
        case rel => exact ⟨k + 1, by omega, by go_num⟩
        case measure => simp [intOf]; omega
      · obtain rfl : k = m.length := by omega
        have hby := byte_of HTm.out
        have h112 : ((112 : UInt8).toNat : Int) = 112 := rfl
        have hkT : decide ((m.length : Int) < (T.length : Int)) = true := by simp; omega
        have hne : ((m.length : Int) == (T.length : Int)) = false := by simp; omega
        go_wp2_with fail
        refine (rdigits_any m _ (by omega)).mono ?_
        rintro e w' ⟨rfl, rfl⟩
        cases hm : decOk m
        · have HX : Hid (X = (zeroD, 3)) := by unfold Hid; rw [HE.out, if_neg]; unfold partsOk; rw [hm]; simp
          obtain ⟨z0, z1, z2⟩ := kz.cells3
          have f0 := kz.frozen 0
          have f1 := kz.frozen 1
          have f2 := kz.frozen 2
          go_wp2_with fail
          refine bodyPost_ret (resDE Tryz.results11 rfl (kz.set3 _ _ _)) rfl ?_
          rw [HX.out]
          exact ⟨none, 0, 0, rfl, SL.nil _, (fun _ _ _ => Off.zero), below_set3 hbw (Nat.le_refl _) _ _ _⟩
        have HM := Lib.hid hm
        clear hm
        obtain ⟨m', c, hm1, hc1, hc2, hpar, hall, hmne⟩ := last_dig HM.out
        have hmp : 0 < m.length := List.length_pos_iff.2 hmne
        have hTc : T[m.length - 1]? = some c := by
          rw [HTT.out, List.getElem?_append_left (by omega), hm1]
          simp
        have hby2 := byte_of hTc
        obtain ⟨y, hy⟩ : ∃ y, c.toNat = y + 48 := ⟨c.toNat - 48, by omega⟩
        have hy9 : y ≤ 9 := by omega
        rw [hy, show y + 48 - 48 = y by omega] at hpar
        have HPAR := Lib.hid hpar
        have hcn : (c.toNat : Int) = (y : Int) + 48 := by omega
        have HALL := Lib.hid hall
        clear hpar hall hmne hm1 hy hc1 hc2 hTc
        by_cases hy2 : y % 2 = 0
        · have HX : Hid (X = (zeroD, 3)) := by unfold Hid; rw [HE.out, if_neg]; unfold partsOk; rw [HPAR.out, hy2]; simp
          have hy3 : ((y : Int) % 2 == 0) = true := by simp; omega
          have hy4 : (y : Int) % 2 = 0 := by omega
          obtain ⟨z0, z1, z2⟩ := kz.cells3
          have f0 := kz.frozen 0
          have f1 := kz.frozen 1
          have f2 := kz.frozen 2
          go_wp2_with fail
          refine bodyPost_ret (resDE Tryz.results11 rfl (kz.set3 _ _ _)) rfl ?_
          rw [HX.out]
          exact ⟨none, 0, 0, rfl, SL.nil _, (fun _ _ _ => Off.zero), below_set3 hbw (Nat.le_refl _) _ _ _⟩
        have hy3 : ((y : Int) % 2 == 0) = false := by simp; omega
        have hw1 : (m.length : Int) + 1 ≤ (T.length : Int) := by omega
        have hRc : (mi = true ∧ R = 45 :: u) ∨ (mi = false ∧ R = u ∧ u = []) ∨ (mi = false ∧ R = u ∧ ∃ c1 t1, u = c1 :: t1 ∧ c1 ≠ 45) := by
          have h1 := HR.out
          cases mi
          · cases hu : u with
            | nil => exact .inr (.inl ⟨rfl, by rw [h1, hu]; rfl, rfl⟩)
            | cons c1 t1 => exact .inr (.inr ⟨rfl, by rw [h1, hu]; rfl, c1, t1, rfl, fun e => HSG.out rfl (by rw [hu, e]; rfl)⟩)
          · exact .inl ⟨rfl, by simpa using h1⟩
        have HRC := Lib.hid hRc
        clear hRc
        go_upto_region 15 with fail
        go_cut [8] (fun s8 wx => s8 = .bool mi ∧ wx = W0)
        case first =>
          rcases HRC.out with ⟨rfl, hRe⟩ | ⟨rfl, hRe, hue⟩ | ⟨rfl, hRe, c1, t1, hu1, hc1⟩
          · have hbR : ∀ h, (⟨R.toArray⟩ : ByteArray)[0]'h = 45 := byte_of (by rw [hRe]; rfl)
            have hup : 0 < R.length := by rw [hRe]; simp
            have hun : ¬ R = [] := by rw [hRe]; simp
            have huu : (R != []) = true := by rw [hRe]; rfl
            have HRE : Hid (R.isEmpty = false) := by unfold Hid; rw [hRe]; rfl
            clear hRe
            go_wp2_with fail
            go_meet
            exact ⟨by first | rfl | (rw [HRE.out]; rfl), rfl⟩
          · have hun : R = [] := by rw [hRe, hue]
            have huu : (R != []) = false := by rw [hun]; rfl
            clear hRe hue
            subst hun
            go_wp2_with fail
            go_meet
            exact ⟨rfl, rfl⟩
          · have hbR : ∀ h, (⟨R.toArray⟩ : ByteArray)[0]'h = c1 := byte_of (by rw [hRe, hu1]; rfl)
            have hup : 0 < R.length := by rw [hRe, hu1]; simp
            have hun : ¬ R = [] := by rw [hRe, hu1]; simp
            have huu : (R != []) = true := by rw [hRe, hu1]; rfl
            have hr1 : ¬ c1.toNat = 45 := fun h => hc1 (UInt8.toNat_inj.1 h)
            have hr2 : ¬ (c1.toNat : Int) = 45 := by omega
            have hr3 : ((c1.toNat : Int) == 45) = false := by simpa using hr2
            clear hRe hu1
            go_wp2_with fail
            go_meet
            exact ⟨rfl, rfl⟩
        case rest =>
          obtain ⟨rfl, rfl⟩ := hcut
          go_upto_if 76 with fail
          go_cut [7] (fun s7 wx => s7 = .string ⟨u.toArray⟩ ∧ wx = wc)
          case first =>
            have hx3 : mi = true → (⟨R.toArray⟩ : ByteArray).extract 1 R.length = ⟨u.toArray⟩ := fun h => by
              have h1 := HR.out
              rw [h] at h1
              rw [ext_mk, h1]
              simp
            have hRu : mi = false → R = u := fun h => by have h1 := HR.out; rw [h] at h1; simpa using h1
            have hup : mi = true → 0 < R.length := fun h => by have h1 := HR.out; rw [h] at h1; rw [h1]; simp
            cases mi
            · replace hRu := hRu rfl
              clear hx3 hup
              obtain rfl : u = R := hRu.symm
              go_wp2_with fail
              go_meet
              exact ⟨rfl, rfl⟩
            · replace hx3 := hx3 rfl
              replace hup := hup rfl
              clear hRu
              go_wp2_with fail
              go_meet
              exact ⟨rfl, rfl⟩
          case rest =>
            obtain ⟨rfl, rfl⟩ := hcut
            go_upto_region 18 with fail
            go_cut [93] (fun s93 wx => s93 = .bool (!(decOk u && decide (u.length ≤ 6) && !(mi && decide (u = [48])))) ∧ wx = wc)
            case first =>
              go_wp2_with fail
              refine (rdigits_any u _ (by omega)).mono ?_
              rintro e w' ⟨rfl, rfl⟩
              cases hu : decOk u
              · have HU0 := Lib.hid hu
                go_wp2_with fail
                go_meet
                exact ⟨by first | rfl | (rw [HU0.out]; rfl), rfl⟩
              have HU0 := Lib.hid hu
              by_cases h6 : 6 < u.length
              · have hd6 : decide (u.length ≤ 6) = false := decide_eq_false (by omega)
                have HD := Lib.hid hd6
                clear hd6
                have H6I : Hid (decide (6 < (u.length : Int)) = true) := decide_eq_true (by omega)
                go_wp2_with fail
                go_meet
                exact ⟨by (try rw [H6I.out]); rw [HD.out, HU0.out]; rfl, rfl⟩
              have HD := Lib.hid (decide_eq_true (show u.length ≤ 6 by omega))
              have H6I : Hid (decide (6 < (u.length : Int)) = false) := decide_eq_false (by omega)
              by_cases h48 : u = [48]
              · have HD2 := Lib.hid (decide_eq_true h48)
                have h49 : (u == [48]) = true := by simpa using h48
                clear h48
                cases mi
                · go_wp2_with fail
                  go_meet
                  exact ⟨by (try rw [H6I.out]); rw [HD.out, HU0.out]; rfl, rfl⟩
                · go_wp2_with fail
                  go_meet
                  exact ⟨by (try rw [H6I.out]); rw [HD.out, HD2.out, HU0.out]; rfl, rfl⟩
              · have HD2 := Lib.hid (decide_eq_false h48)
                have h49 : (u == [48]) = false := by simpa using h48
                clear h48
                cases mi
                · go_wp2_with fail
                  go_meet
                  exact ⟨by (try rw [H6I.out]); rw [HD.out, HU0.out]; rfl, rfl⟩
                · go_wp2_with fail
                  go_meet
                  exact ⟨by (try rw [H6I.out]); rw [HD.out, HD2.out, HU0.out]; rfl, rfl⟩
            case rest =>
              obtain ⟨hbv, rfl⟩ := hcut
              cases hbad : decOk u && decide (u.length ≤ 6) && !(mi && decide (u = [48]))
              · rw [hbad] at hbv
                have HBAD := Lib.hid hbad
                clear hbad
                subst hbv
                have HX : Hid (X = (zeroD, 3)) := by
                  unfold Hid; rw [HE.out, if_neg]; unfold partsOk
                  rw [Bool.and_assoc (decOk m), Bool.and_assoc (decOk m), Bool.and_assoc (decOk m), HBAD.out]
                  simp
                obtain ⟨z0, z1, z2⟩ := kz.cells3
                have f0 := kz.frozen 0
                have f1 := kz.frozen 1
                have f2 := kz.frozen 2
                go_wp2_with fail
                refine bodyPost_ret (resDE Tryz.results11 rfl (kz.set3 _ _ _)) rfl ?_
                rw [HX.out]
                exact ⟨none, 0, 0, rfl, SL.nil _, (fun _ _ _ => Off.zero), below_set3 hbw (Nat.le_refl _) _ _ _⟩
              · rw [hbad] at hbv
                have HXX : Hid (X = V) := by
                  unfold Hid; rw [HE.out, if_pos]; unfold partsOk
                  rw [Bool.and_assoc (decOk m), Bool.and_assoc (decOk m), Bool.and_assoc (decOk m), hbad, HM.out, HPAR.out, show y % 2 = 1 by omega]
                  rfl
                simp only [Bool.and_eq_true, decide_eq_true_eq] at hbad
                have HU := Lib.hid hbad.1.1
                have h6 : u.length ≤ 6 := hbad.1.2
                clear hbad
                subst hbv
                obtain ⟨u1, u2, u3, u4, u5, u6, huall, hune⟩ := last_dig HU.out
                clear u3 u4 u5 u6
                have hub : ∀ x ∈ u, 48 ≤ x.toNat ∧ x.toNat ≤ 57 := by
                  rw [List.all_eq_true] at huall
                  intro x hx
                  simpa [isDig] using huall x hx
                have HUB := Lib.hid hub
                have HLT := Lib.hid (numL_lt u (fun x hx => (hub x hx).2))
                clear hub huall hune HE u1 u2
                go_wp2_with fail
                go_loop [9, 10] (fun v i => ∃ k x : Nat, k ≤ u.length ∧ i = .int .i64 k ∧ v = .int .i64 (x : Int) ∧ x < 10 ^ k ∧ Hid (x = numL (u.take k))) (fun _ i => u.length - (intOf i).toNat)
                case atStart => exact ⟨0, 0, by omega, rfl, rfl, by simp, rfl⟩
                case round =>
                  obtain ⟨k, x, hk, rfl, rfl, hx, HX⟩ := hrel
                  have hp6 : 10 ^ k ≤ 10 ^ 6 := Nat.pow_le_pow_right (by omega) (by omega)
                  have hx6 : x ≤ 1000000 := by omega
                  by_cases hlt : k < u.length
                  · have hdg := HUB.out u[k] (List.getElem_mem hlt)
                    have HN := Lib.hid (numL_take u k hlt)
                    have hx2 := HLT.out (k + 1) (by omega)
                    rw [HN.out, ← HX.out] at hx2
                    obtain ⟨ch, hsk⟩ : ∃ ch, u[k] = ch := ⟨_, rfl⟩
                    have hby3 : ∀ h, (⟨u.toArray⟩ : ByteArray)[k]'h = ch := fun _ => hsk
                    rw [hsk] at hdg hx2
                    obtain ⟨q, hq⟩ : ∃ q, ch.toNat = q + 48 := ⟨ch.toNat - 48, by omega⟩
                    have hq9 : q ≤ 9 := by omega
                    have HN2 : Hid (10 * x + q = numL (u.take (k + 1))) := by unfold Hid; rw [HN.out, ← HX.out, hsk, hq]; omega
                    rw [hq, show q + 48 - 48 = q by omega] at hx2
                    have hqi : (ch.toNat : Int) = (q : Int) + 48 := by omega
                    clear hdg HN hq hp6 hsk
                    go_wp2_with fail
                    go_round
                    case rel => exact ⟨k + 1, 10 * x + q, by omega, by go_num, by first | rfl | (congr 1; omega), hx2, HN2⟩
                    case measure => simp [intOf]; omega
                  · obtain rfl : k = u.length := by omega
                    have HE1 := HX.out
                    rw [List.take_of_length_le (Nat.le_refl _)] at HE1
                    obtain ⟨ex, hex⟩ : ∃ ex, ex = expo mi u := ⟨_, rfl⟩
                    have hex2 : (mi = false → (x : Int) = ex) ∧ (mi = true → -(x : Int) = ex) := by
                      unfold expo at hex
                      constructor
                      · intro h; rw [hex, h, HE1]; rfl
                      · intro h; rw [hex, h, HE1]; rfl
                    have HEX2 := Lib.hid hex2
                    have HVV2 : Hid (V = checkD neg (numL m) ex) := by unfold Hid; rw [hex]; exact HVV.out
                    clear HE1 hp6 hx HX hex hex2 HVV
                    go_upto_if 110 with fail
                    go_cut [9] (fun s9 wx => s9 = .int .i64 ex ∧ wx = wc)
                    case first =>
                      cases mi
                      · have hxe := HEX2.out.1 rfl
                        go_wp2_with fail
                        go_meet
                        exact ⟨by first | rfl | (rw [hxe]) | (congr 1), rfl⟩
                      · have hxe := HEX2.out.2 rfl
                        have HXE := Lib.hid hxe
                        clear hxe
                        go_wp2_with fail
                        go_meet
                        exact ⟨by first | rfl | (congr 1; done) | (congr 1; have := HXE.out; omega), rfl⟩
                    case rest =>
                      obtain ⟨rfl, rfl⟩ := hcut
                      go_wp2_with fail
                      go_loopw [11, 12] (fun v i wr => ∃ (k : Nat) (A : Option Addr) (n c : Nat), k ≤ m.length ∧ i = .int .i64 k ∧ v = .slice A n c ∧ SL wr A n c (digs (numL (m.take k))) ∧ Hid (∀ g, g ≤ w.heap.size → Off A n g) ∧ Below wc.heap.size wc wr) (fun _ i _ => m.length - (intOf i).toNat)
                      case atStart => exact ⟨0, none, 0, 0, by omega, rfl, rfl, SL.nil _, fun _ _ => Off.zero, Below.refl _ _⟩
                      case round =>
                        obtain ⟨k, A, n, c, hk, rfl, rfl, hs, HO, hbW⟩ := hrel
                        by_cases hlt : k < m.length
                        · have hdm : ∀ x ∈ m, 48 ≤ x.toNat ∧ x.toNat ≤ 57 := by
                            have h := HALL.out
                            rw [List.all_eq_true] at h
                            intro x hx
                            simpa [isDig] using h x hx
                          have hln := numL_lt m (fun x hx => (hdm x hx).2) k (by omega)
                          have hln2 := numL_lt m (fun x hx => (hdm x hx).2) (k + 1) (by omega)
                          have hdg := hdm m[k] (List.getElem_mem hlt)
                          have hnt := numL_take m k hlt
                          obtain ⟨ch, -, hg1, hg2⟩ := HG.out k hlt
                          rw [← HTT.out] at hg2
                          rw [List.getElem?_eq_getElem hlt] at hg1
                          have hmk : m[k] = ch := by injection hg1
                          rw [hmk] at hdg hnt
                          obtain ⟨q, hq⟩ : ∃ q, ch.toNat = q + 48 := ⟨ch.toNat - 48, by omega⟩
                          have hq9 : q ≤ 9 := by omega
                          rw [hq, show q + 48 - 48 = q by omega] at hnt
                          have hby4 := byte_of hg2
                          have hqi : (ch.toNat : Int) = (q : Int) + 48 := by omega
                          have hn : n ≤ 2000 := by rw [← hs.len]; exact Nat.le_trans (digs_ten hln) (by omega)
                          rw [hnt] at hln2
                          obtain ⟨x3, hx3⟩ : ∃ x3, x3 = numL (m.take k) := ⟨_, rfl⟩
                          rw [← hx3] at hs hnt hln2
                          have HN2 : Hid ((digs (x3 * 10)).length ≤ 2000) := Nat.le_trans (digs_ten (j := k + 1) (by omega)) (by omega)
                          have HN9 : Hid ((digs q).length ≤ 2000) := Nat.le_trans (digs_ten (j := 1) (by omega)) (by omega)
                          have HNT : Hid (x3 * 10 + q = numL (m.take (k + 1))) := by unfold Hid; omega
                          have hwl : w.heap.size < wr.heap.size := Nat.lt_of_lt_of_le kz.lt hbW.size
                          have HOF : Hid (∀ (A' : Option Addr) (n' B : Nat), Fresh B A' n' → wr.heap.size ≤ B → ∀ g, g ≤ w.heap.size → Off A' n' g) := fun A' n' B hf hB g hg => Off.fresh hf (by omega)
                          have hkT : k < T.length := by omega
                          have hkT2 : (k : Int) < (T.length : Int) := by omega
                          have HWQ : Hid (IntKind.u32.wrap (IntKind.u8.wrap (q : Int)) = (q : Int)) := by
                            exact wrap_dig hq9
                          clear hdm hln hln2 hdg hnt hg1 hg2 hmk hq hx3
                          have HK : Hid (∀ V, Below wr.heap.size wr V → (fun V => Below wr.heap.size wr V) V) := fun V hV => hV
                          go_wp2_with fail
                          have hB : Below wr.heap.size wr wr.drew := below_drewN (Below.refl _ _) 1
                          refine wp_region_held_drew (S := (fun V => Below wr.heap.size wr V)) (by kernel_rfl) (HK.out _ hB) (fun hH => ?_)
                          refine wpAnyH_take (i := 0) (oi := ⟨_, _, _, _, _, _⟩) (v := ?_) rfl (by kernel_rfl) (by kernel_rfl) (by kernel_rfl) (fun _ _ _ h => h) (Or.inl ⟨by rfl, ?_⟩) hH ?_
                          rotate_left
                          · (intro w hSw; (try dsimp only at hSw); go_simp; try (with_reducible rfl))
                          simp only [Act.put, List.setIfInBounds_toArray, List.set_cons_zero, List.set_cons_succ]
                          refine wpAnyH_take (i := 3) (oi := ⟨_, _, _, _, _, _⟩) (v := ?_) rfl (by kernel_rfl) (by kernel_rfl) (by kernel_rfl) (fun _ _ _ h => h) (Or.inl ⟨by rfl, ?_⟩) hH ?_
                          rotate_left
                          · (intro w hSw; (try dsimp only at hSw); go_simp; try (with_reducible rfl))
                          simp only [Act.put, List.setIfInBounds_toArray, List.set_cons_zero, List.set_cons_succ]
                          refine wpAnyH_take (i := 4) (oi := ⟨_, _, _, _, _, _⟩) (v := ?_) rfl (by kernel_rfl) (by kernel_rfl) (by kernel_rfl) (fun _ _ _ h => h) (Or.inl ⟨by rfl, ?_⟩) hH ?_
                          rotate_left
                          · (intro w hSw; (try dsimp only at hSw); go_simp; try (with_reducible rfl))
                          simp only [Act.put, List.setIfInBounds_toArray, List.set_cons_zero, List.set_cons_succ]
                          refine wpAnyH_take (i := 5) (oi := ⟨_, _, _, _, _, _⟩) (v := ?_) rfl (by kernel_rfl) (by kernel_rfl) (by kernel_rfl) (fun _ _ _ h => h) (Or.inl ⟨by rfl, ?_⟩) hH ?_
                          rotate_left
                          · (intro w hSw; (try dsimp only at hSw); go_simp; try (with_reducible rfl))
                          simp only [Act.put, List.setIfInBounds_toArray, List.set_cons_zero, List.set_cons_succ]
                          refine wpAnyH_take (i := 6) (oi := ⟨_, _, _, _, _, _⟩) (v := ?_) rfl (by kernel_rfl) (by kernel_rfl) (by kernel_rfl) (fun _ _ _ h => h) (Or.inl ⟨by rfl, ?_⟩) hH ?_
                          rotate_left
                          · (intro w hSw; (try dsimp only at hSw); go_simp; try (with_reducible rfl))
                          simp only [Act.put, List.setIfInBounds_toArray, List.set_cons_zero, List.set_cons_succ]
                          refine wpAnyH_take (i := 7) (oi := ⟨_, _, _, _, _, _⟩) (v := ?_) rfl (by kernel_rfl) (by kernel_rfl) (by kernel_rfl) (fun _ _ _ h => h) (Or.inl ⟨by rfl, ?_⟩) hH ?_
                          rotate_left
                          · (intro w hSw; (try dsimp only at hSw); go_simp; try (with_reducible rfl))
                          simp only [Act.put, List.setIfInBounds_toArray, List.set_cons_zero, List.set_cons_succ]
                          generalize wr.drew = V0 at *
                          rw [HWQ.out]
                          refine wpAnyH_ready (rs := [1, 8]) (by kernel_rfl) (by simp) ?_
                          refine AllReadyH.cons (o := ⟨_, _, _, _, _, _⟩) rfl (fun K hK => ?_) ?_
                          · go_simp
                            have hbz := ballo V0 (.cells #[(.int .u32 10)] 60)
                            have s1 := SL.oneAt V0 60 10 10 V0.heap.size rfl (by omega) rfl
                            replace hB := bnext hB hbz
                            clear hbz
                            generalize V0.alloc (.cells #[(.int .u32 10)] 60) = V1 at *
                            generalize some (⟨V0.heap.size, 0, none⟩ : Addr) = g1 at *
                            refine hK.out _ _ (HK.out _ hB) (fun hH => ?_)
                            clear hK K
                            refine wpAnyH_ready (rs := [2, 8]) (by kernel_rfl) (by simp) ?_
                            refine AllReadyH.cons (o := ⟨_, _, _, _, _, _⟩) rfl (fun K hK => ?_) ?_
                            · go_simp
                              refine (rtimes_any A g1 n c 1 1 _ [10] _ (hs.below hB) s1 (by omega) (by omega)).mono ?_
                              rw [val_digs, val_single]
                              rintro e V2 ⟨A2, n2, c2, rfl, s2, f2, hc⟩
                              replace s1 := s1.below hc
                              have hn2 : n2 ≤ 2000 := by rw [← s2.len]; exact HN2.out
                              go_wp2_with fail
                              replace hB := bnext hB hc
                              clear hc
                              refine hK.out _ _ (HK.out _ hB) (fun hH => ?_)
                              clear hK K
                              refine wpAnyH_ready (rs := [8]) (by kernel_rfl) (by simp) ?_
                              refine AllReadyH.cons (o := ⟨_, _, _, _, _, _⟩) rfl (fun K hK => ?_) AllReadyH.nil
                              go_simp
                              have hbz := ballo V2 (.cells #[(.int .u32 (q : Int))] 60)
                              replace s1 := s1.below hbz
                              replace s2 := s2.below hbz
                              have s8 := SL.oneAt V2 60 (q : Int) q V2.heap.size rfl (by omega) rfl
                              replace hB := bnext hB hbz
                              clear hbz
                              generalize V2.alloc (.cells #[(.int .u32 (q : Int))] 60) = V3 at *
                              generalize some (⟨V2.heap.size, 0, none⟩ : Addr) = g8 at *
                              refine hK.out _ _ (HK.out _ hB) (fun hH => ?_)
                              clear hK K
                              refine wpAnyH_ready (rs := [9]) (by kernel_rfl) (by simp) ?_
                              refine AllReadyH.cons (o := ⟨_, _, _, _, _, _⟩) rfl (fun K hK => ?_) AllReadyH.nil
                              go_simp
                              refine (rtrim_any g8 1 1 [q] _ s8 (by omega)).mono ?_
                              rw [val_single]
                              rintro e V4 ⟨A9, n9, c9, rfl, s9, f9, hc⟩
                              replace s1 := s1.below hc
                              replace s8 := s8.below hc
                              replace s2 := s2.below hc
                              have hn9 : n9 ≤ 2000 := by rw [← s9.len]; exact HN9.out
                              go_wp2_with fail
                              replace hB := bnext hB hc
                              clear hc
                              refine hK.out _ _ (HK.out _ hB) (fun hH => ?_)
                              clear hK K
                              refine wpAnyH_ready (rs := [10]) (by kernel_rfl) (by simp) ?_
                              refine AllReadyH.cons (o := ⟨_, _, _, _, _, _⟩) rfl (fun K hK => ?_) AllReadyH.nil
                              go_simp
                              refine (rplus_any A2 A9 n2 c2 n9 c9 _ _ _ s2 s9 (by omega) (by omega)).mono ?_
                              rw [val_digs, val_digs]
                              rintro e V5 ⟨A10, n10, c10, rfl, s10, f10, hc⟩
                              have ho := HOF.out _ _ _ f10 hB.size
                              replace s1 := s1.below hc
                              replace s8 := s8.below hc
                              replace s2 := s2.below hc
                              replace s9 := s9.below hc
                              go_wp2_with fail
                              replace hB := bnext hB hc
                              clear hc
                              refine hK.out _ _ (HK.out _ hB) (fun hH => ?_)
                              clear hK K
                              refine wpAnyH_take (i := 11) (oi := ⟨_, _, _, _, _, _⟩) (v := ?_) rfl (by kernel_rfl) (by kernel_rfl) (by kernel_rfl) (fun _ _ _ h => h) (Or.inl ⟨by rfl, ?_⟩) hH ?_
                              rotate_left
                              · (intro w hSw; (try dsimp only at hSw); go_simp; try (with_reducible rfl))
                              simp only [Act.put, List.setIfInBounds_toArray, List.set_cons_zero, List.set_cons_succ]
                              refine wpAnyH_done (by kernel_rfl) ?_ _
                              go_wp2_with fail
                              go_roundw
                              case rel => exact ⟨k + 1, A10, n10, c10, by omega, by go_num, rfl, by rw [← HNT.out]; exact s10, ho, bnext hbW hB⟩
                              case measure => simp [intOf]; omega
                            refine AllReadyH.cons (o := ⟨_, _, _, _, _, _⟩) rfl (fun K hK => ?_) AllReadyH.nil
                            go_simp
                            have hbz := ballo V1 (.cells #[(.int .u32 (q : Int))] 60)
                            replace s1 := s1.below hbz
                            have s8 := SL.oneAt V1 60 (q : Int) q V1.heap.size rfl (by omega) rfl
                            replace hB := bnext hB hbz
                            clear hbz
                            generalize V1.alloc (.cells #[(.int .u32 (q : Int))] 60) = V6 at *
                            generalize some (⟨V1.heap.size, 0, none⟩ : Addr) = g8 at *
                            refine hK.out _ _ (HK.out _ hB) (fun hH => ?_)
                            clear hK K
                            refine wpAnyH_ready (rs := [2]) (by kernel_rfl) (by simp) ?_
                            refine AllReadyH.cons (o := ⟨_, _, _, _, _, _⟩) rfl (fun K hK => ?_) AllReadyH.nil
                            go_simp
                            refine (rtimes_any A g1 n c 1 1 _ [10] _ (hs.below hB) s1 (by omega) (by omega)).mono ?_
                            rw [val_digs, val_single]
                            rintro e V7 ⟨A2, n2, c2, rfl, s2, f2, hc⟩
                            replace s1 := s1.below hc
                            replace s8 := s8.below hc
                            have hn2 : n2 ≤ 2000 := by rw [← s2.len]; exact HN2.out
                            go_wp2_with fail
                            replace hB := bnext hB hc
                            clear hc
                            refine hK.out _ _ (HK.out _ hB) (fun hH => ?_)
                            clear hK K
                            refine wpAnyH_ready (rs := [9]) (by kernel_rfl) (by simp) ?_
                            refine AllReadyH.cons (o := ⟨_, _, _, _, _, _⟩) rfl (fun K hK => ?_) AllReadyH.nil
                            go_simp
                            refine (rtrim_any g8 1 1 [q] _ s8 (by omega)).mono ?_
                            rw [val_single]
                            rintro e V8 ⟨A9, n9, c9, rfl, s9, f9, hc⟩
                            replace s1 := s1.below hc
                            replace s8 := s8.below hc
                            replace s2 := s2.below hc
                            have hn9 : n9 ≤ 2000 := by rw [← s9.len]; exact HN9.out
                            go_wp2_with fail
                            replace hB := bnext hB hc
                            clear hc
                            refine hK.out _ _ (HK.out _ hB) (fun hH => ?_)
                            clear hK K
                            refine wpAnyH_ready (rs := [10]) (by kernel_rfl) (by simp) ?_
                            refine AllReadyH.cons (o := ⟨_, _, _, _, _, _⟩) rfl (fun K hK => ?_) AllReadyH.nil
                            go_simp
                            refine (rplus_any A2 A9 n2 c2 n9 c9 _ _ _ s2 s9 (by omega) (by omega)).mono ?_
                            rw [val_digs, val_digs]
                            rintro e V9 ⟨A10, n10, c10, rfl, s10, f10, hc⟩
                            have ho := HOF.out _ _ _ f10 hB.size
                            replace s1 := s1.below hc
                            replace s8 := s8.below hc
                            replace s2 := s2.below hc
                            replace s9 := s9.below hc
                            go_wp2_with fail
                            replace hB := bnext hB hc
                            clear hc
                            refine hK.out _ _ (HK.out _ hB) (fun hH => ?_)
                            clear hK K
                            refine wpAnyH_take (i := 11) (oi := ⟨_, _, _, _, _, _⟩) (v := ?_) rfl (by kernel_rfl) (by kernel_rfl) (by kernel_rfl) (fun _ _ _ h => h) (Or.inl ⟨by rfl, ?_⟩) hH ?_
                            rotate_left
                            · (intro w hSw; (try dsimp only at hSw); go_simp; try (with_reducible rfl))
                            simp only [Act.put, List.setIfInBounds_toArray, List.set_cons_zero, List.set_cons_succ]
                            refine wpAnyH_done (by kernel_rfl) ?_ _
                            go_wp2_with fail
                            go_roundw
                            case rel => exact ⟨k + 1, A10, n10, c10, by omega, by go_num, rfl, by rw [← HNT.out]; exact s10, ho, bnext hbW hB⟩
                            case measure => simp [intOf]; omega
                          refine AllReadyH.cons (o := ⟨_, _, _, _, _, _⟩) rfl (fun K hK => ?_) AllReadyH.nil
                          go_simp
                          have hbz := ballo V0 (.cells #[(.int .u32 (q : Int))] 60)
                          have s8 := SL.oneAt V0 60 (q : Int) q V0.heap.size rfl (by omega) rfl
                          replace hB := bnext hB hbz
                          clear hbz
                          generalize V0.alloc (.cells #[(.int .u32 (q : Int))] 60) = V10 at *
                          generalize some (⟨V0.heap.size, 0, none⟩ : Addr) = g8 at *
                          refine hK.out _ _ (HK.out _ hB) (fun hH => ?_)
                          clear hK K
                          refine wpAnyH_ready (rs := [1]) (by kernel_rfl) (by simp) ?_
                          refine AllReadyH.cons (o := ⟨_, _, _, _, _, _⟩) rfl (fun K hK => ?_) AllReadyH.nil
                          go_simp
                          have hbz := ballo V10 (.cells #[(.int .u32 10)] 60)
                          replace s8 := s8.below hbz
                          have s1 := SL.oneAt V10 60 10 10 V10.heap.size rfl (by omega) rfl
                          replace hB := bnext hB hbz
                          clear hbz
                          generalize V10.alloc (.cells #[(.int .u32 10)] 60) = V11 at *
                          generalize some (⟨V10.heap.size, 0, none⟩ : Addr) = g1 at *
                          refine hK.out _ _ (HK.out _ hB) (fun hH => ?_)
                          clear hK K
                          refine wpAnyH_ready (rs := [2]) (by kernel_rfl) (by simp) ?_
                          refine AllReadyH.cons (o := ⟨_, _, _, _, _, _⟩) rfl (fun K hK => ?_) AllReadyH.nil
                          go_simp
                          refine (rtimes_any A g1 n c 1 1 _ [10] _ (hs.below hB) s1 (by omega) (by omega)).mono ?_
                          rw [val_digs, val_single]
                          rintro e V12 ⟨A2, n2, c2, rfl, s2, f2, hc⟩
                          replace s1 := s1.below hc
                          replace s8 := s8.below hc
                          have hn2 : n2 ≤ 2000 := by rw [← s2.len]; exact HN2.out
                          go_wp2_with fail
                          replace hB := bnext hB hc
                          clear hc
                          refine hK.out _ _ (HK.out _ hB) (fun hH => ?_)
                          clear hK K
                          refine wpAnyH_ready (rs := [9]) (by kernel_rfl) (by simp) ?_
                          refine AllReadyH.cons (o := ⟨_, _, _, _, _, _⟩) rfl (fun K hK => ?_) AllReadyH.nil
                          go_simp
                          refine (rtrim_any g8 1 1 [q] _ s8 (by omega)).mono ?_
                          rw [val_single]
                          rintro e V13 ⟨A9, n9, c9, rfl, s9, f9, hc⟩
                          replace s1 := s1.below hc
                          replace s8 := s8.below hc
                          replace s2 := s2.below hc
                          have hn9 : n9 ≤ 2000 := by rw [← s9.len]; exact HN9.out
                          go_wp2_with fail
                          replace hB := bnext hB hc
                          clear hc
                          refine hK.out _ _ (HK.out _ hB) (fun hH => ?_)
                          clear hK K
                          refine wpAnyH_ready (rs := [10]) (by kernel_rfl) (by simp) ?_
                          refine AllReadyH.cons (o := ⟨_, _, _, _, _, _⟩) rfl (fun K hK => ?_) AllReadyH.nil
                          go_simp
                          refine (rplus_any A2 A9 n2 c2 n9 c9 _ _ _ s2 s9 (by omega) (by omega)).mono ?_
                          rw [val_digs, val_digs]
                          rintro e V14 ⟨A10, n10, c10, rfl, s10, f10, hc⟩
                          have ho := HOF.out _ _ _ f10 hB.size
                          replace s1 := s1.below hc
                          replace s8 := s8.below hc
                          replace s2 := s2.below hc
                          replace s9 := s9.below hc
                          go_wp2_with fail
                          replace hB := bnext hB hc
                          clear hc
                          refine hK.out _ _ (HK.out _ hB) (fun hH => ?_)
                          clear hK K
                          refine wpAnyH_take (i := 11) (oi := ⟨_, _, _, _, _, _⟩) (v := ?_) rfl (by kernel_rfl) (by kernel_rfl) (by kernel_rfl) (fun _ _ _ h => h) (Or.inl ⟨by rfl, ?_⟩) hH ?_
                          rotate_left
                          · (intro w hSw; (try dsimp only at hSw); go_simp; try (with_reducible rfl))
                          simp only [Act.put, List.setIfInBounds_toArray, List.set_cons_zero, List.set_cons_succ]
                          refine wpAnyH_done (by kernel_rfl) ?_ _
                          go_wp2_with fail
                          go_roundw
                          case rel => exact ⟨k + 1, A10, n10, c10, by omega, by go_num, rfl, by rw [← HNT.out]; exact s10, ho, bnext hbW hB⟩
                          case measure => simp [intOf]; omega
                        · obtain rfl : k = m.length := by omega
                          rw [List.take_of_length_le (Nat.le_refl _)] at hs
                          have hodd : numL m % 2 = 1 := by have := HPAR.out; omega
                          have hck := check_odd (neg := neg) (l := digs (numL m)) (e := ex) (limbs_digs _) (trim_digs _) (by rw [val_digs]; exact hodd)
                          rw [val_digs] at hck
                          have hn : n ≤ 2000 := by
                            rw [← hs.len]
                            have := digs_short HALL.out (by omega)
                            omega
                          have HOW := Lib.hid (HO.out w.heap.size (Nat.le_refl _))
                          have HOL : Hid (∀ g, g < w.heap.size → Off A n g) := fun g hg => HO.out g (by omega)
                          replace hbw := bnext hbw hbW
                          replace kz := kz.below hbW kz.lt
                          clear hbW HO hodd
                          cases hv : vld ⟨neg, digs (numL m), ex⟩
                          · have HV2 := Lib.hid hv
                            have HX : Hid (X = (zeroD, 9)) := by unfold Hid; rw [HXX.out, HVV2.out, hck, hv]; rfl
                            clear hck hv
                            go_wp2_with fail
                            refine (rchecked_big neg A n c _ ex _ hs (by omega) HV2.out).mono ?_
                            rintro e w5 ⟨rfl, hb5⟩
                            replace hbw := bnext hbw hb5
                            replace kz := kz.below hb5 kz.lt
                            clear hb5
                            obtain ⟨z0, z1, z2⟩ := kz.cells3
                            have f0 := kz.frozen 0
                            have f1 := kz.frozen 1
                            have f2 := kz.frozen 2
                            go_wp2_with fail
                            refine bodyPost_ret (resDE Tryz.results11 rfl (kz.set3 _ _ _)) rfl ?_
                            rw [HX.out]
                            exact ⟨none, 0, 0, rfl, SL.nil _, (fun _ _ _ => Off.zero), below_set3 hbw (Nat.le_refl _) _ _ _⟩
                          · have HV2 := Lib.hid hv
                            have HX : Hid (X = (⟨neg, digs (numL m), ex⟩, 0)) := by unfold Hid; rw [HXX.out, HVV2.out, hck, hv]; rfl
                            clear hck hv
                            go_wp2_with fail
                            refine (rchecked_ok neg A n c _ ex _ hs (by omega) HV2.out).mono ?_
                            rintro e w5 ⟨rfl, hb5⟩
                            replace hbw := bnext hbw hb5
                            replace kz := kz.below hb5 kz.lt
                            replace hs := hs.below hb5
                            clear hb5
                            obtain ⟨z0, z1, z2⟩ := kz.cells3
                            have f0 := kz.frozen 0
                            have f1 := kz.frozen 1
                            have f2 := kz.frozen 2
                            go_wp2_with fail
                            refine bodyPost_ret (resDE Tryz.results11 rfl (kz.set3 _ _ _)) rfl ?_
                            rw [HX.out]
                            exact ⟨A, n, c, rfl, hs.off3 HOW.out _ _ _, (fun g hg _ => HOL.out g hg), below_set3 hbw (Nat.le_refl _) _ _ _⟩

end Go.Proofs.YtekajoifgdpmlaaGreatDoor
