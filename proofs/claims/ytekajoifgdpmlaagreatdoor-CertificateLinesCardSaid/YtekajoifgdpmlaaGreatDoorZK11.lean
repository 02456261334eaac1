/- The law CertificateLines: its walk. (Printed by gen_k11.py.) -/
import Derived.Test.YtekajoifgdpmlaaGreatDoorZ1
import Derived.Test.YtekajoifgdpmlaaGreatDoorZ2
import Derived.Test.YtekajoifgdpmlaaGreatDoorZ3
import Derived.Test.YtekajoifgdpmlaaGreatDoorZ4
import Derived.Test.YtekajoifgdpmlaaGreatDoorZ5
import Derived.Test.YtekajoifgdpmlaaGreatDoorZ6
import Derived.Test.YtekajoifgdpmlaaGreatDoorZ7
import Derived.Test.YtekajoifgdpmlaaGreatDoorZ8
import Derived.Test.YtekajoifgdpmlaaGreatDoorZ9
import Derived.Test.YtekajoifgdpmlaaGreatDoorZ10
import Derived.Test.YtekajoifgdpmlaaGreatDoorZ11
import Derived.Test.YtekajoifgdpmlaaGreatDoorZ12
import Derived.Test.YtekajoifgdpmlaaGreatDoorZ13
import Derived.Test.YtekajoifgdpmlaaGreatDoorZ14
import Derived.Test.YtekajoifgdpmlaaGreatDoorZ15
import Derived.Test.YtekajoifgdpmlaaGreatDoorZ16
import Derived.Test.YtekajoifgdpmlaaGreatDoorZ17
import Derived.Test.YtekajoifgdpmlaaGreatDoorZ18
import Derived.Test.YtekajoifgdpmlaaGreatDoorZ19
import Derived.Test.YtekajoifgdpmlaaGreatDoorZ20
import Derived.Test.YtekajoifgdpmlaaGreatDoorZ21
import Derived.Test.YtekajoifgdpmlaaGreatDoorZ22
import Derived.Test.YtekajoifgdpmlaaGreatDoorZX11
import Derived.Test.YtekajoifgdpmlaaGreatDoorZK10
import Derived.Test.YtekajoifgdpmlaaGreatDoorZK6
namespace Go.Proofs.YtekajoifgdpmlaaGreatDoor
open Go.RowKit Pl Go.Shelf

theorem flat_ge : ∀ (ls : List (List UInt8)), (∀ l ∈ ls, IsLn l) → ls.length ≤ ls.flatten.length := by
  intro ls
  induction ls with
  | nil => intro _; exact Nat.le_refl _
  | cons l ls ih =>
    intro h
    obtain ⟨a, rfl, _⟩ := h l (by simp)
    have := ih (fun l hl => h l (by simp [hl]))
    simp at this ⊢
    omega
set_option maxRecDepth 100000 in
set_option maxHeartbeats 1000000 in
theorem splitAfter_any (ls : List (List UInt8)) (m : Int) (w : World) (h : ∀ l ∈ ls, IsLn l) (hs : ls.flatten.length ≤ 1000000) (hm : w.cell? ⟨0, 0, none⟩ = some (.int .i64 m)) :
    Calls Tryz.prog 23 #[.string ⟨ls.flatten.toArray⟩, .string ⟨#[10]⟩] w fun e w' => e = .returned (.slice (some ⟨w.heap.size, 0, none⟩) (ls.length + 1) (ls.length + 1)) ∧ w' = w.alloc (.cells ((strs (ls ++ [[]])).map Value.string).toArray 9) := by
  have H := Lib.hid (Tryz.strings_genSplit ⟨ls.flatten.toArray⟩ ⟨#[10]⟩ 1 (-1) (ls.length + 1) m w (by simp [ByteArray.size] at hs ⊢; omega) hm (by simp [ByteArray.size]) (by simp [ByteArray.size]) (by omega) (by omega) (by
    have h1 := (splitA ls h).2
    have h2 := flat_ge ls h
    rw [if_pos (by omega), h1]
    simp only [ByteArray.size, List.size_toArray]
    omega))
  have HS := Lib.hid (splitA ls h)
  clear h hm
  go_enter Tryz.func23, Tryz.ntmps23
  go_wp2_with fail
  refine (H.out).mono ?_
  rintro e w' ⟨rfl, rfl⟩
  have e1 : Lib.splitB ⟨#[10]⟩ 1 (ls.length + 1 - 1) ⟨ls.flatten.toArray⟩ = strs (ls ++ [[]]) := by
    rw [Nat.add_sub_cancel, ← HS.out.2]
    exact HS.out.1
  have e2 : (strs (ls ++ [[]])).length = ls.length + 1 := by simp [strs]
  rw [e1, e2]
  have e3 : Lib.cellsOf (strs (ls ++ [[]])) (ls.length + 1) = ((strs (ls ++ [[]])).map Value.string).toArray := by rw [← e2]; exact Lib.cellsOf_full _
  rw [e3]
  go_wp2_with fail
  go_ret
  exact ⟨rfl, rfl⟩

theorem flat_take (ls : List (List UInt8)) (j : Nat) : (ls.take j).flatten.length ≤ ls.flatten.length := by
  conv => rhs; rw [← List.take_append_drop j ls]
  rw [List.flatten_append, List.length_append]
  omega
theorem join_any (ls R : List (List UInt8)) (gl j c : Nat) (w : World) (kl : Blk w gl 9 ((strs (ls ++ R)).map Value.string).toArray) (hj : j ≤ ls.length) (hc : j ≤ c) (hl : ls.flatten.length ≤ 1000000) (hn : ls.length ≤ 1000000) :
    Calls Tryz.prog 25 #[.slice (some ⟨gl, 0, none⟩) j c, .string ⟨#[]⟩] w fun e w' => e = .returned (.string ⟨(ls.take j).flatten.toArray⟩) ∧ Below w.heap.size w w' := by
  by_cases h0 : j = 0
  · subst h0
    refine (Tryz.strings_Join_none (some ⟨gl, 0, none⟩) c ⟨#[]⟩ w).mono ?_
    rintro e w' ⟨rfl, rfl⟩
    exact ⟨rfl, Below.refl _ _⟩
  · have hx : (strs (ls.take j)).length = j := by simp [strs]; omega
    have h := Tryz.strings_Join gl 0 c (strs (ls.take j)) ⟨#[]⟩ w (fun i x hi => by
      rw [Nat.zero_add, kl.cell i]
      have hij : i < j := by have := (List.getElem?_eq_some_iff.1 hi).1; omega
      unfold strs at hi ⊢
      rw [List.getElem?_map, List.getElem?_take_of_lt hij] at hi
      simp only [List.getElem?_toArray, List.getElem?_map]
      rw [List.getElem?_append_left (by omega)]
      cases hq : ls[i]? with
      | none => rw [hq] at hi; cases hi
      | some z => rw [hq] at hi; simp at hi ⊢; exact hi) kl.lt (by rw [hx]; omega) (by rw [hx]; exact hc) (by
        have := flat_take ls j
        rw [show (⟨#[]⟩ : ByteArray).data.toList = [] from rfl, join_strs]
        omega)
    rw [hx, show (⟨#[]⟩ : ByteArray).data.toList = [] from rfl, join_strs] at h
    exact h
theorem pre_yes {S : List UInt8} {p : List UInt8} (h : ∃ R, S = p ++ R) : Lib.hasPrefix (⟨S.toArray⟩ : ByteArray).data.toList (⟨p.toArray⟩ : ByteArray).data.toList = true := by
  obtain ⟨R, rfl⟩ := h
  unfold Lib.hasPrefix
  rw [List.isPrefixOf_iff_prefix]
  simp
set_option maxRecDepth 100000 in
set_option maxHeartbeats 8000000 in
theorem lclines_any (vs : List Value) (x : Ct) (cut : Int) (w : World) (h : RC w vs x) (l1 : 0 ≤ cut) (l2 : cut ≤ 65535) (he : Ev w.heap.size w) : Calls Tryz.prog 8 #[.agg vs.toArray, .int .u16 cut] w (Says true w) := by
  have hr := h
  obtain ⟨xA, xn, xc, xB, xm, xd, xC, xp, xq, xL, xln, xlc, rfl, h1, -, -, h4⟩ := h
  obtain ⟨a, rfl⟩ : ∃ a : Nat, cut = (a : Int) := ⟨cut.toNat, by omega⟩
  obtain ⟨lg, hlg⟩ : ∃ lg, lgC x = lg := ⟨_, rfl⟩
  have HLm := Lib.hid (rc_limbs hr)
  have HA := Lib.hid (fun W (hb : Below w.heap.size w W) => cawake_any W (he.step hb))
  have H1 := Lib.hid (fun W (hb : Below w.heap.size w W) => large_any _ x W (lasts_RC w W _ _ hr hb))
  have H2 := Lib.hid (fun (hl : lg = false) W (hb : Below w.heap.size w W) => encode_any _ x W (lasts_RC w W _ _ hr hb) (bd_C (hlg.trans hl)).1 (he.step hb).here.tabs (he.step hb).here.tens)
  have HE := Lib.hid (fun W (hb : Below w.heap.size w W) => he.step hb)
  rw [hlg] at H1
  have HC := Lib.hid (enc_cases x)
  have HTL := Lib.hid (fun (hv : ctV x = true) => text_ln hv HLm.out)
  have HCT := Lib.hid (fun (hv : ctV x = true) (hl : (textC x).length ≤ 65536) ls T (e : textC x = T ++ endW) (h : Lns ls T) j => cut_ln hv HLm.out hl e h j)
  have HNN := Lib.hid (fun (hv : ctV x = true) => ctV_parts hv)
  have HX1 := Lib.hid h1.len
  have HX4 := Lib.hid h4.len
  have m1 := h1.cap
  have m2 := h1.max
  have m3 := h4.cap
  have m4 := h4.max
  obtain ⟨xpr, xod, xst, xls⟩ := x
  dsimp only at H1 H2 HX1 HX4 HNN HTL
  clear hr HLm hlg he h1 h4
  have hb0 := ballo w (.cells #[.int .i64 xpr, .int .i64 xod, .slice xA xn xc, .slice xB xm xd, .slice xC xp xq, .slice xL xln xlc] 42)
  have kx := Blk.new w 42 #[.int .i64 xpr, .int .i64 xod, .slice xA xn xc, .slice xB xm xd, .slice xC xp xq, .slice xL xln xlc]
  go_enter Tryz.func8, Tryz.ntmps8
  go_wp2_with fail
  generalize w.alloc (.cells #[.int .i64 xpr, .int .i64 xod, .slice xA xn xc, .slice xB xm xd, .slice xC xp xq, .slice xL xln xlc] 42) = W0 at *
  refine (HA.out _ hb0).mono ?_
  rintro e w1 ⟨rfl, hb1⟩
  replace kx := kx.next hb1
  replace hb0 := bnext hb0 hb1
  clear hb1
  obtain ⟨q0, q1, q2, q3, q4, q5⟩ := kx.cells6
  go_wp2_with fail
  refine (H1.out _ hb0).mono ?_
  rintro e w2 ⟨rfl, hb1⟩
  clear q0 q1 q2 q3 q4 q5
  replace kx := kx.next hb1
  replace hb0 := bnext hb0 hb1
  clear hb1 H1
  cases lg
  rotate_left
  · go_wp2_with fail
    refine (HA.out _ hb0).mono ?_
    rintro e w3 ⟨rfl, hb1⟩
    replace hb0 := bnext hb0 hb1
    go_wp2_with fail
    go_ret
    exact ⟨rfl, hb0⟩
  replace H2 := Lib.hid (H2.out rfl)
  clear HA
  obtain ⟨q0, q1, q2, q3, q4, q5⟩ := kx.cells6
  go_wp2_with fail
  refine (H2.out _ hb0).mono ?_
  clear H2
  rcases HC.out with ⟨k, hk, hk0⟩ | ⟨hk, hv, hlen, hne⟩
  · rw [hk]
    clear HC hk
    rintro e w3 ⟨rfl, hb1⟩
    clear q0 q1 q2 q3 q4 q5
    replace hb0 := bnext hb0 hb1
    dsimp only
    have hk1 : (k != 0) = true := by rw [bne_iff_ne]; exact hk0
    go_wp2_with fail
    go_ret
    exact ⟨rfl, hb0⟩
  rw [hk]
  obtain ⟨_, _, _, _, _, _, _, n1, n4, nl⟩ := HNN.out hv
  obtain ⟨ls, T, eT, hLs, hLn⟩ := HTL.out hv
  replace HCT := Lib.hid (fun j => HCT.out hv hlen ls T eT hLs j)
  rw [HX1.out] at hLn n1 n4
  rw [HX4.out] at hLn nl
  have hpre : ∃ R, textC ⟨xpr, xod, xst, xls⟩ = [99, 101, 114, 116, 105, 102, 105, 99, 97, 116, 101, 32] ++ R := ⟨_, by unfold textC headT headN intsT; simp [certW]; rfl⟩
  have hall : ∀ l ∈ ls ++ [endW], IsLn l := by
    intro l hl
    rcases List.mem_append.1 hl with h | h
    · exact hLs.each l h
    · rw [List.mem_singleton.1 h]; exact ⟨[101, 110, 100], rfl, by decide⟩
  have ES : Hid (textC ⟨xpr, xod, xst, xls⟩ = (ls ++ [endW]).flatten) := by unfold Hid; rw [eT, hLs.eq]; simp
  clear HC hk hv HTL HNN eT hLs hne
  generalize textC ⟨xpr, xod, xst, xls⟩ = S at *
  rintro e w3 ⟨rfl, hb1⟩
  clear q0 q1 q2 q3 q4 q5
  replace kx := kx.next hb1
  replace hb0 := bnext hb0 hb1
  clear hb1
  dsimp only
  obtain ⟨q0, q1, q2, q3, q4, q5⟩ := kx.cells6
  obtain ⟨mx, hmx⟩ := (HE.out _ hb0).here.max
  go_wp2_with fail
  clear q0 q1 q2 q3 q4 q5 W0
  generalize w3 = W0 at *
  have hB := bdrew W0
  have HK : Hid (∀ V, Below W0.heap.size W0 V → (fun V => (V.cell? ⟨w.heap.size, 0, none⟩ = some (.int .i64 xpr) ∧ V.cell? ⟨w.heap.size, 1, none⟩ = some (.int .i64 xod) ∧ V.cell? ⟨w.heap.size, 2, none⟩ = some (.slice xA xn xc) ∧ V.cell? ⟨w.heap.size, 3, none⟩ = some (.slice xB xm xd) ∧ V.cell? ⟨w.heap.size, 4, none⟩ = some (.slice xC xp xq) ∧ V.cell? ⟨w.heap.size, 5, none⟩ = some (.slice xL xln xlc)) ∧ Below W0.heap.size W0 V) V) := fun V hV => ⟨(kx.next hV).cells6, hV⟩
  refine wp_region_held_drew (S := (fun V => (V.cell? ⟨w.heap.size, 0, none⟩ = some (.int .i64 xpr) ∧ V.cell? ⟨w.heap.size, 1, none⟩ = some (.int .i64 xod) ∧ V.cell? ⟨w.heap.size, 2, none⟩ = some (.slice xA xn xc) ∧ V.cell? ⟨w.heap.size, 3, none⟩ = some (.slice xB xm xd) ∧ V.cell? ⟨w.heap.size, 4, none⟩ = some (.slice xC xp xq) ∧ V.cell? ⟨w.heap.size, 5, none⟩ = some (.slice xL xln xlc)) ∧ Below W0.heap.size W0 V)) (by kernel_rfl) (HK.out _ hB) (fun hH => ?_)
  refine wpAnyH_take (i := 0) (oi := ⟨_, _, _, _, _, _⟩) (v := ?_) rfl (by kernel_rfl) (by kernel_rfl) (by kernel_rfl) (fun _ _ _ h => h) (Or.inl ⟨by rfl, ?_⟩) hH ?_
  rotate_left
  · (intro w hSw; (try dsimp only at hSw); go_simp; try (with_reducible rfl))
  simp only [Act.put, List.setIfInBounds_toArray, List.set_cons_zero, List.set_cons_succ]
  refine wpAnyH_take (i := 1) (oi := ⟨_, _, _, _, _, _⟩) (v := ?_) rfl (by kernel_rfl) (by kernel_rfl) (by kernel_rfl) (fun _ _ _ h => h) (Or.inl ⟨by rfl, ?_⟩) hH ?_
  rotate_left
  · (intro w hSw; (try dsimp only at hSw); go_simp; try (with_reducible rfl))
  simp only [Act.put, List.setIfInBounds_toArray, List.set_cons_zero, List.set_cons_succ]
  refine wpAnyH_take (i := 2) (oi := ⟨_, _, _, _, _, _⟩) (v := ?_) rfl (by kernel_rfl) (by kernel_rfl) (by kernel_rfl) (fun _ _ _ h => h) (Or.inl ⟨by rfl, ?_⟩) hH ?_
  rotate_left
  · (intro w hSw; (try dsimp only at hSw); go_simp; try (with_reducible rfl))
  simp only [Act.put, List.setIfInBounds_toArray, List.set_cons_zero, List.set_cons_succ]
  refine wpAnyH_take (i := 3) (oi := ⟨_, _, _, _, _, _⟩) (v := ?_) rfl (by kernel_rfl) (by kernel_rfl) (by kernel_rfl) (fun _ _ _ h => h) (Or.inl ⟨by rfl, ?_⟩) hH ?_
  rotate_left
  · (intro w hSw; (try dsimp only at hSw); go_simp; try (with_reducible rfl))
  simp only [Act.put, List.setIfInBounds_toArray, List.set_cons_zero, List.set_cons_succ]
  refine wpAnyH_take (i := 4) (oi := ⟨_, _, _, _, _, _⟩) (v := ?_) rfl (by kernel_rfl) (by kernel_rfl) (by kernel_rfl) (fun _ _ _ h => h) (Or.inl ⟨by rfl, ?_⟩) hH ?_
  rotate_left
  · (intro w hSw; (try dsimp only at hSw); go_simp; try (with_reducible rfl))
  simp only [Act.put, List.setIfInBounds_toArray, List.set_cons_zero, List.set_cons_succ]
  refine wpAnyH_take (i := 5) (oi := ⟨_, _, _, _, _, _⟩) (v := ?_) rfl (by kernel_rfl) (by kernel_rfl) (by kernel_rfl) (fun _ _ _ h => h) (Or.inl ⟨by rfl, ?_⟩) hH ?_
  rotate_left
  · (intro w hSw; (try dsimp only at hSw); go_simp; try (with_reducible rfl))
  simp only [Act.put, List.setIfInBounds_toArray, List.set_cons_zero, List.set_cons_succ]
  refine wpAnyH_take (i := 6) (oi := ⟨_, _, _, _, _, _⟩) (v := ?_) rfl (by kernel_rfl) (by kernel_rfl) (by kernel_rfl) (fun _ _ _ h => h) (Or.inl ⟨by rfl, ?_⟩) hH ?_
  rotate_left
  · (intro w hSw; (try dsimp only at hSw); go_simp; try (with_reducible rfl))
  simp only [Act.put, List.setIfInBounds_toArray, List.set_cons_zero, List.set_cons_succ]
  refine wpAnyH_take (i := 7) (oi := ⟨_, _, _, _, _, _⟩) (v := ?_) rfl (by kernel_rfl) (by kernel_rfl) (by kernel_rfl) (fun _ _ _ h => h) (Or.inl ⟨by rfl, ?_⟩) hH ?_
  rotate_left
  · (intro w hSw; (try dsimp only at hSw); go_simp; try (with_reducible rfl))
  simp only [Act.put, List.setIfInBounds_toArray, List.set_cons_zero, List.set_cons_succ]
  refine wpAnyH_take (i := 8) (oi := ⟨_, _, _, _, _, _⟩) (v := ?_) rfl (by kernel_rfl) (by kernel_rfl) (by kernel_rfl) (fun _ _ _ h => h) (Or.inl ⟨by rfl, ?_⟩) hH ?_
  rotate_left
  · (intro w hSw; (try dsimp only at hSw); go_simp; try (with_reducible rfl))
  simp only [Act.put, List.setIfInBounds_toArray, List.set_cons_zero, List.set_cons_succ]
  refine wpAnyH_done (by kernel_rfl) ?_ _
  clear hH HK
  have hpx := pre_yes hpre
  clear hpre
  replace kx := kx.next hB
  replace hb0 := bnext hb0 hB
  clear hB
  have hmx : W0.drew.cell? ⟨0, 0, none⟩ = some (.int .i64 mx) := hmx
  have hsl : (ls ++ [endW]).flatten.length ≤ 1000000 := by rw [← ES.out]; omega
  have H3 := Lib.hid (splitAfter_any (ls ++ [endW]) mx W0.drew hall hsl hmx)
  obtain ⟨N, hN⟩ : ∃ N, ls.length = N := ⟨_, rfl⟩
  rw [List.length_append, List.length_singleton, hN] at H3
  rw [hN] at hLn
  rw [← ES.out] at H3
  obtain ⟨Pn, hP⟩ : ∃ P, xln * (4 + 2 * xn) = P := ⟨_, rfl⟩
  have hPb : Pn ≤ 12000 := by rw [← hP]; exact Nat.le_trans (Nat.mul_le_mul nl (show 4 + 2 * xn ≤ 12 by omega)) (by omega)
  have hPw : wrap64 ((xln : Int) * (4 + 2 * (xn : Int))) = (Pn : Int) := by
    have e : (xln : Int) * (4 + 2 * (xn : Int)) = (Pn : Int) := by rw [← hP]; simp
    rw [e]
    exact IntWalk.wrap64_in _ (by omega)
  rw [hP] at hLn
  clear hP
  clear hall hsl hmx
  generalize W0.drew = W9 at *
  have hbz := ballo W9 (.cells ((strs (ls ++ [endW] ++ [[]])).map Value.string).toArray 9)
  have kl := Blk.new W9 9 ((strs (ls ++ [endW] ++ [[]])).map Value.string).toArray
  have c1 := kl.cell (N + 1)
  have c2 := kl.cell N
  have c1' : ((strs (ls ++ [endW] ++ [[]])).map Value.string).toArray[N + 1]? = some (.string ⟨#[]⟩) := by
    simp [strs, ← hN]
  have c2' : ((strs (ls ++ [endW] ++ [[]])).map Value.string).toArray[N]? = some (.string ⟨#[101, 110, 100, 10]⟩) := by
    simp [strs, ← hN, endW]
  rw [c1'] at c1
  rw [c2'] at c2
  clear c1' c2'
  have HN := Lib.hid hN
  clear hN
  subst hLn
  go_wp2_with fail
  refine (H3.out).mono ?_
  rintro e w5 ⟨rfl, rfl⟩
  replace kx := kx.next hbz
  replace hb0 := bnext hb0 hbz
  clear hbz H3
  generalize W9.alloc (.cells ((strs (ls ++ [endW] ++ [[]])).map Value.string).toArray 9) = W8 at *
  generalize W9.heap.size = gl at *
  go_wp2_with fail
  refine (Tryz.strings_HasPrefix _ _ _).mono ?_
  rw [hpx]
  rintro e w6 ⟨rfl, rfl⟩
  clear hpx c1 c2
  obtain ⟨j, hj⟩ : ∃ j, a % (1 + (2 + xn) + Pn + 1) = j := ⟨_, rfl⟩
  have hjl : j < 1 + (2 + xn) + Pn + 1 := by rw [← hj]; exact Nat.mod_lt _ (by omega)
  have hjle : j ≤ 1 + (2 + xn) + Pn + 1 + 1 := by omega
  have hji : (a : Int) % (1 + (2 + (xn : Int)) + (Pn : Int) + 1) = (j : Int) := by rw [← hj]; simp
  have hj1 : (j : Int) ≤ 1 + (2 + (xn : Int)) + (Pn : Int) + 1 + 1 := by omega
  have hfl : ls.flatten.length ≤ 65536 := by
    have := ES.out
    rw [this, List.flatten_append, List.length_append] at hlen
    omega
  rw [List.append_assoc] at kl
  have HJ := Lib.hid (join_any ls _ gl j (1 + (2 + xn) + Pn + 1 + 1) _ kl (by rw [HN.out]; omega) (by omega) (by omega) (by rw [HN.out]; omega))
  replace HCT := Lib.hid (HCT.out j)
  have hfl2 : (ls.take j).flatten.length ≤ 1000000 := Nat.le_trans (flat_take ls j) (by omega)
  clear kl ES HN hfl
  generalize (ls.take j).flatten = A at *
  go_wp2_with fail
  clear hj hjl hjle hji hj1
  refine (HJ.out).mono ?_
  rintro e w7 ⟨rfl, hb1⟩
  replace hb0 := bnext hb0 hb1
  clear hb1
  go_wp2_with fail
  refine (decode_any A _ hfl2 (HE.out _ hb0)).mono ?_
  rw [HCT.out]
  rintro e w8 ⟨us, rfl, hu6, hru, hb1⟩
  dsimp only at hru
  replace hb0 := bnext hb0 hb1
  clear hb1 hu6
  have HRy := Lib.hid hru
  obtain ⟨yA, yn, yc, yB, ym, yd, yC, yp, yq, yL, yln, ylc, rfl, -, -, -, -⟩ := hru
  rw [show zeroC.prec = 0 from rfl, show zeroC.order = 0 from rfl] at *
  have hb1 := bnext (ballo w8 (.cells #[.int .i64 0, .int .i64 0, .slice yA yn yc, .slice yB ym yd, .slice yC yp yq, .slice yL yln ylc] 42)) (ballo (w8.alloc (.cells #[.int .i64 0, .int .i64 0, .slice yA yn yc, .slice yB ym yd, .slice yC yp yq, .slice yL yln ylc] 42)) (.cells #[.int .i64 0, .int .i64 0] 48))
  have ky := (Blk.new w8 42 #[.int .i64 0, .int .i64 0, .slice yA yn yc, .slice yB ym yd, .slice yC yp yq, .slice yL yln ylc]).next (ballo (w8.alloc (.cells #[.int .i64 0, .int .i64 0, .slice yA yn yc, .slice yB ym yd, .slice yC yp yq, .slice yL yln ylc] 42)) (.cells #[.int .i64 0, .int .i64 0] 48))
  have kp : Blk ((w8.alloc (.cells #[.int .i64 0, .int .i64 0, .slice yA yn yc, .slice yB ym yd, .slice yC yp yq, .slice yL yln ylc] 42)).alloc (.cells #[.int .i64 0, .int .i64 0] 48)) (w8.heap.size + 1) 48 #[.int .i64 0, .int .i64 0] := Blk.newAt _ _ _ (by simp)
  replace hb0 := bnext hb0 hb1
  replace HRy := Lib.hid (lasts_RC _ _ _ _ HRy.out hb1)
  clear hb1
  obtain ⟨y0, y1, y2, y3, y4, y5⟩ := ky.cells6
  have p0 := kp.cell 0
  have p1 := kp.cell 1
  simp at p0 p1
  go_wp2_with fail
  refine (lsame_any _ [.int .i64 0, .int .i64 0, .slice none 0 0, .slice none 0 0, .slice none 0 0, .slice none 0 0] zeroC zeroC _ HRy.out (rc_zero _)).mono ?_
  rw [sC_refl]
  rintro e w9 ⟨rfl, hb1⟩
  replace hb0 := bnext hb0 hb1
  go_wp2_with fail
  go_ret
  exact ⟨rfl, hb0⟩
end Go.Proofs.YtekajoifgdpmlaaGreatDoor
