/- Bundle 21: what the laws' walks stand on: C15, K3. -/
import Derived.Test.YtekajoifgdpmlaaGreatDoorZ11
import Derived.Test.YtekajoifgdpmlaaGreatDoorZ15
import Derived.Test.YtekajoifgdpmlaaGreatDoorZ17
import Derived.Test.YtekajoifgdpmlaaGreatDoorZ20
/-! C15 -/
namespace Go.Proofs.YtekajoifgdpmlaaGreatDoor
open Go.RowKit Pl Go.Shelf

def lgD (d : Dy) : Bool := decide (100 < d.l.length)
def lgN (l : List Dy) : Bool := decide (10 < l.length) || l.any lgD
def lgI (x : Iv) : Bool := lgD x.lo || lgD x.hi
def lgB (l : List Iv) : Bool := decide (10 < l.length) || l.any lgI
def lgM (m : List (List Dy)) : Bool := decide (10 < m.length) || m.any lgN
def lgF (f : Fr) : Bool := lgN f.c || lgM f.a || lgB f.r
def lgL (x : Lk) : Bool := lgD x.h || lgB x.tube || lgF x.e || lgM x.v
def lgC (x : Ct) : Bool := decide (12 < x.links.length) || lgF x.start || x.links.any lgL

theorem bd_of {d : Dy} (h : lgD d = false) : Bd d := by unfold lgD at h; unfold Bd; have := of_decide_eq_false h; omega
theorem bd_N {l : List Dy} (h : lgN l = false) : ∀ d ∈ l, Bd d := by
  unfold lgN at h
  rw [Bool.or_eq_false_iff] at h
  intro d hd
  exact bd_of (by have := List.any_eq_false.1 h.2 d hd; simpa using this)
theorem bd_B {l : List Iv} (h : lgB l = false) : ∀ x ∈ l, BdI x := by
  unfold lgB at h
  rw [Bool.or_eq_false_iff] at h
  intro x hx
  have := List.any_eq_false.1 h.2 x hx
  unfold lgI at this
  simp only [Bool.or_eq_true, not_or, Bool.not_eq_true] at this
  exact ⟨bd_of this.1, bd_of this.2⟩
theorem bd_M {m : List (List Dy)} (h : lgM m = false) : ∀ l ∈ m, ∀ d ∈ l, Bd d := by
  unfold lgM at h
  rw [Bool.or_eq_false_iff] at h
  intro l hl
  exact bd_N (by have := List.any_eq_false.1 h.2 l hl; simpa using this)
theorem bd_F {f : Fr} (h : lgF f = false) : BdF f := by
  unfold lgF at h
  rw [Bool.or_eq_false_iff, Bool.or_eq_false_iff] at h
  exact ⟨bd_N h.1.1, bd_M h.1.2, bd_B h.2⟩
theorem bd_L {x : Lk} (h : lgL x = false) : BdL x := by
  unfold lgL at h
  rw [Bool.or_eq_false_iff, Bool.or_eq_false_iff, Bool.or_eq_false_iff] at h
  exact ⟨bd_of h.1.1.1, bd_B h.1.1.2, bd_F h.1.2, bd_M h.2⟩
theorem bd_C {x : Ct} (h : lgC x = false) : BdC x ∧ x.links.length ≤ 12 := by
  unfold lgC at h
  rw [Bool.or_eq_false_iff, Bool.or_eq_false_iff] at h
  refine ⟨⟨bd_F h.1.2, fun y hy => bd_L (by have := List.any_eq_false.1 h.2 y hy; simpa using this)⟩, ?_⟩
  have := of_decide_eq_false h.1.1
  omega

/-- The law's local functions, in their variables. -/
structure LgEnv (W : World) (g3 g4 g5 g6 g7 : Nat) : Prop where
  k3 : Blk W g3 78 #[.func (.func 49) #[] #[]]
  k4 : Blk W g4 89 #[.func (.func 50) #[] #[.pointer (some ⟨g3, 0, none⟩)]]
  k5 : Blk W g5 92 #[.func (.func 52) #[] #[.pointer (some ⟨g3, 0, none⟩)]]
  k6 : Blk W g6 94 #[.func (.func 55) #[] #[.pointer (some ⟨g4, 0, none⟩)]]
  k7 : Blk W g7 95 #[.func (.func 57) #[] #[.pointer (some ⟨g4, 0, none⟩), .pointer (some ⟨g6, 0, none⟩), .pointer (some ⟨g5, 0, none⟩)]]
theorem LgEnv.next {W W' : World} {g3 g4 g5 g6 g7 : Nat} (h : LgEnv W g3 g4 g5 g6 g7) (hb : Below W.heap.size W W') : LgEnv W' g3 g4 g5 g6 g7 := ⟨h.k3.next hb, h.k4.next hb, h.k5.next hb, h.k6.next hb, h.k7.next hb⟩

set_option maxHeartbeats 400000 in
theorem large1_any (vs : List Value) (d : Dy) (w : World) (h : RD w vs d) : Calls Tryz.prog 49 #[.agg vs.toArray] w (Says (lgD d) w) := by
  obtain ⟨A, n, c, rfl, hs⟩ := h
  have HV : Hid (lgD d = decide (100 < n)) := by unfold Hid lgD; rw [hs.len]
  have m1 := hs.cap
  have m2 := hs.max
  clear hs
  by_cases h : 100 < n
  · rw [decide_eq_true h] at HV
    go_enter Tryz.func49, Tryz.ntmps49
    go_wp2
    go_ret
    exact ⟨by rw [HV.out]; simp; omega, ballo _ _⟩
  · rw [decide_eq_false h] at HV
    go_enter Tryz.func49, Tryz.ntmps49
    go_wp2
    go_ret
    exact ⟨by rw [HV.out]; simp; omega, ballo _ _⟩

set_option maxHeartbeats 1000000 in
theorem large2_any (g3 : Nat) (A : Option Addr) (n c : Nat) (l : List Dy) (w : World) (h : Sl 3 RD w A n c l) (k3 : Blk w g3 78 #[.func (.func 49) #[] #[]]) : Calls Tryz.prog 50 #[.slice A n c, .pointer (some ⟨g3, 0, none⟩)] w (Says (lgN l) w) := by
  have hmf : ∀ (fn : Fn) (first cap : Array Value) (w : World), (Instr.makeFunc fn first cap).run Tryz.prog w = .ok (.func fn first cap) w := fun _ _ _ _ => rfl
  obtain ⟨r, hr⟩ : ∃ r, l.any lgD = r := ⟨_, rfl⟩
  have HV : Hid (lgN l = (decide (10 < n) || r)) := by unfold Hid lgN; rw [h.len, hr]
  have HC := Lib.hid (containsFunc_D lgD 49 #[] A n c l w h (enters Tryz.func49 (by kernel_rfl) rfl) (fun W us d _ _ hr => by rw [Array.append_empty]; exact large1_any us d W hr))
  rw [hr] at HC
  have m1 := h.cap
  have m2 := h.max
  have q3 := k3.cells1
  clear h hr
  by_cases hn : 10 < n
  · rw [decide_eq_true hn] at HV
    go_enter Tryz.func50, Tryz.ntmps50
    go_wp2_with fail
    go_ret
    exact ⟨by rw [HV.out]; first | rfl | simp; omega, Below.refl _ _⟩
  · rw [decide_eq_false hn] at HV
    have hd : decide (10 < (n : Int)) = false := decide_eq_false (by omega)
    go_enter Tryz.func50, Tryz.ntmps50
    go_wp2_with fail
    refine HC.out.mono ?_
    rintro e w1 ⟨rfl, hb0⟩
    go_wp2_with fail
    go_ret
    exact ⟨by rw [HV.out]; first | rfl | simp, hb0⟩

set_option maxRecDepth 100000 in
set_option maxHeartbeats 1000000 in
theorem large31_any (g3 : Nat) (vs : List Value) (x : Iv) (w : World) (h : RI w vs x) (k3 : Blk w g3 78 #[.func (.func 49) #[] #[]]) : Calls Tryz.prog 54 (#[.agg vs.toArray] ++ #[.pointer (some ⟨g3, 0, none⟩)]) w (Says (lgI x) w) := by
  obtain ⟨xA, xs, xc, xB, xm, xd, rfl, hx1, hx2⟩ := h
  obtain ⟨⟨xln, xll, xle⟩, ⟨xun, xul, xue⟩, xa⟩ := x
  dsimp only at hx1 hx2 ⊢
  have rx : RI w [.bool xln, .slice xA xs xc, .int .i64 xle, .bool xun, .slice xB xm xd, .int .i64 xue, .bool xa] ⟨⟨xln, xll, xle⟩, ⟨xun, xul, xue⟩, xa⟩ := ⟨xA, xs, xc, xB, xm, xd, rfl, hx1, hx2⟩
  have rx1 : RD w [.bool xln, .slice xA xs xc, .int .i64 xle] ⟨xln, xll, xle⟩ := ⟨xA, xs, xc, rfl, hx1⟩
  have rx2 : RD w [.bool xun, .slice xB xm xd, .int .i64 xue] ⟨xun, xul, xue⟩ := ⟨xB, xm, xd, rfl, hx2⟩
  have Rx := Lib.hid (fun W hb => lasts_RI w W _ _ rx hb)
  have Rx1 := Lib.hid (fun W hb => lasts_RD w W _ _ rx1 hb)
  have Rx2 := Lib.hid (fun W hb => lasts_RD w W _ _ rx2 hb)
  clear hx1 hx2 rx rx1 rx2
  have e : (#[.agg #[.bool xln, .slice xA xs xc, .int .i64 xle, .bool xun, .slice xB xm xd, .int .i64 xue, .bool xa]] ++ #[.pointer (some ⟨g3, 0, none⟩)] : Array Value) = #[.agg #[.bool xln, .slice xA xs xc, .int .i64 xle, .bool xun, .slice xB xm xd, .int .i64 xue, .bool xa], .pointer (some ⟨g3, 0, none⟩)] := by simp
  rw [e]
  clear e Rx
  have HV : Hid (lgI ⟨⟨xln, xll, xle⟩, ⟨xun, xul, xue⟩, xa⟩ = (lgD ⟨xln, xll, xle⟩ || lgD ⟨xun, xul, xue⟩)) := rfl
  have hb0 := ballo w (.cells #[.bool xln, .slice xA xs xc, .int .i64 xle, .bool xun, .slice xB xm xd, .int .i64 xue, .bool xa] 87)
  have ka := Blk.new w 87 #[.bool xln, .slice xA xs xc, .int .i64 xle, .bool xun, .slice xB xm xd, .int .i64 xue, .bool xa]
  have q3 := k3.cells1
  have kc := k3.next hb0
  have kcq0 := kc.cells1
  go_enter Tryz.func54, Tryz.ntmps54
  go_wp2_with fail
  clear kcq0 q3 k3
  generalize w.alloc (.cells #[.bool xln, .slice xA xs xc, .int .i64 xle, .bool xun, .slice xB xm xd, .int .i64 xue, .bool xa] 87) = W0 at *
  refine (large1_any _ _ _ (Rx1.out _ hb0)).mono ?_
  rintro e w1 ⟨rfl, hb1x⟩
  replace hb0 := bnext hb0 hb1x
  replace ka := ka.next hb1x
  replace kc := kc.next hb1x
  clear hb1x
  cases hv1 : lgD ⟨xln, xll, xle⟩
  rotate_left
  · rw [hv1] at HV
    clear hv1
    go_wp2_with fail
    go_ret
    exact ⟨by rw [HV.out]; rfl, hb0⟩
  rw [hv1] at HV
  clear hv1
  obtain ⟨kaq0, kaq1, kaq2, kaq3, kaq4, kaq5, kaq6⟩ := ka.cells7
  have kcq0 := kc.cells1
  go_wp2_with fail
  refine (large1_any _ _ _ (Rx2.out _ hb0)).mono ?_
  rintro e w2 ⟨rfl, hb2x⟩
  clear kaq0 kaq1 kaq2 kaq3 kaq4 kaq5 kaq6 kcq0
  replace hb0 := bnext hb0 hb2x
  replace ka := ka.next hb2x
  replace kc := kc.next hb2x
  clear hb2x
  generalize lgD ⟨xun, xul, xue⟩ = r at *
  go_wp2_with fail
  go_ret
  exact ⟨by rw [HV.out]; rfl, hb0⟩

set_option maxHeartbeats 1000000 in
theorem large3_any (g3 : Nat) (A : Option Addr) (n c : Nat) (l : List Iv) (w : World) (h : Sl 7 RI w A n c l) (k3 : Blk w g3 78 #[.func (.func 49) #[] #[]]) : Calls Tryz.prog 52 #[.slice A n c, .pointer (some ⟨g3, 0, none⟩)] w (Says (lgB l) w) := by
  have hmf : ∀ (fn : Fn) (first cap : Array Value) (w : World), (Instr.makeFunc fn first cap).run Tryz.prog w = .ok (.func fn first cap) w := fun _ _ _ _ => rfl
  obtain ⟨r, hr⟩ : ∃ r, l.any lgI = r := ⟨_, rfl⟩
  have HV : Hid (lgB l = (decide (10 < n) || r)) := by unfold Hid lgB; rw [h.len, hr]
  have HC := Lib.hid (containsFunc_I lgI 54 #[.pointer (some ⟨g3, 0, none⟩)] A n c l w h (enters Tryz.func54 (by kernel_rfl) rfl) (fun W us d hb _ hr => large31_any g3 us d W hr (k3.next hb)))
  rw [hr] at HC
  have m1 := h.cap
  have m2 := h.max
  clear k3
  clear h hr
  by_cases hn : 10 < n
  · rw [decide_eq_true hn] at HV
    go_enter Tryz.func52, Tryz.ntmps52
    go_wp2_with fail
    go_ret
    exact ⟨by rw [HV.out]; first | rfl | simp; omega, Below.refl _ _⟩
  · rw [decide_eq_false hn] at HV
    have hd : decide (10 < (n : Int)) = false := decide_eq_false (by omega)
    go_enter Tryz.func52, Tryz.ntmps52
    go_wp2_with fail
    refine HC.out.mono ?_
    rintro e w1 ⟨rfl, hb0⟩
    go_wp2_with fail
    go_ret
    exact ⟨by rw [HV.out]; first | rfl | simp, hb0⟩

theorem large2_M (g3 : Nat) (vs : List Value) (l : List Dy) (w : World) (h : RM w vs l) (k3 : Blk w g3 78 #[.func (.func 49) #[] #[]]) : Calls Tryz.prog 50 (#[(vs[0]?).getD undef] ++ #[.pointer (some ⟨g3, 0, none⟩)]) w (Says (lgN l) w) := by
  obtain ⟨A, n, c, rfl, hs⟩ := h
  have e : (#[(([.slice A n c] : List Value)[0]?).getD undef] ++ #[.pointer (some ⟨g3, 0, none⟩)] : Array Value) = #[.slice A n c, .pointer (some ⟨g3, 0, none⟩)] := by simp
  rw [e]
  exact large2_any g3 A n c l w hs k3
set_option maxHeartbeats 1000000 in
theorem large4_any (g3 g4 : Nat) (A : Option Addr) (n c : Nat) (l : List (List Dy)) (w : World) (h : Sl 1 RM w A n c l) (k3 : Blk w g3 78 #[.func (.func 49) #[] #[]]) (k4 : Blk w g4 89 #[.func (.func 50) #[] #[.pointer (some ⟨g3, 0, none⟩)]]) : Calls Tryz.prog 55 #[.slice A n c, .pointer (some ⟨g4, 0, none⟩)] w (Says (lgM l) w) := by
  have hmf : ∀ (fn : Fn) (first cap : Array Value) (w : World), (Instr.makeFunc fn first cap).run Tryz.prog w = .ok (.func fn first cap) w := fun _ _ _ _ => rfl
  obtain ⟨r, hr⟩ : ∃ r, l.any lgN = r := ⟨_, rfl⟩
  have HV : Hid (lgM l = (decide (10 < n) || r)) := by unfold Hid lgM; rw [h.len, hr]
  have HC := Lib.hid (containsFunc_M lgN 50 #[.pointer (some ⟨g3, 0, none⟩)] A n c l w h (enters Tryz.func50 (by kernel_rfl) rfl) (fun W us d hb _ hr => large2_M g3 us d W hr (k3.next hb)))
  rw [hr] at HC
  have m1 := h.cap
  have m2 := h.max
  have q4 := k4.cells1
  clear h hr
  by_cases hn : 10 < n
  · rw [decide_eq_true hn] at HV
    go_enter Tryz.func55, Tryz.ntmps55
    go_wp2_with fail
    go_ret
    exact ⟨by rw [HV.out]; first | rfl | simp; omega, Below.refl _ _⟩
  · rw [decide_eq_false hn] at HV
    have hd : decide (10 < (n : Int)) = false := decide_eq_false (by omega)
    go_enter Tryz.func55, Tryz.ntmps55
    go_wp2_with fail
    refine HC.out.mono ?_
    rintro e w1 ⟨rfl, hb0⟩
    go_wp2_with fail
    go_ret
    exact ⟨by rw [HV.out]; first | rfl | simp, hb0⟩

set_option maxRecDepth 100000 in
set_option maxHeartbeats 2000000 in
theorem large5_any (g3 g4 g5 g6 g7 : Nat) (vs : List Value) (x : Fr) (w : World) (h : RF w vs x) (E : LgEnv w g3 g4 g5 g6 g7) : Calls Tryz.prog 57 #[.agg vs.toArray, .pointer (some ⟨g4, 0, none⟩), .pointer (some ⟨g6, 0, none⟩), .pointer (some ⟨g5, 0, none⟩)] w (Says (lgF x) w) := by
  obtain ⟨xA, xn, xc, xB, xm, xd, xC, xp, xq, rfl, hx1, hx2, hx3⟩ := h
  have HV : Hid (lgF x = (lgN x.c || lgM x.a || lgB x.r)) := rfl
  have H1 := Lib.hid (fun W (hb : Below w.heap.size w W) => large2_any g3 xA xn xc x.c W (hx1.next lasts_RD hb) (E.next hb).k3)
  have H2 := Lib.hid (fun W (hb : Below w.heap.size w W) => large4_any g3 g4 xB xm xd x.a W (hx2.next lasts_RM hb) (E.next hb).k3 (E.next hb).k4)
  have H3 := Lib.hid (fun W (hb : Below w.heap.size w W) => large3_any g3 xC xp xq x.r W (hx3.next lasts_RI hb) (E.next hb).k3)
  clear hx1 hx2 hx3
  generalize lgN x.c = b1 at *
  generalize lgM x.a = b2 at *
  generalize lgB x.r = b3 at *
  have hb0 := ballo w (.cells #[.slice xA xn xc, .slice xB xm xd, .slice xC xp xq] 39)
  have ka := Blk.new w 39 #[.slice xA xn xc, .slice xB xm xd, .slice xC xp xq]
  have k4 := E.k4.next hb0
  have k5 := E.k5.next hb0
  have k6 := E.k6.next hb0
  clear E
  have p4 := k4.cells1
  have p5 := k5.cells1
  have p6 := k6.cells1
  go_enter Tryz.func57, Tryz.ntmps57
  go_wp2_with fail
  clear p4 p5 p6
  generalize w.alloc (.cells #[.slice xA xn xc, .slice xB xm xd, .slice xC xp xq] 39) = W0 at *
  refine (H1.out _ hb0).mono ?_
  rintro e w1 ⟨rfl, hb1x⟩
  replace hb0 := bnext hb0 hb1x
  replace ka := ka.next hb1x
  replace k4 := k4.next hb1x
  replace k5 := k5.next hb1x
  replace k6 := k6.next hb1x
  clear hb1x
  cases hv1 : b1
  rotate_left
  · rw [hv1] at HV
    clear hv1
    go_wp2_with fail
    go_ret
    exact ⟨by rw [HV.out]; rfl, hb0⟩
  rw [hv1] at HV
  clear hv1
  obtain ⟨kaq0, kaq1, kaq2⟩ := ka.cells3
  have k4q0 := k4.cells1
  have k5q0 := k5.cells1
  have k6q0 := k6.cells1
  go_wp2_with fail
  refine (H2.out _ hb0).mono ?_
  rintro e w2 ⟨rfl, hb2x⟩
  clear kaq0 kaq1 kaq2 k4q0 k5q0 k6q0
  replace hb0 := bnext hb0 hb2x
  replace ka := ka.next hb2x
  replace k4 := k4.next hb2x
  replace k5 := k5.next hb2x
  replace k6 := k6.next hb2x
  clear hb2x
  cases hv1 : b2
  rotate_left
  · rw [hv1] at HV
    clear hv1
    go_wp2_with fail
    go_ret
    exact ⟨by rw [HV.out]; rfl, hb0⟩
  rw [hv1] at HV
  clear hv1
  obtain ⟨kaq0, kaq1, kaq2⟩ := ka.cells3
  have k4q0 := k4.cells1
  have k5q0 := k5.cells1
  have k6q0 := k6.cells1
  go_wp2_with fail
  refine (H3.out _ hb0).mono ?_
  rintro e w3 ⟨rfl, hb3x⟩
  clear kaq0 kaq1 kaq2 k4q0 k5q0 k6q0
  replace hb0 := bnext hb0 hb3x
  replace ka := ka.next hb3x
  replace k4 := k4.next hb3x
  replace k5 := k5.next hb3x
  replace k6 := k6.next hb3x
  clear hb3x
  go_wp2_with fail
  go_ret
  exact ⟨by rw [HV.out]; rfl, hb0⟩

set_option maxRecDepth 100000 in
set_option maxHeartbeats 2000000 in
theorem large6_any (g3 g4 g5 g6 g7 : Nat) (vs : List Value) (x : Lk) (w : World) (h : RL w vs x) (E : LgEnv w g3 g4 g5 g6 g7) : Calls Tryz.prog 59 (#[.agg vs.toArray] ++ #[.pointer (some ⟨g3, 0, none⟩), .pointer (some ⟨g5, 0, none⟩), .pointer (some ⟨g7, 0, none⟩), .pointer (some ⟨g6, 0, none⟩)]) w (Says (lgL x) w) := by
  obtain ⟨xH, xhs, xhc, xT, xtn, xtc, xA, xn, xc, xB, xm, xd, xC, xp, xq, xV, xvn, xvc, rfl, hx1, hx2, hx3, hx4, hx5, hx6⟩ := h
  obtain ⟨⟨xhn, xhl, xhe⟩, xtu, xfe, xv⟩ := x
  dsimp only at hx1 hx2 hx3 hx4 hx5 hx6 ⊢
  have e : (#[.agg #[.bool xhn, .slice xH xhs xhc, .int .i64 xhe, .slice xT xtn xtc, .slice xA xn xc, .slice xB xm xd, .slice xC xp xq, .slice xV xvn xvc]] ++ #[.pointer (some ⟨g3, 0, none⟩), .pointer (some ⟨g5, 0, none⟩), .pointer (some ⟨g7, 0, none⟩), .pointer (some ⟨g6, 0, none⟩)] : Array Value) = #[.agg #[.bool xhn, .slice xH xhs xhc, .int .i64 xhe, .slice xT xtn xtc, .slice xA xn xc, .slice xB xm xd, .slice xC xp xq, .slice xV xvn xvc], .pointer (some ⟨g3, 0, none⟩), .pointer (some ⟨g5, 0, none⟩), .pointer (some ⟨g7, 0, none⟩), .pointer (some ⟨g6, 0, none⟩)] := by simp
  rw [e]
  clear e
  have HV : Hid (lgL ⟨⟨xhn, xhl, xhe⟩, xtu, xfe, xv⟩ = (lgD ⟨xhn, xhl, xhe⟩ || lgB xtu || lgF xfe || lgM xv)) := rfl
  have rx1 : RD w [.bool xhn, .slice xH xhs xhc, .int .i64 xhe] ⟨xhn, xhl, xhe⟩ := ⟨xH, xhs, xhc, rfl, hx1⟩
  have rx2 : RF w [.slice xA xn xc, .slice xB xm xd, .slice xC xp xq] xfe := ⟨xA, xn, xc, xB, xm, xd, xC, xp, xq, rfl, hx3, hx4, hx5⟩
  have H1 := Lib.hid (fun W (hb : Below w.heap.size w W) => large1_any _ _ W (lasts_RD w W _ _ rx1 hb))
  have H2 := Lib.hid (fun W (hb : Below w.heap.size w W) => large3_any g3 xT xtn xtc xtu W (hx2.next lasts_RI hb) (E.next hb).k3)
  have H3 := Lib.hid (fun W (hb : Below w.heap.size w W) => large5_any g3 g4 g5 g6 g7 _ xfe W (lasts_RF w W _ _ rx2 hb) (E.next hb))
  have H4 := Lib.hid (fun W (hb : Below w.heap.size w W) => large4_any g3 g4 xV xvn xvc xv W (hx6.next lasts_RM hb) (E.next hb).k3 (E.next hb).k4)
  clear hx1 hx2 hx3 hx4 hx5 hx6 rx1 rx2
  generalize lgD ⟨xhn, xhl, xhe⟩ = b1 at *
  generalize lgB xtu = b2 at *
  generalize lgF xfe = b3 at *
  generalize lgM xv = b4 at *
  have hb0 := ballo w (.cells #[.bool xhn, .slice xH xhs xhc, .int .i64 xhe, .slice xT xtn xtc, .slice xA xn xc, .slice xB xm xd, .slice xC xp xq, .slice xV xvn xvc] 98)
  have ka := Blk.new w 98 #[.bool xhn, .slice xH xhs xhc, .int .i64 xhe, .slice xT xtn xtc, .slice xA xn xc, .slice xB xm xd, .slice xC xp xq, .slice xV xvn xvc]
  have k3 := E.k3.next hb0
  have k5 := E.k5.next hb0
  have k6 := E.k6.next hb0
  have k7 := E.k7.next hb0
  clear E
  have p3 := k3.cells1
  have p5 := k5.cells1
  have p6 := k6.cells1
  have p7 := k7.cells1
  go_enter Tryz.func59, Tryz.ntmps59
  go_wp2_with fail
  clear p3 p5 p6 p7
  generalize w.alloc (.cells #[.bool xhn, .slice xH xhs xhc, .int .i64 xhe, .slice xT xtn xtc, .slice xA xn xc, .slice xB xm xd, .slice xC xp xq, .slice xV xvn xvc] 98) = W0 at *
  refine (H1.out _ hb0).mono ?_
  rintro e w1 ⟨rfl, hb1x⟩
  replace hb0 := bnext hb0 hb1x
  replace ka := ka.next hb1x
  replace k3 := k3.next hb1x
  replace k5 := k5.next hb1x
  replace k6 := k6.next hb1x
  replace k7 := k7.next hb1x
  clear hb1x
  cases hv1 : b1
  rotate_left
  · rw [hv1] at HV
    clear hv1
    go_wp2_with fail
    go_ret
    exact ⟨by rw [HV.out]; rfl, hb0⟩
  rw [hv1] at HV
  clear hv1
  obtain ⟨kaq0, kaq1, kaq2, kaq3, kaq4, kaq5, kaq6, kaq7⟩ := ka.cells8
  have k3q0 := k3.cells1
  have k5q0 := k5.cells1
  have k6q0 := k6.cells1
  have k7q0 := k7.cells1
  go_wp2_with fail
  refine (H2.out _ hb0).mono ?_
  rintro e w2 ⟨rfl, hb2x⟩
  clear kaq0 kaq1 kaq2 kaq3 kaq4 kaq5 kaq6 kaq7 k3q0 k5q0 k6q0 k7q0
  replace hb0 := bnext hb0 hb2x
  replace ka := ka.next hb2x
  replace k3 := k3.next hb2x
  replace k5 := k5.next hb2x
  replace k6 := k6.next hb2x
  replace k7 := k7.next hb2x
  clear hb2x
  cases hv1 : b2
  rotate_left
  · rw [hv1] at HV
    clear hv1
    go_wp2_with fail
    go_ret
    exact ⟨by rw [HV.out]; rfl, hb0⟩
  rw [hv1] at HV
  clear hv1
  obtain ⟨kaq0, kaq1, kaq2, kaq3, kaq4, kaq5, kaq6, kaq7⟩ := ka.cells8
  have k3q0 := k3.cells1
  have k5q0 := k5.cells1
  have k6q0 := k6.cells1
  have k7q0 := k7.cells1
  go_wp2_with fail
  refine (H3.out _ hb0).mono ?_
  rintro e w3 ⟨rfl, hb3x⟩
  clear kaq0 kaq1 kaq2 kaq3 kaq4 kaq5 kaq6 kaq7 k3q0 k5q0 k6q0 k7q0
  replace hb0 := bnext hb0 hb3x
  replace ka := ka.next hb3x
  replace k3 := k3.next hb3x
  replace k5 := k5.next hb3x
  replace k6 := k6.next hb3x
  replace k7 := k7.next hb3x
  clear hb3x
  cases hv1 : b3
  rotate_left
  · rw [hv1] at HV
    clear hv1
    go_wp2_with fail
    go_ret
    exact ⟨by rw [HV.out]; rfl, hb0⟩
  rw [hv1] at HV
  clear hv1
  obtain ⟨kaq0, kaq1, kaq2, kaq3, kaq4, kaq5, kaq6, kaq7⟩ := ka.cells8
  have k3q0 := k3.cells1
  have k5q0 := k5.cells1
  have k6q0 := k6.cells1
  have k7q0 := k7.cells1
  go_wp2_with fail
  refine (H4.out _ hb0).mono ?_
  rintro e w4 ⟨rfl, hb4x⟩
  clear kaq0 kaq1 kaq2 kaq3 kaq4 kaq5 kaq6 kaq7 k3q0 k5q0 k6q0 k7q0
  replace hb0 := bnext hb0 hb4x
  replace ka := ka.next hb4x
  replace k3 := k3.next hb4x
  replace k5 := k5.next hb4x
  replace k6 := k6.next hb4x
  replace k7 := k7.next hb4x
  clear hb4x
  go_wp2_with fail
  go_ret
  exact ⟨by rw [HV.out]; rfl, hb0⟩

set_option maxRecDepth 100000 in
set_option maxHeartbeats 4000000 in
theorem large_any (vs : List Value) (x : Ct) (w : World) (h : RC w vs x) : Calls Tryz.prog 15 #[.agg vs.toArray] w (Says (lgC x) w) := by
  have hmf : ∀ (fn : Fn) (first cap : Array Value) (w : World), (Instr.makeFunc fn first cap).run Tryz.prog w = .ok (.func fn first cap) w := fun _ _ _ _ => rfl
  obtain ⟨xA, xn, xc, xB, xm, xd, xC, xp, xq, xL, xln, xlc, rfl, hx1, hx2, hx3, hx4⟩ := h
  obtain ⟨xpr, xod, xst, xls⟩ := x
  dsimp only at hx1 hx2 hx3 hx4 ⊢
  have HV : Hid (lgC ⟨xpr, xod, xst, xls⟩ = (decide (12 < xln) || lgF xst || xls.any lgL)) := by unfold Hid lgC; dsimp only; rw [hx4.len]
  have rx2 : RF w [.slice xA xn xc, .slice xB xm xd, .slice xC xp xq] xst := ⟨xA, xn, xc, xB, xm, xd, xC, xp, xq, rfl, hx1, hx2, hx3⟩
  have H1 := Lib.hid (fun W (hb : Below w.heap.size w W) (g3 g4 g5 g6 g7 : Nat) (E : LgEnv W g3 g4 g5 g6 g7) => large5_any g3 g4 g5 g6 g7 _ xst W (lasts_RF w W _ _ rx2 hb) E)
  have H2 := Lib.hid (fun W (hb : Below w.heap.size w W) (g3 g4 g5 g6 g7 : Nat) (E : LgEnv W g3 g4 g5 g6 g7) => containsFunc_L lgL 59 #[.pointer (some ⟨g3, 0, none⟩), .pointer (some ⟨g5, 0, none⟩), .pointer (some ⟨g7, 0, none⟩), .pointer (some ⟨g6, 0, none⟩)] xL xln xlc xls W (hx4.next lasts_RL hb) (enters Tryz.func59 (by kernel_rfl) rfl) (fun V us y hb' _ hr => large6_any g3 g4 g5 g6 g7 us y V hr (E.next hb')))
  have m1 := hx4.cap
  have m2 := hx4.max
  clear hx1 hx2 hx3 hx4 rx2
  generalize lgF xst = b1 at *
  generalize xls.any lgL = b2 at *
  have hb0 := bnext (bnext (bnext (bnext (bnext (ballo w (.cells #[.int .i64 xpr, .int .i64 xod, .slice xA xn xc, .slice xB xm xd, .slice xC xp xq, .slice xL xln xlc] 42)) (ballo (w.alloc (.cells #[.int .i64 xpr, .int .i64 xod, .slice xA xn xc, .slice xB xm xd, .slice xC xp xq, .slice xL xln xlc] 42)) (.cells #[.func (.func 49) #[] #[]] 78))) (ballo ((w.alloc (.cells #[.int .i64 xpr, .int .i64 xod, .slice xA xn xc, .slice xB xm xd, .slice xC xp xq, .slice xL xln xlc] 42)).alloc (.cells #[.func (.func 49) #[] #[]] 78)) (.cells #[.func (.func 50) #[] #[.pointer (some ⟨w.heap.size + 1, 0, none⟩)]] 89))) (ballo (((w.alloc (.cells #[.int .i64 xpr, .int .i64 xod, .slice xA xn xc, .slice xB xm xd, .slice xC xp xq, .slice xL xln xlc] 42)).alloc (.cells #[.func (.func 49) #[] #[]] 78)).alloc (.cells #[.func (.func 50) #[] #[.pointer (some ⟨w.heap.size + 1, 0, none⟩)]] 89)) (.cells #[.func (.func 52) #[] #[.pointer (some ⟨w.heap.size + 1, 0, none⟩)]] 92))) (ballo ((((w.alloc (.cells #[.int .i64 xpr, .int .i64 xod, .slice xA xn xc, .slice xB xm xd, .slice xC xp xq, .slice xL xln xlc] 42)).alloc (.cells #[.func (.func 49) #[] #[]] 78)).alloc (.cells #[.func (.func 50) #[] #[.pointer (some ⟨w.heap.size + 1, 0, none⟩)]] 89)).alloc (.cells #[.func (.func 52) #[] #[.pointer (some ⟨w.heap.size + 1, 0, none⟩)]] 92)) (.cells #[.func (.func 55) #[] #[.pointer (some ⟨w.heap.size + 1 + 1, 0, none⟩)]] 94))) (ballo (((((w.alloc (.cells #[.int .i64 xpr, .int .i64 xod, .slice xA xn xc, .slice xB xm xd, .slice xC xp xq, .slice xL xln xlc] 42)).alloc (.cells #[.func (.func 49) #[] #[]] 78)).alloc (.cells #[.func (.func 50) #[] #[.pointer (some ⟨w.heap.size + 1, 0, none⟩)]] 89)).alloc (.cells #[.func (.func 52) #[] #[.pointer (some ⟨w.heap.size + 1, 0, none⟩)]] 92)).alloc (.cells #[.func (.func 55) #[] #[.pointer (some ⟨w.heap.size + 1 + 1, 0, none⟩)]] 94)) (.cells #[.func (.func 57) #[] #[.pointer (some ⟨w.heap.size + 1 + 1, 0, none⟩), .pointer (some ⟨w.heap.size + 1 + 1 + 1 + 1, 0, none⟩), .pointer (some ⟨w.heap.size + 1 + 1 + 1, 0, none⟩)]] 95))
  have ka := ((((((Blk.newAt w 42 #[.int .i64 xpr, .int .i64 xod, .slice xA xn xc, .slice xB xm xd, .slice xC xp xq, .slice xL xln xlc] (g := w.heap.size) (by simp)).next (ballo (w.alloc (.cells #[.int .i64 xpr, .int .i64 xod, .slice xA xn xc, .slice xB xm xd, .slice xC xp xq, .slice xL xln xlc] 42)) (.cells #[.func (.func 49) #[] #[]] 78))).next (ballo ((w.alloc (.cells #[.int .i64 xpr, .int .i64 xod, .slice xA xn xc, .slice xB xm xd, .slice xC xp xq, .slice xL xln xlc] 42)).alloc (.cells #[.func (.func 49) #[] #[]] 78)) (.cells #[.func (.func 50) #[] #[.pointer (some ⟨w.heap.size + 1, 0, none⟩)]] 89))).next (ballo (((w.alloc (.cells #[.int .i64 xpr, .int .i64 xod, .slice xA xn xc, .slice xB xm xd, .slice xC xp xq, .slice xL xln xlc] 42)).alloc (.cells #[.func (.func 49) #[] #[]] 78)).alloc (.cells #[.func (.func 50) #[] #[.pointer (some ⟨w.heap.size + 1, 0, none⟩)]] 89)) (.cells #[.func (.func 52) #[] #[.pointer (some ⟨w.heap.size + 1, 0, none⟩)]] 92))).next (ballo ((((w.alloc (.cells #[.int .i64 xpr, .int .i64 xod, .slice xA xn xc, .slice xB xm xd, .slice xC xp xq, .slice xL xln xlc] 42)).alloc (.cells #[.func (.func 49) #[] #[]] 78)).alloc (.cells #[.func (.func 50) #[] #[.pointer (some ⟨w.heap.size + 1, 0, none⟩)]] 89)).alloc (.cells #[.func (.func 52) #[] #[.pointer (some ⟨w.heap.size + 1, 0, none⟩)]] 92)) (.cells #[.func (.func 55) #[] #[.pointer (some ⟨w.heap.size + 1 + 1, 0, none⟩)]] 94))).next (ballo (((((w.alloc (.cells #[.int .i64 xpr, .int .i64 xod, .slice xA xn xc, .slice xB xm xd, .slice xC xp xq, .slice xL xln xlc] 42)).alloc (.cells #[.func (.func 49) #[] #[]] 78)).alloc (.cells #[.func (.func 50) #[] #[.pointer (some ⟨w.heap.size + 1, 0, none⟩)]] 89)).alloc (.cells #[.func (.func 52) #[] #[.pointer (some ⟨w.heap.size + 1, 0, none⟩)]] 92)).alloc (.cells #[.func (.func 55) #[] #[.pointer (some ⟨w.heap.size + 1 + 1, 0, none⟩)]] 94)) (.cells #[.func (.func 57) #[] #[.pointer (some ⟨w.heap.size + 1 + 1, 0, none⟩), .pointer (some ⟨w.heap.size + 1 + 1 + 1 + 1, 0, none⟩), .pointer (some ⟨w.heap.size + 1 + 1 + 1, 0, none⟩)]] 95)))
  have E : LgEnv ((((((w.alloc (.cells #[.int .i64 xpr, .int .i64 xod, .slice xA xn xc, .slice xB xm xd, .slice xC xp xq, .slice xL xln xlc] 42)).alloc (.cells #[.func (.func 49) #[] #[]] 78)).alloc (.cells #[.func (.func 50) #[] #[.pointer (some ⟨w.heap.size + 1, 0, none⟩)]] 89)).alloc (.cells #[.func (.func 52) #[] #[.pointer (some ⟨w.heap.size + 1, 0, none⟩)]] 92)).alloc (.cells #[.func (.func 55) #[] #[.pointer (some ⟨w.heap.size + 1 + 1, 0, none⟩)]] 94)).alloc (.cells #[.func (.func 57) #[] #[.pointer (some ⟨w.heap.size + 1 + 1, 0, none⟩), .pointer (some ⟨w.heap.size + 1 + 1 + 1 + 1, 0, none⟩), .pointer (some ⟨w.heap.size + 1 + 1 + 1, 0, none⟩)]] 95)) (w.heap.size + 1) (w.heap.size + 1 + 1) (w.heap.size + 1 + 1 + 1) (w.heap.size + 1 + 1 + 1 + 1) (w.heap.size + 1 + 1 + 1 + 1 + 1) := ⟨(((((Blk.newAt (w.alloc (.cells #[.int .i64 xpr, .int .i64 xod, .slice xA xn xc, .slice xB xm xd, .slice xC xp xq, .slice xL xln xlc] 42)) 78 #[.func (.func 49) #[] #[]] (g := w.heap.size + 1) (by simp)).next (ballo ((w.alloc (.cells #[.int .i64 xpr, .int .i64 xod, .slice xA xn xc, .slice xB xm xd, .slice xC xp xq, .slice xL xln xlc] 42)).alloc (.cells #[.func (.func 49) #[] #[]] 78)) (.cells #[.func (.func 50) #[] #[.pointer (some ⟨w.heap.size + 1, 0, none⟩)]] 89))).next (ballo (((w.alloc (.cells #[.int .i64 xpr, .int .i64 xod, .slice xA xn xc, .slice xB xm xd, .slice xC xp xq, .slice xL xln xlc] 42)).alloc (.cells #[.func (.func 49) #[] #[]] 78)).alloc (.cells #[.func (.func 50) #[] #[.pointer (some ⟨w.heap.size + 1, 0, none⟩)]] 89)) (.cells #[.func (.func 52) #[] #[.pointer (some ⟨w.heap.size + 1, 0, none⟩)]] 92))).next (ballo ((((w.alloc (.cells #[.int .i64 xpr, .int .i64 xod, .slice xA xn xc, .slice xB xm xd, .slice xC xp xq, .slice xL xln xlc] 42)).alloc (.cells #[.func (.func 49) #[] #[]] 78)).alloc (.cells #[.func (.func 50) #[] #[.pointer (some ⟨w.heap.size + 1, 0, none⟩)]] 89)).alloc (.cells #[.func (.func 52) #[] #[.pointer (some ⟨w.heap.size + 1, 0, none⟩)]] 92)) (.cells #[.func (.func 55) #[] #[.pointer (some ⟨w.heap.size + 1 + 1, 0, none⟩)]] 94))).next (ballo (((((w.alloc (.cells #[.int .i64 xpr, .int .i64 xod, .slice xA xn xc, .slice xB xm xd, .slice xC xp xq, .slice xL xln xlc] 42)).alloc (.cells #[.func (.func 49) #[] #[]] 78)).alloc (.cells #[.func (.func 50) #[] #[.pointer (some ⟨w.heap.size + 1, 0, none⟩)]] 89)).alloc (.cells #[.func (.func 52) #[] #[.pointer (some ⟨w.heap.size + 1, 0, none⟩)]] 92)).alloc (.cells #[.func (.func 55) #[] #[.pointer (some ⟨w.heap.size + 1 + 1, 0, none⟩)]] 94)) (.cells #[.func (.func 57) #[] #[.pointer (some ⟨w.heap.size + 1 + 1, 0, none⟩), .pointer (some ⟨w.heap.size + 1 + 1 + 1 + 1, 0, none⟩), .pointer (some ⟨w.heap.size + 1 + 1 + 1, 0, none⟩)]] 95))), ((((Blk.newAt ((w.alloc (.cells #[.int .i64 xpr, .int .i64 xod, .slice xA xn xc, .slice xB xm xd, .slice xC xp xq, .slice xL xln xlc] 42)).alloc (.cells #[.func (.func 49) #[] #[]] 78)) 89 #[.func (.func 50) #[] #[.pointer (some ⟨w.heap.size + 1, 0, none⟩)]] (g := w.heap.size + 1 + 1) (by simp)).next (ballo (((w.alloc (.cells #[.int .i64 xpr, .int .i64 xod, .slice xA xn xc, .slice xB xm xd, .slice xC xp xq, .slice xL xln xlc] 42)).alloc (.cells #[.func (.func 49) #[] #[]] 78)).alloc (.cells #[.func (.func 50) #[] #[.pointer (some ⟨w.heap.size + 1, 0, none⟩)]] 89)) (.cells #[.func (.func 52) #[] #[.pointer (some ⟨w.heap.size + 1, 0, none⟩)]] 92))).next (ballo ((((w.alloc (.cells #[.int .i64 xpr, .int .i64 xod, .slice xA xn xc, .slice xB xm xd, .slice xC xp xq, .slice xL xln xlc] 42)).alloc (.cells #[.func (.func 49) #[] #[]] 78)).alloc (.cells #[.func (.func 50) #[] #[.pointer (some ⟨w.heap.size + 1, 0, none⟩)]] 89)).alloc (.cells #[.func (.func 52) #[] #[.pointer (some ⟨w.heap.size + 1, 0, none⟩)]] 92)) (.cells #[.func (.func 55) #[] #[.pointer (some ⟨w.heap.size + 1 + 1, 0, none⟩)]] 94))).next (ballo (((((w.alloc (.cells #[.int .i64 xpr, .int .i64 xod, .slice xA xn xc, .slice xB xm xd, .slice xC xp xq, .slice xL xln xlc] 42)).alloc (.cells #[.func (.func 49) #[] #[]] 78)).alloc (.cells #[.func (.func 50) #[] #[.pointer (some ⟨w.heap.size + 1, 0, none⟩)]] 89)).alloc (.cells #[.func (.func 52) #[] #[.pointer (some ⟨w.heap.size + 1, 0, none⟩)]] 92)).alloc (.cells #[.func (.func 55) #[] #[.pointer (some ⟨w.heap.size + 1 + 1, 0, none⟩)]] 94)) (.cells #[.func (.func 57) #[] #[.pointer (some ⟨w.heap.size + 1 + 1, 0, none⟩), .pointer (some ⟨w.heap.size + 1 + 1 + 1 + 1, 0, none⟩), .pointer (some ⟨w.heap.size + 1 + 1 + 1, 0, none⟩)]] 95))), (((Blk.newAt (((w.alloc (.cells #[.int .i64 xpr, .int .i64 xod, .slice xA xn xc, .slice xB xm xd, .slice xC xp xq, .slice xL xln xlc] 42)).alloc (.cells #[.func (.func 49) #[] #[]] 78)).alloc (.cells #[.func (.func 50) #[] #[.pointer (some ⟨w.heap.size + 1, 0, none⟩)]] 89)) 92 #[.func (.func 52) #[] #[.pointer (some ⟨w.heap.size + 1, 0, none⟩)]] (g := w.heap.size + 1 + 1 + 1) (by simp)).next (ballo ((((w.alloc (.cells #[.int .i64 xpr, .int .i64 xod, .slice xA xn xc, .slice xB xm xd, .slice xC xp xq, .slice xL xln xlc] 42)).alloc (.cells #[.func (.func 49) #[] #[]] 78)).alloc (.cells #[.func (.func 50) #[] #[.pointer (some ⟨w.heap.size + 1, 0, none⟩)]] 89)).alloc (.cells #[.func (.func 52) #[] #[.pointer (some ⟨w.heap.size + 1, 0, none⟩)]] 92)) (.cells #[.func (.func 55) #[] #[.pointer (some ⟨w.heap.size + 1 + 1, 0, none⟩)]] 94))).next (ballo (((((w.alloc (.cells #[.int .i64 xpr, .int .i64 xod, .slice xA xn xc, .slice xB xm xd, .slice xC xp xq, .slice xL xln xlc] 42)).alloc (.cells #[.func (.func 49) #[] #[]] 78)).alloc (.cells #[.func (.func 50) #[] #[.pointer (some ⟨w.heap.size + 1, 0, none⟩)]] 89)).alloc (.cells #[.func (.func 52) #[] #[.pointer (some ⟨w.heap.size + 1, 0, none⟩)]] 92)).alloc (.cells #[.func (.func 55) #[] #[.pointer (some ⟨w.heap.size + 1 + 1, 0, none⟩)]] 94)) (.cells #[.func (.func 57) #[] #[.pointer (some ⟨w.heap.size + 1 + 1, 0, none⟩), .pointer (some ⟨w.heap.size + 1 + 1 + 1 + 1, 0, none⟩), .pointer (some ⟨w.heap.size + 1 + 1 + 1, 0, none⟩)]] 95))), ((Blk.newAt ((((w.alloc (.cells #[.int .i64 xpr, .int .i64 xod, .slice xA xn xc, .slice xB xm xd, .slice xC xp xq, .slice xL xln xlc] 42)).alloc (.cells #[.func (.func 49) #[] #[]] 78)).alloc (.cells #[.func (.func 50) #[] #[.pointer (some ⟨w.heap.size + 1, 0, none⟩)]] 89)).alloc (.cells #[.func (.func 52) #[] #[.pointer (some ⟨w.heap.size + 1, 0, none⟩)]] 92)) 94 #[.func (.func 55) #[] #[.pointer (some ⟨w.heap.size + 1 + 1, 0, none⟩)]] (g := w.heap.size + 1 + 1 + 1 + 1) (by simp)).next (ballo (((((w.alloc (.cells #[.int .i64 xpr, .int .i64 xod, .slice xA xn xc, .slice xB xm xd, .slice xC xp xq, .slice xL xln xlc] 42)).alloc (.cells #[.func (.func 49) #[] #[]] 78)).alloc (.cells #[.func (.func 50) #[] #[.pointer (some ⟨w.heap.size + 1, 0, none⟩)]] 89)).alloc (.cells #[.func (.func 52) #[] #[.pointer (some ⟨w.heap.size + 1, 0, none⟩)]] 92)).alloc (.cells #[.func (.func 55) #[] #[.pointer (some ⟨w.heap.size + 1 + 1, 0, none⟩)]] 94)) (.cells #[.func (.func 57) #[] #[.pointer (some ⟨w.heap.size + 1 + 1, 0, none⟩), .pointer (some ⟨w.heap.size + 1 + 1 + 1 + 1, 0, none⟩), .pointer (some ⟨w.heap.size + 1 + 1 + 1, 0, none⟩)]] 95))), Blk.newAt _ _ _ (by simp)⟩
  by_cases hn : 12 < xln
  · rw [decide_eq_true hn] at HV
    clear ka E H1 H2
    go_enter Tryz.func15, Tryz.ntmps15
    go_wp2_with fail
    go_ret
    exact ⟨by rw [HV.out]; first | rfl | simp; omega, hb0⟩
  rw [decide_eq_false hn] at HV
  have hd : decide (12 < (xln : Int)) = false := decide_eq_false (by omega)
  go_enter Tryz.func15, Tryz.ntmps15
  go_wp2_with fail
  generalize ((((((w.alloc (.cells #[.int .i64 xpr, .int .i64 xod, .slice xA xn xc, .slice xB xm xd, .slice xC xp xq, .slice xL xln xlc] 42)).alloc (.cells #[.func (.func 49) #[] #[]] 78)).alloc (.cells #[.func (.func 50) #[] #[.pointer (some ⟨w.heap.size + 1, 0, none⟩)]] 89)).alloc (.cells #[.func (.func 52) #[] #[.pointer (some ⟨w.heap.size + 1, 0, none⟩)]] 92)).alloc (.cells #[.func (.func 55) #[] #[.pointer (some ⟨w.heap.size + 1 + 1, 0, none⟩)]] 94)).alloc (.cells #[.func (.func 57) #[] #[.pointer (some ⟨w.heap.size + 1 + 1, 0, none⟩), .pointer (some ⟨w.heap.size + 1 + 1 + 1 + 1, 0, none⟩), .pointer (some ⟨w.heap.size + 1 + 1 + 1, 0, none⟩)]] 95)) = W0 at *
  refine (H1.out _ hb0 _ _ _ _ _ E).mono ?_
  rintro e w1 ⟨rfl, hb1x⟩
  replace hb0 := bnext hb0 hb1x
  replace ka := ka.next hb1x
  replace E := E.next hb1x
  clear hb1x
  cases hv1 : b1
  rotate_left
  · rw [hv1] at HV
    clear hv1
    go_wp2_with fail
    go_ret
    exact ⟨by rw [HV.out]; rfl, hb0⟩
  rw [hv1] at HV
  clear hv1
  obtain ⟨kaq0, kaq1, kaq2, kaq3, kaq4, kaq5⟩ := ka.cells6
  have p3 := E.k3.cells1
  have p4 := E.k4.cells1
  have p5 := E.k5.cells1
  have p6 := E.k6.cells1
  have p7 := E.k7.cells1
  go_wp2_with fail
  clear p3 p4 p5 p6 p7
  refine (H2.out _ hb0 _ _ _ _ _ E).mono ?_
  rintro e w2 ⟨rfl, hb2x⟩
  clear kaq0 kaq1 kaq2 kaq3 kaq4 kaq5
  replace hb0 := bnext hb0 hb2x
  replace ka := ka.next hb2x
  replace E := E.next hb2x
  clear hb2x
  go_wp2_with fail
  go_ret
  exact ⟨by rw [HV.out]; rfl, hb0⟩

end Go.Proofs.YtekajoifgdpmlaaGreatDoor

/-! K3 -/
namespace Go.Proofs.YtekajoifgdpmlaaGreatDoor
open Go.RowKit Pl Go.Shelf

theorem Sl.singleK {α : Type} {k : Nat} {R : World → List Value → α → Prop} {w : World} {g : Nat} {t : TypeId} {cs : List Value} {d : α} (hk : Blk w g t cs.toArray) (hl : cs.length = k) (hR : R w cs d) : Sl k R w (some ⟨g, 0, none⟩) 1 1 [d] :=
  ⟨rfl, by omega, by omega, fun _ => ⟨g, 0, rfl, hk.lt, fun j x hj => by
    match j, hj with
    | 0, hj =>
      simp at hj
      subst hj
      refine ⟨_, hl, hR, fun i v hv => ?_⟩
      rw [Nat.zero_mul, Nat.add_zero, Nat.zero_add, hk.cell i]
      simpa using hv
    | j + 1, hj => simp at hj⟩⟩
def oneE : Dy := ⟨false, [1], 0⟩
def exC : Ct := ⟨60, 4, ⟨[oneE], [[oneE]], [⟨⟨false, [], 0⟩, ⟨false, [], 0⟩, false⟩]⟩, []⟩
def exT : List UInt8 := [99, 101, 114, 116, 105, 102, 105, 99, 97, 116, 101, 32, 54, 48, 32, 52, 32, 49, 32, 48, 10, 99, 32, 49, 112, 48, 10, 97, 32, 49, 112, 48, 10, 114, 32, 48, 32, 48, 10, 101, 110, 100, 10]
theorem exC_v : ctV exC = true := by decide +kernel
theorem exC_t : textC exC = exT := by decide +kernel
theorem exC_bd : BdC exC := ⟨⟨by simp [exC, Bd, oneE], by simp [exC, Bd, oneE], by simp [exC, BdI, Bd]⟩, by simp [exC]⟩
theorem exC_lm : LmC exC := ⟨⟨by simp [exC, oneE, Limbs], by simp [exC, oneE, Limbs], by simp [exC, LmI, Limbs]⟩, by simp [exC]⟩
theorem exC_enc : encC exC = (exT, 0) := by
  unfold encC
  rw [if_pos exC_v, exC_t, if_neg (by decide)]
theorem exC_dec : decP exT = (exC, 0, 0, 0) := by
  rw [← exC_t]
  exact dec_text exC_v exC_lm (by rw [exC_t]; decide)
theorem exC_eq : ctE exC exC = true := by rw [ctE_self exC_lm, exC_v]
theorem Ev.step {w w' : World} (h : Ev w.heap.size w) (hb : Below w.heap.size w w') : Ev w'.heap.size w' := (h.next hb).mono hb.size

set_option maxRecDepth 100000 in
set_option maxHeartbeats 4000000 in
theorem cawake_any (w : World) (he : Ev w.heap.size w) : Calls Tryz.prog 14 #[] w (Says true w) := by
  have HE := Lib.hid he
  clear he
  go_enter Tryz.func14, Tryz.ntmps14
  go_wp2_with fail
  refine (rint_one _).mono ?_
  rintro e w1 ⟨A, n, c, rfl, hs, hf, hb⟩
  dsimp only at hs
  have hb2 := (bnext (bnext (bnext (bnext (bnext (ballo w1 (.cells #[.bool false, .slice A n c, .int .i64 0] 25)) (ballo (w1.alloc (.cells #[.bool false, .slice A n c, .int .i64 0] 25)) (.cells #[.bool false, .slice A n c, .int .i64 0] 25))) (ballo ((w1.alloc (.cells #[.bool false, .slice A n c, .int .i64 0] 25)).alloc (.cells #[.bool false, .slice A n c, .int .i64 0] 25)) (.cells #[.bool false, .slice A n c, .int .i64 0] 25))) (ballo (((w1.alloc (.cells #[.bool false, .slice A n c, .int .i64 0] 25)).alloc (.cells #[.bool false, .slice A n c, .int .i64 0] 25)).alloc (.cells #[.bool false, .slice A n c, .int .i64 0] 25)) (.cells #[.slice (some ⟨w1.heap.size + 1 + 1, 0, none⟩) 1 1] 35))) (ballo ((((w1.alloc (.cells #[.bool false, .slice A n c, .int .i64 0] 25)).alloc (.cells #[.bool false, .slice A n c, .int .i64 0] 25)).alloc (.cells #[.bool false, .slice A n c, .int .i64 0] 25)).alloc (.cells #[.slice (some ⟨w1.heap.size + 1 + 1, 0, none⟩) 1 1] 35)) (.cells #[.bool false, .slice none 0 0, .int .i64 0, .bool false, .slice none 0 0, .int .i64 0, .bool false] 87))) (ballo (((((w1.alloc (.cells #[.bool false, .slice A n c, .int .i64 0] 25)).alloc (.cells #[.bool false, .slice A n c, .int .i64 0] 25)).alloc (.cells #[.bool false, .slice A n c, .int .i64 0] 25)).alloc (.cells #[.slice (some ⟨w1.heap.size + 1 + 1, 0, none⟩) 1 1] 35)).alloc (.cells #[.bool false, .slice none 0 0, .int .i64 0, .bool false, .slice none 0 0, .int .i64 0, .bool false] 87)) (.cells #[.int .i64 60, .int .i64 4, .slice (some ⟨w1.heap.size + 1, 0, none⟩) 1 1, .slice (some ⟨w1.heap.size + 1 + 1 + 1, 0, none⟩) 1 1, .slice (some ⟨w1.heap.size + 1 + 1 + 1 + 1, 0, none⟩) 1 1, .slice none 0 0] 42)))
  have k1 : Blk ((((((w1.alloc (.cells #[.bool false, .slice A n c, .int .i64 0] 25)).alloc (.cells #[.bool false, .slice A n c, .int .i64 0] 25)).alloc (.cells #[.bool false, .slice A n c, .int .i64 0] 25)).alloc (.cells #[.slice (some ⟨w1.heap.size + 1 + 1, 0, none⟩) 1 1] 35)).alloc (.cells #[.bool false, .slice none 0 0, .int .i64 0, .bool false, .slice none 0 0, .int .i64 0, .bool false] 87)).alloc (.cells #[.int .i64 60, .int .i64 4, .slice (some ⟨w1.heap.size + 1, 0, none⟩) 1 1, .slice (some ⟨w1.heap.size + 1 + 1 + 1, 0, none⟩) 1 1, .slice (some ⟨w1.heap.size + 1 + 1 + 1 + 1, 0, none⟩) 1 1, .slice none 0 0] 42)) (w1.heap.size + 1) 25 #[.bool false, .slice A n c, .int .i64 0] := ((Blk.newAt (w1.alloc (.cells #[.bool false, .slice A n c, .int .i64 0] 25)) _ _ (g := w1.heap.size + 1) (by simp)).next (bnext (bnext (bnext (ballo ((w1.alloc (.cells #[.bool false, .slice A n c, .int .i64 0] 25)).alloc (.cells #[.bool false, .slice A n c, .int .i64 0] 25)) (.cells #[.bool false, .slice A n c, .int .i64 0] 25)) (ballo (((w1.alloc (.cells #[.bool false, .slice A n c, .int .i64 0] 25)).alloc (.cells #[.bool false, .slice A n c, .int .i64 0] 25)).alloc (.cells #[.bool false, .slice A n c, .int .i64 0] 25)) (.cells #[.slice (some ⟨w1.heap.size + 1 + 1, 0, none⟩) 1 1] 35))) (ballo ((((w1.alloc (.cells #[.bool false, .slice A n c, .int .i64 0] 25)).alloc (.cells #[.bool false, .slice A n c, .int .i64 0] 25)).alloc (.cells #[.bool false, .slice A n c, .int .i64 0] 25)).alloc (.cells #[.slice (some ⟨w1.heap.size + 1 + 1, 0, none⟩) 1 1] 35)) (.cells #[.bool false, .slice none 0 0, .int .i64 0, .bool false, .slice none 0 0, .int .i64 0, .bool false] 87))) (ballo (((((w1.alloc (.cells #[.bool false, .slice A n c, .int .i64 0] 25)).alloc (.cells #[.bool false, .slice A n c, .int .i64 0] 25)).alloc (.cells #[.bool false, .slice A n c, .int .i64 0] 25)).alloc (.cells #[.slice (some ⟨w1.heap.size + 1 + 1, 0, none⟩) 1 1] 35)).alloc (.cells #[.bool false, .slice none 0 0, .int .i64 0, .bool false, .slice none 0 0, .int .i64 0, .bool false] 87)) (.cells #[.int .i64 60, .int .i64 4, .slice (some ⟨w1.heap.size + 1, 0, none⟩) 1 1, .slice (some ⟨w1.heap.size + 1 + 1 + 1, 0, none⟩) 1 1, .slice (some ⟨w1.heap.size + 1 + 1 + 1 + 1, 0, none⟩) 1 1, .slice none 0 0] 42))))
  have k2 : Blk ((((((w1.alloc (.cells #[.bool false, .slice A n c, .int .i64 0] 25)).alloc (.cells #[.bool false, .slice A n c, .int .i64 0] 25)).alloc (.cells #[.bool false, .slice A n c, .int .i64 0] 25)).alloc (.cells #[.slice (some ⟨w1.heap.size + 1 + 1, 0, none⟩) 1 1] 35)).alloc (.cells #[.bool false, .slice none 0 0, .int .i64 0, .bool false, .slice none 0 0, .int .i64 0, .bool false] 87)).alloc (.cells #[.int .i64 60, .int .i64 4, .slice (some ⟨w1.heap.size + 1, 0, none⟩) 1 1, .slice (some ⟨w1.heap.size + 1 + 1 + 1, 0, none⟩) 1 1, .slice (some ⟨w1.heap.size + 1 + 1 + 1 + 1, 0, none⟩) 1 1, .slice none 0 0] 42)) (w1.heap.size + 1 + 1) 25 #[.bool false, .slice A n c, .int .i64 0] := ((Blk.newAt ((w1.alloc (.cells #[.bool false, .slice A n c, .int .i64 0] 25)).alloc (.cells #[.bool false, .slice A n c, .int .i64 0] 25)) _ _ (g := w1.heap.size + 1 + 1) (by simp)).next (bnext (bnext (ballo (((w1.alloc (.cells #[.bool false, .slice A n c, .int .i64 0] 25)).alloc (.cells #[.bool false, .slice A n c, .int .i64 0] 25)).alloc (.cells #[.bool false, .slice A n c, .int .i64 0] 25)) (.cells #[.slice (some ⟨w1.heap.size + 1 + 1, 0, none⟩) 1 1] 35)) (ballo ((((w1.alloc (.cells #[.bool false, .slice A n c, .int .i64 0] 25)).alloc (.cells #[.bool false, .slice A n c, .int .i64 0] 25)).alloc (.cells #[.bool false, .slice A n c, .int .i64 0] 25)).alloc (.cells #[.slice (some ⟨w1.heap.size + 1 + 1, 0, none⟩) 1 1] 35)) (.cells #[.bool false, .slice none 0 0, .int .i64 0, .bool false, .slice none 0 0, .int .i64 0, .bool false] 87))) (ballo (((((w1.alloc (.cells #[.bool false, .slice A n c, .int .i64 0] 25)).alloc (.cells #[.bool false, .slice A n c, .int .i64 0] 25)).alloc (.cells #[.bool false, .slice A n c, .int .i64 0] 25)).alloc (.cells #[.slice (some ⟨w1.heap.size + 1 + 1, 0, none⟩) 1 1] 35)).alloc (.cells #[.bool false, .slice none 0 0, .int .i64 0, .bool false, .slice none 0 0, .int .i64 0, .bool false] 87)) (.cells #[.int .i64 60, .int .i64 4, .slice (some ⟨w1.heap.size + 1, 0, none⟩) 1 1, .slice (some ⟨w1.heap.size + 1 + 1 + 1, 0, none⟩) 1 1, .slice (some ⟨w1.heap.size + 1 + 1 + 1 + 1, 0, none⟩) 1 1, .slice none 0 0] 42))))
  have k3 : Blk ((((((w1.alloc (.cells #[.bool false, .slice A n c, .int .i64 0] 25)).alloc (.cells #[.bool false, .slice A n c, .int .i64 0] 25)).alloc (.cells #[.bool false, .slice A n c, .int .i64 0] 25)).alloc (.cells #[.slice (some ⟨w1.heap.size + 1 + 1, 0, none⟩) 1 1] 35)).alloc (.cells #[.bool false, .slice none 0 0, .int .i64 0, .bool false, .slice none 0 0, .int .i64 0, .bool false] 87)).alloc (.cells #[.int .i64 60, .int .i64 4, .slice (some ⟨w1.heap.size + 1, 0, none⟩) 1 1, .slice (some ⟨w1.heap.size + 1 + 1 + 1, 0, none⟩) 1 1, .slice (some ⟨w1.heap.size + 1 + 1 + 1 + 1, 0, none⟩) 1 1, .slice none 0 0] 42)) (w1.heap.size + 1 + 1 + 1) 35 #[.slice (some ⟨w1.heap.size + 1 + 1, 0, none⟩) 1 1] := ((Blk.newAt (((w1.alloc (.cells #[.bool false, .slice A n c, .int .i64 0] 25)).alloc (.cells #[.bool false, .slice A n c, .int .i64 0] 25)).alloc (.cells #[.bool false, .slice A n c, .int .i64 0] 25)) _ _ (g := w1.heap.size + 1 + 1 + 1) (by simp)).next (bnext (ballo ((((w1.alloc (.cells #[.bool false, .slice A n c, .int .i64 0] 25)).alloc (.cells #[.bool false, .slice A n c, .int .i64 0] 25)).alloc (.cells #[.bool false, .slice A n c, .int .i64 0] 25)).alloc (.cells #[.slice (some ⟨w1.heap.size + 1 + 1, 0, none⟩) 1 1] 35)) (.cells #[.bool false, .slice none 0 0, .int .i64 0, .bool false, .slice none 0 0, .int .i64 0, .bool false] 87)) (ballo (((((w1.alloc (.cells #[.bool false, .slice A n c, .int .i64 0] 25)).alloc (.cells #[.bool false, .slice A n c, .int .i64 0] 25)).alloc (.cells #[.bool false, .slice A n c, .int .i64 0] 25)).alloc (.cells #[.slice (some ⟨w1.heap.size + 1 + 1, 0, none⟩) 1 1] 35)).alloc (.cells #[.bool false, .slice none 0 0, .int .i64 0, .bool false, .slice none 0 0, .int .i64 0, .bool false] 87)) (.cells #[.int .i64 60, .int .i64 4, .slice (some ⟨w1.heap.size + 1, 0, none⟩) 1 1, .slice (some ⟨w1.heap.size + 1 + 1 + 1, 0, none⟩) 1 1, .slice (some ⟨w1.heap.size + 1 + 1 + 1 + 1, 0, none⟩) 1 1, .slice none 0 0] 42))))
  have k4 : Blk ((((((w1.alloc (.cells #[.bool false, .slice A n c, .int .i64 0] 25)).alloc (.cells #[.bool false, .slice A n c, .int .i64 0] 25)).alloc (.cells #[.bool false, .slice A n c, .int .i64 0] 25)).alloc (.cells #[.slice (some ⟨w1.heap.size + 1 + 1, 0, none⟩) 1 1] 35)).alloc (.cells #[.bool false, .slice none 0 0, .int .i64 0, .bool false, .slice none 0 0, .int .i64 0, .bool false] 87)).alloc (.cells #[.int .i64 60, .int .i64 4, .slice (some ⟨w1.heap.size + 1, 0, none⟩) 1 1, .slice (some ⟨w1.heap.size + 1 + 1 + 1, 0, none⟩) 1 1, .slice (some ⟨w1.heap.size + 1 + 1 + 1 + 1, 0, none⟩) 1 1, .slice none 0 0] 42)) (w1.heap.size + 1 + 1 + 1 + 1) 87 #[.bool false, .slice none 0 0, .int .i64 0, .bool false, .slice none 0 0, .int .i64 0, .bool false] := ((Blk.newAt ((((w1.alloc (.cells #[.bool false, .slice A n c, .int .i64 0] 25)).alloc (.cells #[.bool false, .slice A n c, .int .i64 0] 25)).alloc (.cells #[.bool false, .slice A n c, .int .i64 0] 25)).alloc (.cells #[.slice (some ⟨w1.heap.size + 1 + 1, 0, none⟩) 1 1] 35)) _ _ (g := w1.heap.size + 1 + 1 + 1 + 1) (by simp)).next (ballo (((((w1.alloc (.cells #[.bool false, .slice A n c, .int .i64 0] 25)).alloc (.cells #[.bool false, .slice A n c, .int .i64 0] 25)).alloc (.cells #[.bool false, .slice A n c, .int .i64 0] 25)).alloc (.cells #[.slice (some ⟨w1.heap.size + 1 + 1, 0, none⟩) 1 1] 35)).alloc (.cells #[.bool false, .slice none 0 0, .int .i64 0, .bool false, .slice none 0 0, .int .i64 0, .bool false] 87)) (.cells #[.int .i64 60, .int .i64 4, .slice (some ⟨w1.heap.size + 1, 0, none⟩) 1 1, .slice (some ⟨w1.heap.size + 1 + 1 + 1, 0, none⟩) 1 1, .slice (some ⟨w1.heap.size + 1 + 1 + 1 + 1, 0, none⟩) 1 1, .slice none 0 0] 42)))
  have k5 : Blk ((((((w1.alloc (.cells #[.bool false, .slice A n c, .int .i64 0] 25)).alloc (.cells #[.bool false, .slice A n c, .int .i64 0] 25)).alloc (.cells #[.bool false, .slice A n c, .int .i64 0] 25)).alloc (.cells #[.slice (some ⟨w1.heap.size + 1 + 1, 0, none⟩) 1 1] 35)).alloc (.cells #[.bool false, .slice none 0 0, .int .i64 0, .bool false, .slice none 0 0, .int .i64 0, .bool false] 87)).alloc (.cells #[.int .i64 60, .int .i64 4, .slice (some ⟨w1.heap.size + 1, 0, none⟩) 1 1, .slice (some ⟨w1.heap.size + 1 + 1 + 1, 0, none⟩) 1 1, .slice (some ⟨w1.heap.size + 1 + 1 + 1 + 1, 0, none⟩) 1 1, .slice none 0 0] 42)) (w1.heap.size + 1 + 1 + 1 + 1 + 1) 42 #[.int .i64 60, .int .i64 4, .slice (some ⟨w1.heap.size + 1, 0, none⟩) 1 1, .slice (some ⟨w1.heap.size + 1 + 1 + 1, 0, none⟩) 1 1, .slice (some ⟨w1.heap.size + 1 + 1 + 1 + 1, 0, none⟩) 1 1, .slice none 0 0] := (Blk.newAt (((((w1.alloc (.cells #[.bool false, .slice A n c, .int .i64 0] 25)).alloc (.cells #[.bool false, .slice A n c, .int .i64 0] 25)).alloc (.cells #[.bool false, .slice A n c, .int .i64 0] 25)).alloc (.cells #[.slice (some ⟨w1.heap.size + 1 + 1, 0, none⟩) 1 1] 35)).alloc (.cells #[.bool false, .slice none 0 0, .int .i64 0, .bool false, .slice none 0 0, .int .i64 0, .bool false] 87)) _ _ (g := w1.heap.size + 1 + 1 + 1 + 1 + 1) (by simp))
  have hsl := hs.below hb2
  have HBW := Lib.hid (bnext hb hb2)
  clear hf hs hb hb2
  go_wp2_with fail
  generalize ((((((w1.alloc (.cells #[.bool false, .slice A n c, .int .i64 0] 25)).alloc (.cells #[.bool false, .slice A n c, .int .i64 0] 25)).alloc (.cells #[.bool false, .slice A n c, .int .i64 0] 25)).alloc (.cells #[.slice (some ⟨w1.heap.size + 1 + 1, 0, none⟩) 1 1] 35)).alloc (.cells #[.bool false, .slice none 0 0, .int .i64 0, .bool false, .slice none 0 0, .int .i64 0, .bool false] 87)).alloc (.cells #[.int .i64 60, .int .i64 4, .slice (some ⟨w1.heap.size + 1, 0, none⟩) 1 1, .slice (some ⟨w1.heap.size + 1 + 1 + 1, 0, none⟩) 1 1, .slice (some ⟨w1.heap.size + 1 + 1 + 1 + 1, 0, none⟩) 1 1, .slice none 0 0] 42)) = W0 at *
  have rD : RD W0 [.bool false, .slice A n c, .int .i64 0] oneE := ⟨A, n, c, rfl, hsl⟩
  have s1 : Sl 3 RD W0 (some ⟨w1.heap.size + 1, 0, none⟩) 1 1 [oneE] := Sl.singleK (cs := [.bool false, .slice A n c, .int .i64 0]) k1 rfl rD
  have s2 : Sl 3 RD W0 (some ⟨w1.heap.size + 1 + 1, 0, none⟩) 1 1 [oneE] := Sl.singleK (cs := [.bool false, .slice A n c, .int .i64 0]) k2 rfl rD
  have s3 : Sl 1 RM W0 (some ⟨w1.heap.size + 1 + 1 + 1, 0, none⟩) 1 1 [[oneE]] := Sl.singleK (cs := [.slice (some ⟨w1.heap.size + 1 + 1, 0, none⟩) 1 1]) k3 rfl ⟨_, _, _, rfl, s2⟩
  have s4 : Sl 7 RI W0 (some ⟨w1.heap.size + 1 + 1 + 1 + 1, 0, none⟩) 1 1 [⟨⟨false, [], 0⟩, ⟨false, [], 0⟩, false⟩] := Sl.singleK (cs := [.bool false, .slice none 0 0, .int .i64 0, .bool false, .slice none 0 0, .int .i64 0, .bool false]) k4 rfl ⟨_, _, _, _, _, _, rfl, SL.nil _, SL.nil _⟩
  have hr : RC W0 [.int .i64 60, .int .i64 4, .slice (some ⟨w1.heap.size + 1, 0, none⟩) 1 1, .slice (some ⟨w1.heap.size + 1 + 1 + 1, 0, none⟩) 1 1, .slice (some ⟨w1.heap.size + 1 + 1 + 1 + 1, 0, none⟩) 1 1, .slice none 0 0] exC := ⟨_, _, _, _, _, _, _, _, _, _, _, _, rfl, s1, s3, s4, Sl.nil _⟩
  clear rD s1 s2 s3 s4 k1 k2 k3 k4 hsl
  have HEv := Lib.hid (HE.out.step HBW.out)
  generalize w1.heap.size + 1 + 1 + 1 + 1 + 1 = gc at *
  generalize w1.heap.size + 1 + 1 + 1 + 1 = g4 at *
  generalize w1.heap.size + 1 + 1 + 1 = g3 at *
  generalize w1.heap.size + 1 = g1 at *
  refine (encode_any _ exC _ hr exC_bd HEv.out.here.tabs HEv.out.here.tens).mono ?_
  rw [exC_enc]
  rintro e w2 ⟨rfl, hb2⟩
  replace hr := lasts_RC _ _ _ _ hr hb2
  replace k5 := k5.next hb2
  replace HBW := Lib.hid (bnext HBW.out hb2)
  replace HEv := Lib.hid (HEv.out.step hb2)
  clear hb2
  go_wp2_with fail
  refine (decode_any exT _ (by decide) HEv.out).mono ?_
  rw [exC_dec]
  rintro e w3 ⟨us, rfl, hu6, hru, hb3⟩
  dsimp only at hru
  replace hr := lasts_RC _ _ _ _ hr hb3
  replace k5 := k5.next hb3
  replace HBW := Lib.hid (bnext HBW.out hb3)
  replace HEv := Lib.hid (HEv.out.step hb3)
  clear hb3
  have HR2 := Lib.hid hru
  obtain ⟨yA, yn, yc, yB, ym, yd, yC, yp, yq, yL, yln, ylc, rfl, -, -, -, -⟩ := hru
  rw [show exC.prec = 60 from rfl, show exC.order = 4 from rfl] at *
  have hb4 := bnext (ballo w3 (.cells #[.int .i64 60, .int .i64 4, .slice yA yn yc, .slice yB ym yd, .slice yC yp yq, .slice yL yln ylc] 42)) (ballo (w3.alloc (.cells #[.int .i64 60, .int .i64 4, .slice yA yn yc, .slice yB ym yd, .slice yC yp yq, .slice yL yln ylc] 42)) (.cells #[.int .i64 0, .int .i64 0] 48))
  have ky := (Blk.new w3 42 #[.int .i64 60, .int .i64 4, .slice yA yn yc, .slice yB ym yd, .slice yC yp yq, .slice yL yln ylc]).next (ballo (w3.alloc (.cells #[.int .i64 60, .int .i64 4, .slice yA yn yc, .slice yB ym yd, .slice yC yp yq, .slice yL yln ylc] 42)) (.cells #[.int .i64 0, .int .i64 0] 48))
  have kp : Blk ((w3.alloc (.cells #[.int .i64 60, .int .i64 4, .slice yA yn yc, .slice yB ym yd, .slice yC yp yq, .slice yL yln ylc] 42)).alloc (.cells #[.int .i64 0, .int .i64 0] 48)) (w3.heap.size + 1) 48 #[.int .i64 0, .int .i64 0] := Blk.newAt _ _ _ (by simp)
  replace k5 := k5.next hb4
  obtain ⟨q0, q1, q2, q3, q4, q5⟩ := k5.cells6
  obtain ⟨y0, y1, y2, y3, y4, y5⟩ := ky.cells6
  have p0 := kp.cell 0
  have p1 := kp.cell 1
  simp at p0 p1
  have HRx := Lib.hid (lasts_RC _ _ _ _ hr hb4)
  have HRy := Lib.hid (lasts_RC _ _ _ _ HR2.out hb4)
  have HBW2 := Lib.hid (bnext HBW.out hb4)
  have HEv2 := Lib.hid (HEv.out.step hb4)
  clear hb4 HBW HEv hr HR2 k5 ky kp
  go_wp2_with fail
  generalize ((w3.alloc (.cells #[.int .i64 60, .int .i64 4, .slice yA yn yc, .slice yB ym yd, .slice yC yp yq, .slice yL yln ylc] 42)).alloc (.cells #[.int .i64 0, .int .i64 0] 48)) = W1 at *
  refine (certEqual_any _ _ exC exC _ HRx.out HRy.out exC_bd exC_bd HEv2.out.here.tabs).mono ?_
  rw [exC_eq]
  rintro e w4 ⟨rfl, hb5⟩
  have HB := Lib.hid (bnext HBW2.out hb5)
  clear hb5
  go_wp2_with fail
  go_ret
  exact ⟨rfl, HB.out⟩

end Go.Proofs.YtekajoifgdpmlaaGreatDoor
