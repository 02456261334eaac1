/- Bundle 7: what the laws' walks stand on: G1, C2, C3. -/
import Derived.Lib.OthersKept
import Derived.Test.YtekajoifgdpmlaaGreatDoorZ5
import Derived.Test.YtekajoifgdpmlaaGreatDoorZ6
/-! G1 -/
namespace Go.Proofs.YtekajoifgdpmlaaGreatDoor
open Go.RowKit Pl Go.Shelf

/-- The builder in block b holds the bytes l. -/
def Bu (B b : Nat) (l : List UInt8) (w : World) : Prop := Lib.IsBuilder 82 5 B b (Lib.byteCells l) w
/-- What the builder's writers leave as it was: what lies below B, and every block but the builder's that is no row of bytes. -/
structure KB (B b : Nat) (w w' : World) : Prop where
  below : Below B w w'
  others : Lib.OthersKept 5 (some b) w w'
section
variable {B b : Nat} {w w' w'' : World}
theorem KB.refl (B b : Nat) (w : World) : KB B b w w := ⟨Below.refl _ _, Lib.OthersKept.refl _ _ _⟩
theorem KB.trans (h : KB B b w w') (k : KB B b w' w'') : KB B b w w'' := ⟨h.below.trans k.below, h.others.trans k.others⟩
theorem KB.of (hB : B ≤ w.heap.size) (h : Below w.heap.size w w') : KB B b w w' :=
  ⟨h.mono hB, fun k o hk _ _ => by
    have hlt : k < w.heap.size := (Array.getElem?_eq_some_iff.1 hk).1
    rw [h.block k hlt]; exact hk⟩
theorem KB.size (h : KB B b w w') : w.heap.size ≤ w'.heap.size := h.below.size
/-- From a world in which the builder was not there yet. -/
theorem KB.from (h : KB B b w w') {w0 : World} (h0 : Below w0.heap.size w0 w) (hB : w0.heap.size ≤ B) : Below w0.heap.size w0 w' := h0.trans (h.below.mono hB)
theorem KB.blk (h : KB B b w w') {g : Nat} {t : TypeId} {cs : Array Value} (hk : Blk w g t cs) (hg : g ≠ b) (ht : t ≠ 5) : Blk w' g t cs :=
  h.others g _ hk (fun e => hg (Option.some.inj e)) (fun c fz e => by injection e with _ e2; exact ht e2)
end
theorem ownsRow_kind {w : World} {B : Nat} {e : TypeId} {v : Value} {n : Nat} {xs : List Value} (h : w.ownsRow B e 1 v n xs) : ∀ g, v.ownBlock = some g → ∃ c fz, w.heap[g]? = some (.cells c e fz) := by
  intro g hg
  rcases h.2 with ⟨rfl, _⟩ | ⟨g', cap, cur, rfl, _, hgg, _⟩
  · simp [Value.ownBlock] at hg
  · simp [Value.ownBlock] at hg
    subst hg
    exact ⟨cur, _, hgg⟩
theorem Bu.next {B b : Nat} {l : List UInt8} {w w' : World} (h : Bu B b l w) (hb : Below w.heap.size w w') : Bu B b l w' := by
  have key : ∀ p, Lib.BuilderAt 82 5 B b p (Lib.byteCells l) w → Lib.BuilderAt 82 5 B b p (Lib.byteCells l) w' := by
    rintro p ⟨hB, v, hbk, hown, hne⟩
    have hlt : b < w.heap.size := (Array.getElem?_eq_some_iff.1 hbk).1
    refine ⟨hB, v, (hb.block b hlt).trans hbk, ⟨hown.1, ?_⟩, hne⟩
    rcases hown.2 with hn | ⟨g, cap, cur, hv, hbg, hg, rest⟩
    · exact .inl hn
    · exact .inr ⟨g, cap, cur, hv, hbg, (hb.block g (Array.getElem?_eq_some_iff.1 hg).1).trans hg, rest⟩
  rcases h with h | h
  · exact .inl (key _ h)
  · exact .inr (key _ h)
theorem Bu.lt {B b : Nat} {l : List UInt8} {w : World} (h : Bu B b l w) : b < w.heap.size := by
  rcases h with h | h <;> exact h.lt
theorem Bu.base {B b : Nat} {l : List UInt8} {w : World} (h : Bu B b l w) : B ≤ b := by
  rcases h with h | h <;> exact h.1
theorem byteCells_append (l l' : List UInt8) : Lib.byteCells (l ++ l') = Lib.byteCells l ++ Lib.strCells ⟨l'.toArray⟩ := by
  simp [Lib.byteCells, Lib.strCells]
theorem byteCells_length (l : List UInt8) : (Lib.byteCells l).length = l.length := by simp [Lib.byteCells]

theorem copyCheck_K (B b : Nat) (bs : List Value) (w : World) (h : Lib.IsBuilder 82 5 B b bs w) :
    Calls Tryz.prog 118 #[.pointer (some ⟨b, 0, none⟩)] w fun e w' => e = .returned (.tuple #[]) ∧ (Lib.BuilderAt 82 5 B b (.pointer (some ⟨b, 0, none⟩)) bs w' ∧ Below B w w' ∧ Lib.OthersKept 5 (some b) w w') := by
  rcases h with h | h
  · refine (copyCheck_fresh b w h.cell0 h.shape h.frozen0).mono ?_
    rintro e w' ⟨rfl, rfl⟩
    exact ⟨rfl, h.used _, (Below.refl B w).setCell (p := ⟨b, 0, none⟩) h.1 _, (Lib.OthersKept.refl _ _ w).setCell ⟨b, 0, none⟩ rfl _⟩
  · refine (copyCheck_used b w h.cell0).mono ?_
    rintro e w' ⟨rfl, rfl⟩
    exact ⟨rfl, h, Below.refl B _, Lib.OthersKept.refl _ _ _⟩

set_option maxHeartbeats 2000000 in
set_option maxRecDepth 100000 in
theorem writeString_K (B b : Nat) (l s : List UInt8) (w : World) (h : Bu B b l w) (hlen : l.length + s.length ≤ 140737488355328) (hBw : B ≤ w.heap.size) :
    Calls Tryz.prog 45 #[.pointer (some ⟨b, 0, none⟩), .string ⟨s.toArray⟩] w fun e w' => e = .returned (.tuple #[.int .i64 s.length, .nilIface]) ∧ Bu B b (l ++ s) w' ∧ KB B b w w' := by
  obtain ⟨i0, hi, hz0, hz1, hz2⟩ := info_parts infoByte
  have hsz : (⟨s.toArray⟩ : ByteArray).size = s.length := by simp [ByteArray.size]
  have hbl := byteCells_length l
  have HE := Lib.hid (byteCells_append l s)
  unfold Bu at h
  generalize Lib.byteCells l = bs at *
  have hlen' : bs.length + (⟨s.toArray⟩ : ByteArray).size ≤ 140737488355328 := by rw [hsz, hbl]; exact hlen
  have HSZ := Lib.hid hsz
  clear hbl hlen hsz
  generalize (⟨s.toArray⟩ : ByteArray) = S at *
  go_enter Tryz.func45, Tryz.ntmps45
  go_wp2_with fail
  refine (copyCheck_K B b bs _ h).mono ?_
  rintro e w1 ⟨rfl, h1, hb1, hk1⟩
  obtain ⟨hB, v, hbk, hown, hne⟩ := h1
  have c0 : w1.cell? ⟨b, 0, none⟩ = some (.pointer (some ⟨b, 0, none⟩)) := by rw [Lib.cell_of_heap hbk]; rfl
  have c1 : w1.cell? ⟨b, 1, none⟩ = some v := by rw [Lib.cell_of_heap hbk]; rfl
  go_wp2_with (at_builtin; refine Lib.wpList_append_own_string _ rfl _ _ 52 9 rfl B 5 i0 Tryz.underlying52 Tryz.underlying9 hi hz0 hz1 hz2 _ _ _ rfl hown S rfl ?c3 ?c4 ?c5 ?_)
  case c3 => unfold maxLen; omega
  case c4 => omega
  case c5 => have := hb1.size; omega
  intro v' w2 hown' hgrow _
  have hlt : b < w1.heap.size := by
    rcases Nat.lt_or_ge b w1.heap.size with h' | h'
    · exact h'
    · simp [Array.getElem?_eq_none h'] at hbk
  have hb2 : w2.heap[b]? = some (.cells #[.pointer (some ⟨b, 0, none⟩), v] 82 (0, 0)) := by
    rw [hgrow.block b hlt (fun e => hne e.symm)]
    exact hbk
  have d0 : w2.cell? ⟨b, 0, none⟩ = some (.pointer (some ⟨b, 0, none⟩)) := by rw [Lib.cell_of_heap hb2]; rfl
  have d1 : w2.cell? ⟨b, 1, none⟩ = some v := by rw [Lib.cell_of_heap hb2]; rfl
  have f1 : w2.frozen? ⟨b, 1, none⟩ = false := Lib.frozen_of_heap hb2 1
  have hk2 := hk1.grown hgrow (ownsRow_kind hown)
  obtain ⟨ao, n', cap, rfl⟩ : ∃ ao n' cap, v' = .slice ao n' cap := by
    rcases hown'.2 with ⟨hv, _⟩ | ⟨g, cap, cur, hv, _⟩
    · exact ⟨_, _, _, hv⟩
    · exact ⟨_, _, _, hv⟩
  go_wp2
  go_ret2
  refine ⟨by rw [← HSZ.out]; rfl, ?_, ?_, ?_⟩
  · right
    rw [HE.out]
    exact Lib.BuilderAt.put (T := 82) (e := 5) hB hb2 (bs' := bs ++ Lib.strCells S) (by simpa [Lib.strCells_length] using hown') (by decide)
  · exact ((hb1).grown hgrow (by have := hb1.size; omega) (fun k hk => (hown.lt k hk).1)).setCell (p := ⟨b, 1, none⟩) hB _
  · exact hk2.setCell ⟨b, 1, none⟩ rfl _

end Go.Proofs.YtekajoifgdpmlaaGreatDoor

/-! C2 -/
namespace Go.Proofs.YtekajoifgdpmlaaGreatDoor
open Go.RowKit Pl Go.Shelf

def IdxC (b : Bool) (w : World) (e : Ending) (w' : World) : Prop := ∃ r : Int, e = .returned (.int .i64 r) ∧ decide (0 ≤ r) = b ∧ Below w.heap.size w w'
/-- Element by element. -/
def eqF {α : Type} (q : α → α → Bool) : List α → List α → Bool
  | [], [] => true
  | x :: xs, y :: ys => q x y && eqF q xs ys
  | _, _ => false
theorem eqF_len {α : Type} (q : α → α → Bool) : ∀ (xs ys : List α), xs.length ≠ ys.length → eqF q xs ys = false := by
  intro xs
  induction xs with
  | nil => intro ys h; cases ys <;> simp_all [eqF]
  | cons x xs ih =>
    intro ys h
    cases ys with
    | nil => rfl
    | cons y ys => simp [eqF]; intro _; exact ih ys (by simpa using h)
theorem eqF_all {α : Type} (q : α → α → Bool) : ∀ (xs ys : List α), xs.length = ys.length → (∀ (j : Nat) (x y : α), xs[j]? = some x → ys[j]? = some y → q x y = true) → eqF q xs ys = true := by
  intro xs
  induction xs with
  | nil => intro ys h _; cases ys <;> simp_all [eqF]
  | cons x xs ih =>
    intro ys h hq
    cases ys with
    | nil => simp at h
    | cons y ys =>
      simp only [eqF, Bool.and_eq_true]
      exact ⟨hq 0 x y rfl rfl, ih ys (by simpa using h) (fun j a b ha hb => hq (j + 1) a b (by simpa using ha) (by simpa using hb))⟩
theorem eqF_no {α : Type} (q : α → α → Bool) : ∀ (xs ys : List α) (j : Nat) (x y : α), xs[j]? = some x → ys[j]? = some y → q x y = false → eqF q xs ys = false := by
  intro xs
  induction xs with
  | nil => intro ys j x y h; simp at h
  | cons a xs ih =>
    intro ys j x y hx hy hq
    cases ys with
    | nil => simp at hy
    | cons b ys =>
      cases j with
      | zero =>
        simp at hx hy
        subst hx hy
        simp [eqF, hq]
      | succ j =>
        simp at hx hy
        have := ih ys j x y hx hy hq
        simp [eqF, this]
theorem any_no {α : Type} (p : α → Bool) (xs : List α) (h : ∀ (j : Nat) (x : α), xs[j]? = some x → p x = false) : xs.any p = false := by
  rw [List.any_eq_false]
  intro x hx
  obtain ⟨j, hj⟩ := List.getElem?_of_mem hx
  simp [h j x hj]
theorem any_yes {α : Type} (p : α → Bool) (xs : List α) (j : Nat) (x : α) (h : xs[j]? = some x) (hp : p x = true) : xs.any p = true :=
  List.any_eq_true.2 ⟨x, List.mem_of_getElem? h, hp⟩

set_option maxRecDepth 100000 in
set_option maxHeartbeats 1000000 in
theorem indexFunc_D (p : Dy → Bool) (g : Nat) (lb : Array Value) (A : Option Addr) (n c : Nat) (xs : List Dy) (w : World) (h : Sl 3 RD w A n c xs)
    (eg : ∀ args W, (callFunc g args).run Tryz.prog W = .ok (.enter g args) W)
    (hp : ∀ W vs x, Below w.heap.size w W → x ∈ xs → RD W vs x → Calls Tryz.prog g (#[.agg vs.toArray] ++ lb) W (Says (p x) W)) :
    Calls Tryz.prog 121 #[.slice A n c, .func (.func g) #[] lb] w (IdxC (xs.any p) w) := by
  have hn := h.cap
  have hm := h.max
  have HL := Lib.hid h.len
  have HS := Lib.hid h
  have HP := Lib.hid hp
  clear h hp
  go_enter Tryz.func121, Tryz.ntmps121
  go_wp2_with fail
  go_loopw [8] (fun i wr => ∃ j : Nat, j ≤ n ∧ i = .int .i64 j ∧ Hid (∀ m x, m < j → xs[m]? = some x → p x = false) ∧ Below w.heap.size w wr) (fun i _ => n - (intOf i).toNat)
  case atStart => exact ⟨0, Nat.zero_le _, rfl, fun m x hm => absurd hm (by omega), Below.refl _ _⟩
  case round =>
    obtain ⟨j, hj, rfl, HZ, hb⟩ := hrel
    by_cases hlt : j < n
    · obtain ⟨b, off, x, vs, rfl, hbl, hx, hk, hR, hc⟩ := HS.out.get hlt
      have hcall := HP.out wr vs x hb (List.mem_of_getElem? hx) (lasts_RD _ _ _ _ hR hb)
      obtain ⟨A1, n1, c1, rfl, hs1⟩ := hR
      have q0 := (hb.cell (p := ⟨b, off + j * 3, none⟩) hbl).trans (hc 0 _ rfl)
      have q1 := (hb.cell (p := ⟨b, off + j * 3 + 1, none⟩) hbl).trans (hc 1 _ rfl)
      have q2 := (hb.cell (p := ⟨b, off + j * 3 + 2, none⟩) hbl).trans (hc 2 _ rfl)
      have HX := Lib.hid hx
      clear hx hc hk HP HS
      cases hq : p x
      · rw [hq] at hcall
        have HQ := Lib.hid hq
        clear hq
        go_wp2_with (go_at_fn g; refine hcall.mono ?_; rintro e w' ⟨rfl, hb'⟩)
        go_roundw
        case rel => exact ⟨j + 1, by omega, by go_num, fun m y hm hy => by
          by_cases hmj : m < j
          · exact HZ.out m y hmj hy
          · obtain rfl : m = j := by omega
            rw [HX.out] at hy
            injection hy with hy
            rw [← hy]; exact HQ.out, bthen hb hb' (Nat.le_refl _)⟩
        case measure => simp [intOf]; omega
      · rw [hq] at hcall
        have HQ := Lib.hid hq
        clear hq
        go_wp2_with (go_at_fn g; refine hcall.mono ?_; rintro e w' ⟨rfl, hb'⟩)
        go_ret
        refine ⟨_, rfl, ?_, bthen hb hb' (Nat.le_refl _)⟩
        rw [any_yes p xs j x HX.out HQ.out]
        simp
    · go_wp2_with fail
      go_ret
      refine ⟨_, rfl, ?_, hb⟩
      rw [any_no p xs (fun m x hx => HZ.out m x (by
        have := (List.getElem?_eq_some_iff.1 hx).1
        have := HL.out
        omega) hx)]
      simp

set_option maxHeartbeats 400000 in
theorem containsFunc_D (p : Dy → Bool) (g : Nat) (lb : Array Value) (A : Option Addr) (n c : Nat) (xs : List Dy) (w : World) (h : Sl 3 RD w A n c xs)
    (eg : ∀ args W, (callFunc g args).run Tryz.prog W = .ok (.enter g args) W)
    (hp : ∀ W vs x, Below w.heap.size w W → x ∈ xs → RD W vs x → Calls Tryz.prog g (#[.agg vs.toArray] ++ lb) W (Says (p x) W)) :
    Calls Tryz.prog 51 #[.slice A n c, .func (.func g) #[] lb] w (Says (xs.any p) w) := by
  have HC := Lib.hid (indexFunc_D p g lb A n c xs w h eg hp)
  clear h hp
  go_enter Tryz.func51, Tryz.ntmps51
  go_wp2_with fail
  refine HC.out.mono ?_
  rintro e w' ⟨r, rfl, hr, hb⟩
  have HR := Lib.hid hr
  clear hr HC
  go_wp2_with fail
  go_ret
  exact ⟨by rw [← HR.out]; rfl, hb⟩

set_option maxRecDepth 100000 in
set_option maxHeartbeats 1000000 in
theorem indexFunc_I (p : Iv → Bool) (g : Nat) (lb : Array Value) (A : Option Addr) (n c : Nat) (xs : List Iv) (w : World) (h : Sl 7 RI w A n c xs)
    (eg : ∀ args W, (callFunc g args).run Tryz.prog W = .ok (.enter g args) W)
    (hp : ∀ W vs x, Below w.heap.size w W → x ∈ xs → RI W vs x → Calls Tryz.prog g (#[.agg vs.toArray] ++ lb) W (Says (p x) W)) :
    Calls Tryz.prog 122 #[.slice A n c, .func (.func g) #[] lb] w (IdxC (xs.any p) w) := by
  have hn := h.cap
  have hm := h.max
  have HL := Lib.hid h.len
  have HS := Lib.hid h
  have HP := Lib.hid hp
  clear h hp
  go_enter Tryz.func122, Tryz.ntmps122
  go_wp2_with fail
  go_loopw [8] (fun i wr => ∃ j : Nat, j ≤ n ∧ i = .int .i64 j ∧ Hid (∀ m x, m < j → xs[m]? = some x → p x = false) ∧ Below w.heap.size w wr) (fun i _ => n - (intOf i).toNat)
  case atStart => exact ⟨0, Nat.zero_le _, rfl, fun m x hm => absurd hm (by omega), Below.refl _ _⟩
  case round =>
    obtain ⟨j, hj, rfl, HZ, hb⟩ := hrel
    by_cases hlt : j < n
    · obtain ⟨b, off, x, vs, rfl, hbl, hx, hk, hR, hc⟩ := HS.out.get hlt
      have hcall := HP.out wr vs x hb (List.mem_of_getElem? hx) (lasts_RI _ _ _ _ hR hb)
      obtain ⟨A1, n1, c1, A2, n2, c2, rfl, hs1, hs2⟩ := hR
      have q0 := (hb.cell (p := ⟨b, off + j * 7, none⟩) hbl).trans (hc 0 _ rfl)
      have q1 := (hb.cell (p := ⟨b, off + j * 7 + 1, none⟩) hbl).trans (hc 1 _ rfl)
      have q2 := (hb.cell (p := ⟨b, off + j * 7 + 2, none⟩) hbl).trans (hc 2 _ rfl)
      have q3 := (hb.cell (p := ⟨b, off + j * 7 + 3, none⟩) hbl).trans (hc 3 _ rfl)
      have q4 := (hb.cell (p := ⟨b, off + j * 7 + 4, none⟩) hbl).trans (hc 4 _ rfl)
      have q5 := (hb.cell (p := ⟨b, off + j * 7 + 5, none⟩) hbl).trans (hc 5 _ rfl)
      have q6 := (hb.cell (p := ⟨b, off + j * 7 + 6, none⟩) hbl).trans (hc 6 _ rfl)
      have HX := Lib.hid hx
      clear hx hc hk HP HS
      cases hq : p x
      · rw [hq] at hcall
        have HQ := Lib.hid hq
        clear hq
        go_wp2_with (go_at_fn g; refine hcall.mono ?_; rintro e w' ⟨rfl, hb'⟩)
        go_roundw
        case rel => exact ⟨j + 1, by omega, by go_num, fun m y hm hy => by
          by_cases hmj : m < j
          · exact HZ.out m y hmj hy
          · obtain rfl : m = j := by omega
            rw [HX.out] at hy
            injection hy with hy
            rw [← hy]; exact HQ.out, bthen hb hb' (Nat.le_refl _)⟩
        case measure => simp [intOf]; omega
      · rw [hq] at hcall
        have HQ := Lib.hid hq
        clear hq
        go_wp2_with (go_at_fn g; refine hcall.mono ?_; rintro e w' ⟨rfl, hb'⟩)
        go_ret
        refine ⟨_, rfl, ?_, bthen hb hb' (Nat.le_refl _)⟩
        rw [any_yes p xs j x HX.out HQ.out]
        simp
    · go_wp2_with fail
      go_ret
      refine ⟨_, rfl, ?_, hb⟩
      rw [any_no p xs (fun m x hx => HZ.out m x (by
        have := (List.getElem?_eq_some_iff.1 hx).1
        have := HL.out
        omega) hx)]
      simp

set_option maxHeartbeats 400000 in
theorem containsFunc_I (p : Iv → Bool) (g : Nat) (lb : Array Value) (A : Option Addr) (n c : Nat) (xs : List Iv) (w : World) (h : Sl 7 RI w A n c xs)
    (eg : ∀ args W, (callFunc g args).run Tryz.prog W = .ok (.enter g args) W)
    (hp : ∀ W vs x, Below w.heap.size w W → x ∈ xs → RI W vs x → Calls Tryz.prog g (#[.agg vs.toArray] ++ lb) W (Says (p x) W)) :
    Calls Tryz.prog 53 #[.slice A n c, .func (.func g) #[] lb] w (Says (xs.any p) w) := by
  have HC := Lib.hid (indexFunc_I p g lb A n c xs w h eg hp)
  clear h hp
  go_enter Tryz.func53, Tryz.ntmps53
  go_wp2_with fail
  refine HC.out.mono ?_
  rintro e w' ⟨r, rfl, hr, hb⟩
  have HR := Lib.hid hr
  clear hr HC
  go_wp2_with fail
  go_ret
  exact ⟨by rw [← HR.out]; rfl, hb⟩

set_option maxRecDepth 100000 in
set_option maxHeartbeats 1000000 in
theorem indexFunc_M (p : (List Dy) → Bool) (g : Nat) (lb : Array Value) (A : Option Addr) (n c : Nat) (xs : List (List Dy)) (w : World) (h : Sl 1 RM w A n c xs)
    (eg : ∀ args W, (callFunc g args).run Tryz.prog W = .ok (.enter g args) W)
    (hp : ∀ W vs x, Below w.heap.size w W → x ∈ xs → RM W vs x → Calls Tryz.prog g (#[(vs[0]?).getD undef] ++ lb) W (Says (p x) W)) :
    Calls Tryz.prog 123 #[.slice A n c, .func (.func g) #[] lb] w (IdxC (xs.any p) w) := by
  have hn := h.cap
  have hm := h.max
  have HL := Lib.hid h.len
  have HS := Lib.hid h
  have HP := Lib.hid hp
  clear h hp
  go_enter Tryz.func123, Tryz.ntmps123
  go_wp2_with fail
  go_loopw [8] (fun i wr => ∃ j : Nat, j ≤ n ∧ i = .int .i64 j ∧ Hid (∀ m x, m < j → xs[m]? = some x → p x = false) ∧ Below w.heap.size w wr) (fun i _ => n - (intOf i).toNat)
  case atStart => exact ⟨0, Nat.zero_le _, rfl, fun m x hm => absurd hm (by omega), Below.refl _ _⟩
  case round =>
    obtain ⟨j, hj, rfl, HZ, hb⟩ := hrel
    by_cases hlt : j < n
    · obtain ⟨b, off, x, vs, rfl, hbl, hx, hk, hR, hc⟩ := HS.out.get hlt
      have hcall := HP.out wr vs x hb (List.mem_of_getElem? hx) (lasts_RM _ _ _ _ hR hb)
      obtain ⟨A1, n1, c1, rfl, hs1⟩ := hR
      have qt := hc 0 _ rfl
      rw [Nat.mul_one, Nat.add_zero] at qt
      have q0 := (hb.cell (p := ⟨b, off + j, none⟩) hbl).trans qt
      have HX := Lib.hid hx
      clear hx hc hk HP HS qt
      cases hq : p x
      · rw [hq] at hcall
        have HQ := Lib.hid hq
        clear hq
        go_wp2_with (go_at_fn g; refine hcall.mono ?_; rintro e w' ⟨rfl, hb'⟩)
        go_roundw
        case rel => exact ⟨j + 1, by omega, by go_num, fun m y hm hy => by
          by_cases hmj : m < j
          · exact HZ.out m y hmj hy
          · obtain rfl : m = j := by omega
            rw [HX.out] at hy
            injection hy with hy
            rw [← hy]; exact HQ.out, bthen hb hb' (Nat.le_refl _)⟩
        case measure => simp [intOf]; omega
      · rw [hq] at hcall
        have HQ := Lib.hid hq
        clear hq
        go_wp2_with (go_at_fn g; refine hcall.mono ?_; rintro e w' ⟨rfl, hb'⟩)
        go_ret
        refine ⟨_, rfl, ?_, bthen hb hb' (Nat.le_refl _)⟩
        rw [any_yes p xs j x HX.out HQ.out]
        simp
    · go_wp2_with fail
      go_ret
      refine ⟨_, rfl, ?_, hb⟩
      rw [any_no p xs (fun m x hx => HZ.out m x (by
        have := (List.getElem?_eq_some_iff.1 hx).1
        have := HL.out
        omega) hx)]
      simp

set_option maxHeartbeats 400000 in
theorem containsFunc_M (p : (List Dy) → Bool) (g : Nat) (lb : Array Value) (A : Option Addr) (n c : Nat) (xs : List (List Dy)) (w : World) (h : Sl 1 RM w A n c xs)
    (eg : ∀ args W, (callFunc g args).run Tryz.prog W = .ok (.enter g args) W)
    (hp : ∀ W vs x, Below w.heap.size w W → x ∈ xs → RM W vs x → Calls Tryz.prog g (#[(vs[0]?).getD undef] ++ lb) W (Says (p x) W)) :
    Calls Tryz.prog 56 #[.slice A n c, .func (.func g) #[] lb] w (Says (xs.any p) w) := by
  have HC := Lib.hid (indexFunc_M p g lb A n c xs w h eg hp)
  clear h hp
  go_enter Tryz.func56, Tryz.ntmps56
  go_wp2_with fail
  refine HC.out.mono ?_
  rintro e w' ⟨r, rfl, hr, hb⟩
  have HR := Lib.hid hr
  clear hr HC
  go_wp2_with fail
  go_ret
  exact ⟨by rw [← HR.out]; rfl, hb⟩

set_option maxRecDepth 100000 in
set_option maxHeartbeats 1000000 in
theorem indexFunc_L (p : Lk → Bool) (g : Nat) (lb : Array Value) (A : Option Addr) (n c : Nat) (xs : List Lk) (w : World) (h : Sl 8 RL w A n c xs)
    (eg : ∀ args W, (callFunc g args).run Tryz.prog W = .ok (.enter g args) W)
    (hp : ∀ W vs x, Below w.heap.size w W → x ∈ xs → RL W vs x → Calls Tryz.prog g (#[.agg vs.toArray] ++ lb) W (Says (p x) W)) :
    Calls Tryz.prog 124 #[.slice A n c, .func (.func g) #[] lb] w (IdxC (xs.any p) w) := by
  have hn := h.cap
  have hm := h.max
  have HL := Lib.hid h.len
  have HS := Lib.hid h
  have HP := Lib.hid hp
  clear h hp
  go_enter Tryz.func124, Tryz.ntmps124
  go_wp2_with fail
  go_loopw [8] (fun i wr => ∃ j : Nat, j ≤ n ∧ i = .int .i64 j ∧ Hid (∀ m x, m < j → xs[m]? = some x → p x = false) ∧ Below w.heap.size w wr) (fun i _ => n - (intOf i).toNat)
  case atStart => exact ⟨0, Nat.zero_le _, rfl, fun m x hm => absurd hm (by omega), Below.refl _ _⟩
  case round =>
    obtain ⟨j, hj, rfl, HZ, hb⟩ := hrel
    by_cases hlt : j < n
    · obtain ⟨b, off, x, vs, rfl, hbl, hx, hk, hR, hc⟩ := HS.out.get hlt
      have hcall := HP.out wr vs x hb (List.mem_of_getElem? hx) (lasts_RL _ _ _ _ hR hb)
      obtain ⟨A1, n1, c1, A2, n2, c2, A3, n3, c3, A4, n4, c4, A5, n5, c5, A6, n6, c6, rfl, hs1, hs2, hs3, hs4, hs5, hs6⟩ := hR
      have q0 := (hb.cell (p := ⟨b, off + j * 8, none⟩) hbl).trans (hc 0 _ rfl)
      have q1 := (hb.cell (p := ⟨b, off + j * 8 + 1, none⟩) hbl).trans (hc 1 _ rfl)
      have q2 := (hb.cell (p := ⟨b, off + j * 8 + 2, none⟩) hbl).trans (hc 2 _ rfl)
      have q3 := (hb.cell (p := ⟨b, off + j * 8 + 3, none⟩) hbl).trans (hc 3 _ rfl)
      have q4 := (hb.cell (p := ⟨b, off + j * 8 + 4, none⟩) hbl).trans (hc 4 _ rfl)
      have q5 := (hb.cell (p := ⟨b, off + j * 8 + 5, none⟩) hbl).trans (hc 5 _ rfl)
      have q6 := (hb.cell (p := ⟨b, off + j * 8 + 6, none⟩) hbl).trans (hc 6 _ rfl)
      have q7 := (hb.cell (p := ⟨b, off + j * 8 + 7, none⟩) hbl).trans (hc 7 _ rfl)
      have HX := Lib.hid hx
      clear hx hc hk HP HS
      cases hq : p x
      · rw [hq] at hcall
        have HQ := Lib.hid hq
        clear hq
        go_wp2_with (go_at_fn g; refine hcall.mono ?_; rintro e w' ⟨rfl, hb'⟩)
        go_roundw
        case rel => exact ⟨j + 1, by omega, by go_num, fun m y hm hy => by
          by_cases hmj : m < j
          · exact HZ.out m y hmj hy
          · obtain rfl : m = j := by omega
            rw [HX.out] at hy
            injection hy with hy
            rw [← hy]; exact HQ.out, bthen hb hb' (Nat.le_refl _)⟩
        case measure => simp [intOf]; omega
      · rw [hq] at hcall
        have HQ := Lib.hid hq
        clear hq
        go_wp2_with (go_at_fn g; refine hcall.mono ?_; rintro e w' ⟨rfl, hb'⟩)
        go_ret
        refine ⟨_, rfl, ?_, bthen hb hb' (Nat.le_refl _)⟩
        rw [any_yes p xs j x HX.out HQ.out]
        simp
    · go_wp2_with fail
      go_ret
      refine ⟨_, rfl, ?_, hb⟩
      rw [any_no p xs (fun m x hx => HZ.out m x (by
        have := (List.getElem?_eq_some_iff.1 hx).1
        have := HL.out
        omega) hx)]
      simp

set_option maxHeartbeats 400000 in
theorem containsFunc_L (p : Lk → Bool) (g : Nat) (lb : Array Value) (A : Option Addr) (n c : Nat) (xs : List Lk) (w : World) (h : Sl 8 RL w A n c xs)
    (eg : ∀ args W, (callFunc g args).run Tryz.prog W = .ok (.enter g args) W)
    (hp : ∀ W vs x, Below w.heap.size w W → x ∈ xs → RL W vs x → Calls Tryz.prog g (#[.agg vs.toArray] ++ lb) W (Says (p x) W)) :
    Calls Tryz.prog 58 #[.slice A n c, .func (.func g) #[] lb] w (Says (xs.any p) w) := by
  have HC := Lib.hid (indexFunc_L p g lb A n c xs w h eg hp)
  clear h hp
  go_enter Tryz.func58, Tryz.ntmps58
  go_wp2_with fail
  refine HC.out.mono ?_
  rintro e w' ⟨r, rfl, hr, hb⟩
  have HR := Lib.hid hr
  clear hr HC
  go_wp2_with fail
  go_ret
  exact ⟨by rw [← HR.out]; rfl, hb⟩

set_option maxRecDepth 100000 in
set_option maxHeartbeats 2000000 in
theorem equalFunc_D (q : Dy → Dy → Bool) (g : Nat) (lb : Array Value) (A B : Option Addr) (n c m d : Nat) (xs ys : List Dy) (w : World) (h : Sl 3 RD w A n c xs) (h' : Sl 3 RD w B m d ys)
    (eg : ∀ args W, (callFunc g args).run Tryz.prog W = .ok (.enter g args) W)
    (hp : ∀ W vs us x y, Below w.heap.size w W → x ∈ xs → y ∈ ys → RD W vs x → RD W us y → Calls Tryz.prog g (#[.agg vs.toArray, .agg us.toArray] ++ lb) W (Says (q x y) W)) :
    Calls Tryz.prog 185 #[.slice A n c, .slice B m d, .func (.func g) #[] lb] w (Says (eqF q xs ys) w) := by
  have hn := h.cap
  have hm := h.max
  have hn' := h'.cap
  have hm' := h'.max
  have HL := Lib.hid h.len
  have HL' := Lib.hid h'.len
  have HS := Lib.hid h
  have HS' := Lib.hid h'
  have HP := Lib.hid hp
  clear h h' hp
  by_cases hnm : n = m
  · subst hnm
    go_enter Tryz.func185, Tryz.ntmps185
    go_wp2_with fail
    go_loopw [17] (fun i wr => ∃ j : Nat, j ≤ n ∧ i = .int .i64 j ∧ Hid (∀ m x y, m < j → xs[m]? = some x → ys[m]? = some y → q x y = true) ∧ Below w.heap.size w wr) (fun i _ => n - (intOf i).toNat)
    case atStart => exact ⟨0, Nat.zero_le _, rfl, fun m x y hm => absurd hm (by omega), Below.refl _ _⟩
    case round =>
      obtain ⟨j, hj, rfl, HZ, hb⟩ := hrel
      by_cases hlt : j < n
      · obtain ⟨b, off, x, vs, rfl, hbl, hx, hk, hR, hc⟩ := HS.out.get hlt
        obtain ⟨b', off', y, us, rfl, hbl', hy, hk', hR', hc'⟩ := HS'.out.get hlt
        have hRx := lasts_RD _ _ _ _ hR hb
        have hRy := lasts_RD _ _ _ _ hR' hb
        have hcall := fun W (hW : Below wr.heap.size wr W) => HP.out W vs us x y (bthen hb hW (Nat.le_refl _)) (List.mem_of_getElem? hx) (List.mem_of_getElem? hy) (lasts_RD _ _ _ _ hRx hW) (lasts_RD _ _ _ _ hRy hW)
        obtain ⟨A1, n1, c1, rfl, hs1⟩ := hR
        obtain ⟨Ax1, nx1, cx1, rfl, hx1⟩ := hR'
        have q0 := (hb.cell (p := ⟨b, off + j * 3, none⟩) hbl).trans (hc 0 _ rfl)
        have q1 := (hb.cell (p := ⟨b, off + j * 3 + 1, none⟩) hbl).trans (hc 1 _ rfl)
        have q2 := (hb.cell (p := ⟨b, off + j * 3 + 2, none⟩) hbl).trans (hc 2 _ rfl)
        have r0 := (hb.cell (p := ⟨b', off' + j * 3, none⟩) hbl').trans (hc' 0 _ rfl)
        have r1 := (hb.cell (p := ⟨b', off' + j * 3 + 1, none⟩) hbl').trans (hc' 1 _ rfl)
        have r2 := (hb.cell (p := ⟨b', off' + j * 3 + 2, none⟩) hbl').trans (hc' 2 _ rfl)
        have hwr : b' < wr.heap.size := Nat.lt_of_lt_of_le hbl' hb.size
        replace r0 := ((ballo wr (.cells #[.bool x.neg, .slice A1 n1 c1, .int .i64 x.e] 25)).cell (p := ⟨b', off' + j * 3, none⟩) hwr).trans r0
        replace r1 := ((ballo wr (.cells #[.bool x.neg, .slice A1 n1 c1, .int .i64 x.e] 25)).cell (p := ⟨b', off' + j * 3 + 1, none⟩) hwr).trans r1
        replace r2 := ((ballo wr (.cells #[.bool x.neg, .slice A1 n1 c1, .int .i64 x.e] 25)).cell (p := ⟨b', off' + j * 3 + 2, none⟩) hwr).trans r2
        clear hwr
        have HX := Lib.hid hx
        have HY := Lib.hid hy
        clear hx hy hc hc' hk hk' hRx hRy HP HS HS'
        have hb2 : Below wr.heap.size wr ((wr.alloc (.cells #[.bool x.neg, .slice A1 n1 c1, .int .i64 x.e] 25)).alloc (.cells #[.bool y.neg, .slice Ax1 nx1 cx1, .int .i64 y.e] 25)) := bnext (ballo wr (.cells #[.bool x.neg, .slice A1 n1 c1, .int .i64 x.e] 25)) (ballo (wr.alloc (.cells #[.bool x.neg, .slice A1 n1 c1, .int .i64 x.e] 25)) (.cells #[.bool y.neg, .slice Ax1 nx1 cx1, .int .i64 y.e] 25))
        replace hcall := hcall _ hb2
        cases hq : q x y
        · rw [hq] at hcall
          have HQ := Lib.hid hq
          clear hq
          go_wp2_with (go_at_fn g; refine hcall.mono ?_; rintro e w' ⟨rfl, hb'⟩)
          go_ret
          exact ⟨by rw [eqF_no q xs ys j x y HX.out HY.out HQ.out]; rfl, bthen hb (bnext hb2 hb') (Nat.le_refl _)⟩
        · rw [hq] at hcall
          have HQ := Lib.hid hq
          clear hq
          go_wp2_with (go_at_fn g; refine hcall.mono ?_; rintro e w' ⟨rfl, hb'⟩)
          go_roundw
          case rel => exact ⟨j + 1, by omega, by go_num, fun m x' y' hm hx hy => by
            by_cases hmj : m < j
            · exact HZ.out m x' y' hmj hx hy
            · obtain rfl : m = j := by omega
              rw [HX.out] at hx
              rw [HY.out] at hy
              injection hx with hx
              injection hy with hy
              rw [← hx, ← hy]; exact HQ.out, bthen hb (bnext hb2 hb') (Nat.le_refl _)⟩
          case measure => simp [intOf]; omega
      · go_wp2_with fail
        go_ret
        refine ⟨?_, hb⟩
        rw [eqF_all q xs ys (by rw [HL.out, HL'.out]) (fun m x y hx hy => HZ.out m x y (by
          have := (List.getElem?_eq_some_iff.1 hx).1
          have := HL.out
          omega) hx hy)]
        rfl
  · have hne : ((n : Int) != (m : Int)) = true := by rw [bne_iff_ne]; omega
    go_enter Tryz.func185, Tryz.ntmps185
    go_wp2_with fail
    go_ret
    exact ⟨by rw [eqF_len q xs ys (by rw [HL.out, HL'.out]; exact hnm)]; rfl, Below.refl _ _⟩

set_option maxRecDepth 100000 in
set_option maxHeartbeats 2000000 in
theorem equalFunc_I (q : Iv → Iv → Bool) (g : Nat) (lb : Array Value) (A B : Option Addr) (n c m d : Nat) (xs ys : List Iv) (w : World) (h : Sl 7 RI w A n c xs) (h' : Sl 7 RI w B m d ys)
    (eg : ∀ args W, (callFunc g args).run Tryz.prog W = .ok (.enter g args) W)
    (hp : ∀ W vs us x y, Below w.heap.size w W → x ∈ xs → y ∈ ys → RI W vs x → RI W us y → Calls Tryz.prog g (#[.agg vs.toArray, .agg us.toArray] ++ lb) W (Says (q x y) W)) :
    Calls Tryz.prog 137 #[.slice A n c, .slice B m d, .func (.func g) #[] lb] w (Says (eqF q xs ys) w) := by
  have hn := h.cap
  have hm := h.max
  have hn' := h'.cap
  have hm' := h'.max
  have HL := Lib.hid h.len
  have HL' := Lib.hid h'.len
  have HS := Lib.hid h
  have HS' := Lib.hid h'
  have HP := Lib.hid hp
  clear h h' hp
  by_cases hnm : n = m
  · subst hnm
    go_enter Tryz.func137, Tryz.ntmps137
    go_wp2_with fail
    go_loopw [17] (fun i wr => ∃ j : Nat, j ≤ n ∧ i = .int .i64 j ∧ Hid (∀ m x y, m < j → xs[m]? = some x → ys[m]? = some y → q x y = true) ∧ Below w.heap.size w wr) (fun i _ => n - (intOf i).toNat)
    case atStart => exact ⟨0, Nat.zero_le _, rfl, fun m x y hm => absurd hm (by omega), Below.refl _ _⟩
    case round =>
      obtain ⟨j, hj, rfl, HZ, hb⟩ := hrel
      by_cases hlt : j < n
      · obtain ⟨b, off, x, vs, rfl, hbl, hx, hk, hR, hc⟩ := HS.out.get hlt
        obtain ⟨b', off', y, us, rfl, hbl', hy, hk', hR', hc'⟩ := HS'.out.get hlt
        have hRx := lasts_RI _ _ _ _ hR hb
        have hRy := lasts_RI _ _ _ _ hR' hb
        have hcall := fun W (hW : Below wr.heap.size wr W) => HP.out W vs us x y (bthen hb hW (Nat.le_refl _)) (List.mem_of_getElem? hx) (List.mem_of_getElem? hy) (lasts_RI _ _ _ _ hRx hW) (lasts_RI _ _ _ _ hRy hW)
        obtain ⟨A1, n1, c1, A2, n2, c2, rfl, hs1, hs2⟩ := hR
        obtain ⟨Ax1, nx1, cx1, Ax2, nx2, cx2, rfl, hx1, hx2⟩ := hR'
        have q0 := (hb.cell (p := ⟨b, off + j * 7, none⟩) hbl).trans (hc 0 _ rfl)
        have q1 := (hb.cell (p := ⟨b, off + j * 7 + 1, none⟩) hbl).trans (hc 1 _ rfl)
        have q2 := (hb.cell (p := ⟨b, off + j * 7 + 2, none⟩) hbl).trans (hc 2 _ rfl)
        have q3 := (hb.cell (p := ⟨b, off + j * 7 + 3, none⟩) hbl).trans (hc 3 _ rfl)
        have q4 := (hb.cell (p := ⟨b, off + j * 7 + 4, none⟩) hbl).trans (hc 4 _ rfl)
        have q5 := (hb.cell (p := ⟨b, off + j * 7 + 5, none⟩) hbl).trans (hc 5 _ rfl)
        have q6 := (hb.cell (p := ⟨b, off + j * 7 + 6, none⟩) hbl).trans (hc 6 _ rfl)
        have r0 := (hb.cell (p := ⟨b', off' + j * 7, none⟩) hbl').trans (hc' 0 _ rfl)
        have r1 := (hb.cell (p := ⟨b', off' + j * 7 + 1, none⟩) hbl').trans (hc' 1 _ rfl)
        have r2 := (hb.cell (p := ⟨b', off' + j * 7 + 2, none⟩) hbl').trans (hc' 2 _ rfl)
        have r3 := (hb.cell (p := ⟨b', off' + j * 7 + 3, none⟩) hbl').trans (hc' 3 _ rfl)
        have r4 := (hb.cell (p := ⟨b', off' + j * 7 + 4, none⟩) hbl').trans (hc' 4 _ rfl)
        have r5 := (hb.cell (p := ⟨b', off' + j * 7 + 5, none⟩) hbl').trans (hc' 5 _ rfl)
        have r6 := (hb.cell (p := ⟨b', off' + j * 7 + 6, none⟩) hbl').trans (hc' 6 _ rfl)
        have hwr : b' < wr.heap.size := Nat.lt_of_lt_of_le hbl' hb.size
        replace r0 := ((ballo wr (.cells #[.bool x.lo.neg, .slice A1 n1 c1, .int .i64 x.lo.e, .bool x.hi.neg, .slice A2 n2 c2, .int .i64 x.hi.e, .bool x.all] 87)).cell (p := ⟨b', off' + j * 7, none⟩) hwr).trans r0
        replace r1 := ((ballo wr (.cells #[.bool x.lo.neg, .slice A1 n1 c1, .int .i64 x.lo.e, .bool x.hi.neg, .slice A2 n2 c2, .int .i64 x.hi.e, .bool x.all] 87)).cell (p := ⟨b', off' + j * 7 + 1, none⟩) hwr).trans r1
        replace r2 := ((ballo wr (.cells #[.bool x.lo.neg, .slice A1 n1 c1, .int .i64 x.lo.e, .bool x.hi.neg, .slice A2 n2 c2, .int .i64 x.hi.e, .bool x.all] 87)).cell (p := ⟨b', off' + j * 7 + 2, none⟩) hwr).trans r2
        replace r3 := ((ballo wr (.cells #[.bool x.lo.neg, .slice A1 n1 c1, .int .i64 x.lo.e, .bool x.hi.neg, .slice A2 n2 c2, .int .i64 x.hi.e, .bool x.all] 87)).cell (p := ⟨b', off' + j * 7 + 3, none⟩) hwr).trans r3
        replace r4 := ((ballo wr (.cells #[.bool x.lo.neg, .slice A1 n1 c1, .int .i64 x.lo.e, .bool x.hi.neg, .slice A2 n2 c2, .int .i64 x.hi.e, .bool x.all] 87)).cell (p := ⟨b', off' + j * 7 + 4, none⟩) hwr).trans r4
        replace r5 := ((ballo wr (.cells #[.bool x.lo.neg, .slice A1 n1 c1, .int .i64 x.lo.e, .bool x.hi.neg, .slice A2 n2 c2, .int .i64 x.hi.e, .bool x.all] 87)).cell (p := ⟨b', off' + j * 7 + 5, none⟩) hwr).trans r5
        replace r6 := ((ballo wr (.cells #[.bool x.lo.neg, .slice A1 n1 c1, .int .i64 x.lo.e, .bool x.hi.neg, .slice A2 n2 c2, .int .i64 x.hi.e, .bool x.all] 87)).cell (p := ⟨b', off' + j * 7 + 6, none⟩) hwr).trans r6
        clear hwr
        have HX := Lib.hid hx
        have HY := Lib.hid hy
        clear hx hy hc hc' hk hk' hRx hRy HP HS HS'
        have hb2 : Below wr.heap.size wr ((wr.alloc (.cells #[.bool x.lo.neg, .slice A1 n1 c1, .int .i64 x.lo.e, .bool x.hi.neg, .slice A2 n2 c2, .int .i64 x.hi.e, .bool x.all] 87)).alloc (.cells #[.bool y.lo.neg, .slice Ax1 nx1 cx1, .int .i64 y.lo.e, .bool y.hi.neg, .slice Ax2 nx2 cx2, .int .i64 y.hi.e, .bool y.all] 87)) := bnext (ballo wr (.cells #[.bool x.lo.neg, .slice A1 n1 c1, .int .i64 x.lo.e, .bool x.hi.neg, .slice A2 n2 c2, .int .i64 x.hi.e, .bool x.all] 87)) (ballo (wr.alloc (.cells #[.bool x.lo.neg, .slice A1 n1 c1, .int .i64 x.lo.e, .bool x.hi.neg, .slice A2 n2 c2, .int .i64 x.hi.e, .bool x.all] 87)) (.cells #[.bool y.lo.neg, .slice Ax1 nx1 cx1, .int .i64 y.lo.e, .bool y.hi.neg, .slice Ax2 nx2 cx2, .int .i64 y.hi.e, .bool y.all] 87))
        replace hcall := hcall _ hb2
        cases hq : q x y
        · rw [hq] at hcall
          have HQ := Lib.hid hq
          clear hq
          go_wp2_with (go_at_fn g; refine hcall.mono ?_; rintro e w' ⟨rfl, hb'⟩)
          go_ret
          exact ⟨by rw [eqF_no q xs ys j x y HX.out HY.out HQ.out]; rfl, bthen hb (bnext hb2 hb') (Nat.le_refl _)⟩
        · rw [hq] at hcall
          have HQ := Lib.hid hq
          clear hq
          go_wp2_with (go_at_fn g; refine hcall.mono ?_; rintro e w' ⟨rfl, hb'⟩)
          go_roundw
          case rel => exact ⟨j + 1, by omega, by go_num, fun m x' y' hm hx hy => by
            by_cases hmj : m < j
            · exact HZ.out m x' y' hmj hx hy
            · obtain rfl : m = j := by omega
              rw [HX.out] at hx
              rw [HY.out] at hy
              injection hx with hx
              injection hy with hy
              rw [← hx, ← hy]; exact HQ.out, bthen hb (bnext hb2 hb') (Nat.le_refl _)⟩
          case measure => simp [intOf]; omega
      · go_wp2_with fail
        go_ret
        refine ⟨?_, hb⟩
        rw [eqF_all q xs ys (by rw [HL.out, HL'.out]) (fun m x y hx hy => HZ.out m x y (by
          have := (List.getElem?_eq_some_iff.1 hx).1
          have := HL.out
          omega) hx hy)]
        rfl
  · have hne : ((n : Int) != (m : Int)) = true := by rw [bne_iff_ne]; omega
    go_enter Tryz.func137, Tryz.ntmps137
    go_wp2_with fail
    go_ret
    exact ⟨by rw [eqF_len q xs ys (by rw [HL.out, HL'.out]; exact hnm)]; rfl, Below.refl _ _⟩

set_option maxRecDepth 100000 in
set_option maxHeartbeats 2000000 in
theorem equalFunc_M (q : (List Dy) → (List Dy) → Bool) (g : Nat) (lb : Array Value) (A B : Option Addr) (n c m d : Nat) (xs ys : List (List Dy)) (w : World) (h : Sl 1 RM w A n c xs) (h' : Sl 1 RM w B m d ys)
    (eg : ∀ args W, (callFunc g args).run Tryz.prog W = .ok (.enter g args) W)
    (hp : ∀ W vs us x y, Below w.heap.size w W → x ∈ xs → y ∈ ys → RM W vs x → RM W us y → Calls Tryz.prog g (#[(vs[0]?).getD undef, (us[0]?).getD undef] ++ lb) W (Says (q x y) W)) :
    Calls Tryz.prog 141 #[.slice A n c, .slice B m d, .func (.func g) #[] lb] w (Says (eqF q xs ys) w) := by
  have hn := h.cap
  have hm := h.max
  have hn' := h'.cap
  have hm' := h'.max
  have HL := Lib.hid h.len
  have HL' := Lib.hid h'.len
  have HS := Lib.hid h
  have HS' := Lib.hid h'
  have HP := Lib.hid hp
  clear h h' hp
  by_cases hnm : n = m
  · subst hnm
    go_enter Tryz.func141, Tryz.ntmps141
    go_wp2_with fail
    go_loopw [17] (fun i wr => ∃ j : Nat, j ≤ n ∧ i = .int .i64 j ∧ Hid (∀ m x y, m < j → xs[m]? = some x → ys[m]? = some y → q x y = true) ∧ Below w.heap.size w wr) (fun i _ => n - (intOf i).toNat)
    case atStart => exact ⟨0, Nat.zero_le _, rfl, fun m x y hm => absurd hm (by omega), Below.refl _ _⟩
    case round =>
      obtain ⟨j, hj, rfl, HZ, hb⟩ := hrel
      by_cases hlt : j < n
      · obtain ⟨b, off, x, vs, rfl, hbl, hx, hk, hR, hc⟩ := HS.out.get hlt
        obtain ⟨b', off', y, us, rfl, hbl', hy, hk', hR', hc'⟩ := HS'.out.get hlt
        have hRx := lasts_RM _ _ _ _ hR hb
        have hRy := lasts_RM _ _ _ _ hR' hb
        have hcall := fun W (hW : Below wr.heap.size wr W) => HP.out W vs us x y (bthen hb hW (Nat.le_refl _)) (List.mem_of_getElem? hx) (List.mem_of_getElem? hy) (lasts_RM _ _ _ _ hRx hW) (lasts_RM _ _ _ _ hRy hW)
        obtain ⟨A1, n1, c1, rfl, hs1⟩ := hR
        obtain ⟨Ax1, nx1, cx1, rfl, hx1⟩ := hR'
        have qt := hc 0 _ rfl
        rw [Nat.mul_one, Nat.add_zero] at qt
        have q0 := (hb.cell (p := ⟨b, off + j, none⟩) hbl).trans qt
        have rt := hc' 0 _ rfl
        rw [Nat.mul_one, Nat.add_zero] at rt
        have r0 := (hb.cell (p := ⟨b', off' + j, none⟩) hbl').trans rt
        have HX := Lib.hid hx
        have HY := Lib.hid hy
        clear hx hy hc hc' hk hk' hRx hRy HP HS HS' qt rt
        have hb2 : Below wr.heap.size wr wr := Below.refl _ _
        replace hcall := hcall _ hb2
        cases hq : q x y
        · rw [hq] at hcall
          have HQ := Lib.hid hq
          clear hq
          go_wp2_with (go_at_fn g; refine hcall.mono ?_; rintro e w' ⟨rfl, hb'⟩)
          go_ret
          exact ⟨by rw [eqF_no q xs ys j x y HX.out HY.out HQ.out]; rfl, bthen hb (bnext hb2 hb') (Nat.le_refl _)⟩
        · rw [hq] at hcall
          have HQ := Lib.hid hq
          clear hq
          go_wp2_with (go_at_fn g; refine hcall.mono ?_; rintro e w' ⟨rfl, hb'⟩)
          go_roundw
          case rel => exact ⟨j + 1, by omega, by go_num, fun m x' y' hm hx hy => by
            by_cases hmj : m < j
            · exact HZ.out m x' y' hmj hx hy
            · obtain rfl : m = j := by omega
              rw [HX.out] at hx
              rw [HY.out] at hy
              injection hx with hx
              injection hy with hy
              rw [← hx, ← hy]; exact HQ.out, bthen hb (bnext hb2 hb') (Nat.le_refl _)⟩
          case measure => simp [intOf]; omega
      · go_wp2_with fail
        go_ret
        refine ⟨?_, hb⟩
        rw [eqF_all q xs ys (by rw [HL.out, HL'.out]) (fun m x y hx hy => HZ.out m x y (by
          have := (List.getElem?_eq_some_iff.1 hx).1
          have := HL.out
          omega) hx hy)]
        rfl
  · have hne : ((n : Int) != (m : Int)) = true := by rw [bne_iff_ne]; omega
    go_enter Tryz.func141, Tryz.ntmps141
    go_wp2_with fail
    go_ret
    exact ⟨by rw [eqF_len q xs ys (by rw [HL.out, HL'.out]; exact hnm)]; rfl, Below.refl _ _⟩

set_option maxRecDepth 100000 in
set_option maxHeartbeats 2000000 in
theorem equalFunc_L (q : Lk → Lk → Bool) (g : Nat) (lb : Array Value) (A B : Option Addr) (n c m d : Nat) (xs ys : List Lk) (w : World) (h : Sl 8 RL w A n c xs) (h' : Sl 8 RL w B m d ys)
    (eg : ∀ args W, (callFunc g args).run Tryz.prog W = .ok (.enter g args) W)
    (hp : ∀ W vs us x y, Below w.heap.size w W → x ∈ xs → y ∈ ys → RL W vs x → RL W us y → Calls Tryz.prog g (#[.agg vs.toArray, .agg us.toArray] ++ lb) W (Says (q x y) W)) :
    Calls Tryz.prog 73 #[.slice A n c, .slice B m d, .func (.func g) #[] lb] w (Says (eqF q xs ys) w) := by
  have hn := h.cap
  have hm := h.max
  have hn' := h'.cap
  have hm' := h'.max
  have HL := Lib.hid h.len
  have HL' := Lib.hid h'.len
  have HS := Lib.hid h
  have HS' := Lib.hid h'
  have HP := Lib.hid hp
  clear h h' hp
  by_cases hnm : n = m
  · subst hnm
    go_enter Tryz.func73, Tryz.ntmps73
    go_wp2_with fail
    go_loopw [17] (fun i wr => ∃ j : Nat, j ≤ n ∧ i = .int .i64 j ∧ Hid (∀ m x y, m < j → xs[m]? = some x → ys[m]? = some y → q x y = true) ∧ Below w.heap.size w wr) (fun i _ => n - (intOf i).toNat)
    case atStart => exact ⟨0, Nat.zero_le _, rfl, fun m x y hm => absurd hm (by omega), Below.refl _ _⟩
    case round =>
      obtain ⟨j, hj, rfl, HZ, hb⟩ := hrel
      by_cases hlt : j < n
      · obtain ⟨b, off, x, vs, rfl, hbl, hx, hk, hR, hc⟩ := HS.out.get hlt
        obtain ⟨b', off', y, us, rfl, hbl', hy, hk', hR', hc'⟩ := HS'.out.get hlt
        have hRx := lasts_RL _ _ _ _ hR hb
        have hRy := lasts_RL _ _ _ _ hR' hb
        have hcall := fun W (hW : Below wr.heap.size wr W) => HP.out W vs us x y (bthen hb hW (Nat.le_refl _)) (List.mem_of_getElem? hx) (List.mem_of_getElem? hy) (lasts_RL _ _ _ _ hRx hW) (lasts_RL _ _ _ _ hRy hW)
        obtain ⟨A1, n1, c1, A2, n2, c2, A3, n3, c3, A4, n4, c4, A5, n5, c5, A6, n6, c6, rfl, hs1, hs2, hs3, hs4, hs5, hs6⟩ := hR
        obtain ⟨Ax1, nx1, cx1, Ax2, nx2, cx2, Ax3, nx3, cx3, Ax4, nx4, cx4, Ax5, nx5, cx5, Ax6, nx6, cx6, rfl, hx1, hx2, hx3, hx4, hx5, hx6⟩ := hR'
        have q0 := (hb.cell (p := ⟨b, off + j * 8, none⟩) hbl).trans (hc 0 _ rfl)
        have q1 := (hb.cell (p := ⟨b, off + j * 8 + 1, none⟩) hbl).trans (hc 1 _ rfl)
        have q2 := (hb.cell (p := ⟨b, off + j * 8 + 2, none⟩) hbl).trans (hc 2 _ rfl)
        have q3 := (hb.cell (p := ⟨b, off + j * 8 + 3, none⟩) hbl).trans (hc 3 _ rfl)
        have q4 := (hb.cell (p := ⟨b, off + j * 8 + 4, none⟩) hbl).trans (hc 4 _ rfl)
        have q5 := (hb.cell (p := ⟨b, off + j * 8 + 5, none⟩) hbl).trans (hc 5 _ rfl)
        have q6 := (hb.cell (p := ⟨b, off + j * 8 + 6, none⟩) hbl).trans (hc 6 _ rfl)
        have q7 := (hb.cell (p := ⟨b, off + j * 8 + 7, none⟩) hbl).trans (hc 7 _ rfl)
        have r0 := (hb.cell (p := ⟨b', off' + j * 8, none⟩) hbl').trans (hc' 0 _ rfl)
        have r1 := (hb.cell (p := ⟨b', off' + j * 8 + 1, none⟩) hbl').trans (hc' 1 _ rfl)
        have r2 := (hb.cell (p := ⟨b', off' + j * 8 + 2, none⟩) hbl').trans (hc' 2 _ rfl)
        have r3 := (hb.cell (p := ⟨b', off' + j * 8 + 3, none⟩) hbl').trans (hc' 3 _ rfl)
        have r4 := (hb.cell (p := ⟨b', off' + j * 8 + 4, none⟩) hbl').trans (hc' 4 _ rfl)
        have r5 := (hb.cell (p := ⟨b', off' + j * 8 + 5, none⟩) hbl').trans (hc' 5 _ rfl)
        have r6 := (hb.cell (p := ⟨b', off' + j * 8 + 6, none⟩) hbl').trans (hc' 6 _ rfl)
        have r7 := (hb.cell (p := ⟨b', off' + j * 8 + 7, none⟩) hbl').trans (hc' 7 _ rfl)
        have hwr : b' < wr.heap.size := Nat.lt_of_lt_of_le hbl' hb.size
        replace r0 := ((ballo wr (.cells #[.bool x.h.neg, .slice A1 n1 c1, .int .i64 x.h.e, .slice A2 n2 c2, .slice A3 n3 c3, .slice A4 n4 c4, .slice A5 n5 c5, .slice A6 n6 c6] 98)).cell (p := ⟨b', off' + j * 8, none⟩) hwr).trans r0
        replace r1 := ((ballo wr (.cells #[.bool x.h.neg, .slice A1 n1 c1, .int .i64 x.h.e, .slice A2 n2 c2, .slice A3 n3 c3, .slice A4 n4 c4, .slice A5 n5 c5, .slice A6 n6 c6] 98)).cell (p := ⟨b', off' + j * 8 + 1, none⟩) hwr).trans r1
        replace r2 := ((ballo wr (.cells #[.bool x.h.neg, .slice A1 n1 c1, .int .i64 x.h.e, .slice A2 n2 c2, .slice A3 n3 c3, .slice A4 n4 c4, .slice A5 n5 c5, .slice A6 n6 c6] 98)).cell (p := ⟨b', off' + j * 8 + 2, none⟩) hwr).trans r2
        replace r3 := ((ballo wr (.cells #[.bool x.h.neg, .slice A1 n1 c1, .int .i64 x.h.e, .slice A2 n2 c2, .slice A3 n3 c3, .slice A4 n4 c4, .slice A5 n5 c5, .slice A6 n6 c6] 98)).cell (p := ⟨b', off' + j * 8 + 3, none⟩) hwr).trans r3
        replace r4 := ((ballo wr (.cells #[.bool x.h.neg, .slice A1 n1 c1, .int .i64 x.h.e, .slice A2 n2 c2, .slice A3 n3 c3, .slice A4 n4 c4, .slice A5 n5 c5, .slice A6 n6 c6] 98)).cell (p := ⟨b', off' + j * 8 + 4, none⟩) hwr).trans r4
        replace r5 := ((ballo wr (.cells #[.bool x.h.neg, .slice A1 n1 c1, .int .i64 x.h.e, .slice A2 n2 c2, .slice A3 n3 c3, .slice A4 n4 c4, .slice A5 n5 c5, .slice A6 n6 c6] 98)).cell (p := ⟨b', off' + j * 8 + 5, none⟩) hwr).trans r5
        replace r6 := ((ballo wr (.cells #[.bool x.h.neg, .slice A1 n1 c1, .int .i64 x.h.e, .slice A2 n2 c2, .slice A3 n3 c3, .slice A4 n4 c4, .slice A5 n5 c5, .slice A6 n6 c6] 98)).cell (p := ⟨b', off' + j * 8 + 6, none⟩) hwr).trans r6
        replace r7 := ((ballo wr (.cells #[.bool x.h.neg, .slice A1 n1 c1, .int .i64 x.h.e, .slice A2 n2 c2, .slice A3 n3 c3, .slice A4 n4 c4, .slice A5 n5 c5, .slice A6 n6 c6] 98)).cell (p := ⟨b', off' + j * 8 + 7, none⟩) hwr).trans r7
        clear hwr
        have HX := Lib.hid hx
        have HY := Lib.hid hy
        clear hx hy hc hc' hk hk' hRx hRy HP HS HS'
        have hb2 : Below wr.heap.size wr ((wr.alloc (.cells #[.bool x.h.neg, .slice A1 n1 c1, .int .i64 x.h.e, .slice A2 n2 c2, .slice A3 n3 c3, .slice A4 n4 c4, .slice A5 n5 c5, .slice A6 n6 c6] 98)).alloc (.cells #[.bool y.h.neg, .slice Ax1 nx1 cx1, .int .i64 y.h.e, .slice Ax2 nx2 cx2, .slice Ax3 nx3 cx3, .slice Ax4 nx4 cx4, .slice Ax5 nx5 cx5, .slice Ax6 nx6 cx6] 98)) := bnext (ballo wr (.cells #[.bool x.h.neg, .slice A1 n1 c1, .int .i64 x.h.e, .slice A2 n2 c2, .slice A3 n3 c3, .slice A4 n4 c4, .slice A5 n5 c5, .slice A6 n6 c6] 98)) (ballo (wr.alloc (.cells #[.bool x.h.neg, .slice A1 n1 c1, .int .i64 x.h.e, .slice A2 n2 c2, .slice A3 n3 c3, .slice A4 n4 c4, .slice A5 n5 c5, .slice A6 n6 c6] 98)) (.cells #[.bool y.h.neg, .slice Ax1 nx1 cx1, .int .i64 y.h.e, .slice Ax2 nx2 cx2, .slice Ax3 nx3 cx3, .slice Ax4 nx4 cx4, .slice Ax5 nx5 cx5, .slice Ax6 nx6 cx6] 98))
        replace hcall := hcall _ hb2
        cases hq : q x y
        · rw [hq] at hcall
          have HQ := Lib.hid hq
          clear hq
          go_wp2_with (go_at_fn g; refine hcall.mono ?_; rintro e w' ⟨rfl, hb'⟩)
          go_ret
          exact ⟨by rw [eqF_no q xs ys j x y HX.out HY.out HQ.out]; rfl, bthen hb (bnext hb2 hb') (Nat.le_refl _)⟩
        · rw [hq] at hcall
          have HQ := Lib.hid hq
          clear hq
          go_wp2_with (go_at_fn g; refine hcall.mono ?_; rintro e w' ⟨rfl, hb'⟩)
          go_roundw
          case rel => exact ⟨j + 1, by omega, by go_num, fun m x' y' hm hx hy => by
            by_cases hmj : m < j
            · exact HZ.out m x' y' hmj hx hy
            · obtain rfl : m = j := by omega
              rw [HX.out] at hx
              rw [HY.out] at hy
              injection hx with hx
              injection hy with hy
              rw [← hx, ← hy]; exact HQ.out, bthen hb (bnext hb2 hb') (Nat.le_refl _)⟩
          case measure => simp [intOf]; omega
      · go_wp2_with fail
        go_ret
        refine ⟨?_, hb⟩
        rw [eqF_all q xs ys (by rw [HL.out, HL'.out]) (fun m x y hx hy => HZ.out m x y (by
          have := (List.getElem?_eq_some_iff.1 hx).1
          have := HL.out
          omega) hx hy)]
        rfl
  · have hne : ((n : Int) != (m : Int)) = true := by rw [bne_iff_ne]; omega
    go_enter Tryz.func73, Tryz.ntmps73
    go_wp2_with fail
    go_ret
    exact ⟨by rw [eqF_len q xs ys (by rw [HL.out, HL'.out]; exact hnm)]; rfl, Below.refl _ _⟩

end Go.Proofs.YtekajoifgdpmlaaGreatDoor

/-! C3 -/
namespace Go.Proofs.YtekajoifgdpmlaaGreatDoor
open Go.RowKit Pl Go.Shelf

/-- Short numbers. -/
def Bd (d : Dy) : Prop := d.l.length ≤ 1000
def BdI (x : Iv) : Prop := Bd x.lo ∧ Bd x.hi
structure BdF (f : Fr) : Prop where
  c : ∀ d ∈ f.c, Bd d
  a : ∀ l ∈ f.a, ∀ d ∈ l, Bd d
  r : ∀ x ∈ f.r, BdI x
structure BdL (x : Lk) : Prop where
  h : Bd x.h
  t : ∀ y ∈ x.tube, BdI y
  e : BdF x.e
  v : ∀ l ∈ x.v, ∀ d ∈ l, Bd d
structure BdC (x : Ct) : Prop where
  s : BdF x.start
  l : ∀ y ∈ x.links, BdL y

def zro (d : Dy) : Bool := !d.neg && decide (d.l = []) && decide (d.e = 0)
def ivV (x : Iv) : Bool := if x.all then zro x.lo && zro x.hi else vld x.lo && vld x.hi && decide (cmpD x.lo x.hi ≤ 0)
def ivHas (x : Iv) (d : Dy) : Bool := ivV x && vld d && (x.all || (decide (cmpD x.lo d ≤ 0) && decide (cmpD d x.hi ≤ 0)))
def boxV (b : List Iv) : Bool := decide (1 ≤ b.length) && decide (b.length ≤ 8) && !b.any (fun x => x.all || !ivV x)
def frV (f : Fr) : Bool := decide (1 ≤ f.c.length) && decide (f.c.length ≤ 8) && decide (f.a.length = f.c.length) && decide (f.r.length = f.c.length) &&
  !f.c.any (fun d => !vld d) && !f.a.any (fun l => decide (l.length ≠ f.c.length) || l.any (fun d => !vld d)) && !f.r.any (fun x => x.all || !ivHas x zeroD)

section
variable {w : World} {g : Nat} {t : TypeId}
theorem Blk.cells1 {a : Value} (h : Blk w g t #[a]) : w.cell? ⟨g, 0, none⟩ = some a := h.cell 0
theorem Blk.cells6 {a b c d e f : Value} (h : Blk w g t #[a, b, c, d, e, f]) : w.cell? ⟨g, 0, none⟩ = some a ∧ w.cell? ⟨g, 1, none⟩ = some b ∧ w.cell? ⟨g, 2, none⟩ = some c ∧ w.cell? ⟨g, 3, none⟩ = some d ∧ w.cell? ⟨g, 4, none⟩ = some e ∧ w.cell? ⟨g, 5, none⟩ = some f :=
  ⟨h.cell 0, h.cell 1, h.cell 2, h.cell 3, h.cell 4, h.cell 5⟩
theorem Blk.cells7 {a b c d e f i : Value} (h : Blk w g t #[a, b, c, d, e, f, i]) : w.cell? ⟨g, 0, none⟩ = some a ∧ w.cell? ⟨g, 1, none⟩ = some b ∧ w.cell? ⟨g, 2, none⟩ = some c ∧ w.cell? ⟨g, 3, none⟩ = some d ∧ w.cell? ⟨g, 4, none⟩ = some e ∧ w.cell? ⟨g, 5, none⟩ = some f ∧ w.cell? ⟨g, 6, none⟩ = some i :=
  ⟨h.cell 0, h.cell 1, h.cell 2, h.cell 3, h.cell 4, h.cell 5, h.cell 6⟩
theorem Blk.cells8 {a b c d e f i j : Value} (h : Blk w g t #[a, b, c, d, e, f, i, j]) : w.cell? ⟨g, 0, none⟩ = some a ∧ w.cell? ⟨g, 1, none⟩ = some b ∧ w.cell? ⟨g, 2, none⟩ = some c ∧ w.cell? ⟨g, 3, none⟩ = some d ∧ w.cell? ⟨g, 4, none⟩ = some e ∧ w.cell? ⟨g, 5, none⟩ = some f ∧ w.cell? ⟨g, 6, none⟩ = some i ∧ w.cell? ⟨g, 7, none⟩ = some j :=
  ⟨h.cell 0, h.cell 1, h.cell 2, h.cell 3, h.cell 4, h.cell 5, h.cell 6, h.cell 7⟩
theorem Blk.next {w' : World} {cs : Array Value} (h : Blk w g t cs) (hb : Below w.heap.size w w') : Blk w' g t cs := h.below hb h.lt
end

theorem Says.of {b : Bool} {w w1 w2 : World} {e : Ending} (h : e = .returned (.bool b)) (h1 : Below w.heap.size w w1) (h2 : Below w1.heap.size w1 w2) : Says b w e w2 := ⟨h, bnext h1 h2⟩

/-- dyadic.Valid, Cmp at cells. -/
theorem valid_R (vs : List Value) (d : Dy) (w : World) (h : RD w vs d) (hd : Bd d) : Calls Tryz.prog 42 #[.agg vs.toArray] w (Says (vld d) w) := by
  obtain ⟨A, n, c, rfl, hs⟩ := h
  have := hs.len
  unfold Bd at hd
  exact valid_any d.neg A n c d.l d.e w hs (by omega)
theorem cmp_R (vs us : List Value) (d d' : Dy) (w : World) (h : RD w vs d) (h' : RD w us d') (hd : Bd d) (hd' : Bd d') :
    Calls Tryz.prog 75 #[.agg vs.toArray, .agg us.toArray] w fun e w' => e = .returned (.int .i64 (cmpD d d')) ∧ Below w.heap.size w w' := by
  obtain ⟨A, n, c, rfl, hs⟩ := h
  obtain ⟨B, m, c', rfl, hs'⟩ := h'
  have := hs.len
  have := hs'.len
  unfold Bd at hd hd'
  exact cmpD_any d.neg d'.neg A B n c m c' d.l d'.l d.e d'.e w hs hs' (by omega) (by omega)

set_option maxHeartbeats 1000000 in
theorem izero_any (vs : List Value) (d : Dy) (w : World) (h : RD w vs d) : Calls Tryz.prog 181 #[.agg vs.toArray] w (Says (zro d) w) := by
  obtain ⟨A, n, c, rfl, hs⟩ := h
  obtain ⟨neg, l, x⟩ := d
  dsimp only at hs ⊢
  have hl : decide (l = []) = decide (n = 0) := decide_eq_decide.2 ⟨fun e => by rw [← hs.len, e]; rfl, fun e => hs.empty e⟩
  have HZ : Hid (zro ⟨neg, l, x⟩ = (!neg && decide (n = 0) && decide (x = 0))) := by unfold Hid zro; rw [← hl]
  have hm := hs.cap
  have hm2 := hs.max
  clear hl hs
  cases neg
  · by_cases h0 : n = 0
    · subst h0
      by_cases hx : x = 0
      · subst hx
        go_enter Tryz.func181, Tryz.ntmps181
        go_wp2_with fail
        go_ret
        exact ⟨by rw [HZ.out]; simp, ballo _ _⟩
      · have hx2 : (x == 0) = false := by simpa using hx
        go_enter Tryz.func181, Tryz.ntmps181
        go_wp2_with fail
        go_ret
        exact ⟨by rw [HZ.out]; simp [hx], ballo _ _⟩
    · have hn2 : ((n : Int) == 0) = false := by simpa using h0
      go_enter Tryz.func181, Tryz.ntmps181
      go_wp2_with fail
      go_ret
      exact ⟨by rw [HZ.out]; simp [h0], ballo _ _⟩
  · go_enter Tryz.func181, Tryz.ntmps181
    go_wp2_with fail
    go_ret
    exact ⟨by rw [HZ.out]; simp, ballo _ _⟩

set_option maxRecDepth 100000 in
set_option maxHeartbeats 2000000 in
theorem ivalid_any (vs : List Value) (x : Iv) (w : World) (h : RI w vs x) (hx : BdI x) : Calls Tryz.prog 130 #[.agg vs.toArray] w (Says (ivV x) w) := by
  obtain ⟨A, n, c, B, m, d, rfl, h1, h2⟩ := h
  obtain ⟨⟨ln, ll, le⟩, ⟨un, ul, ue⟩, al⟩ := x
  dsimp only at h1 h2 ⊢
  have r1 : RD w [.bool ln, .slice A n c, .int .i64 le] ⟨ln, ll, le⟩ := ⟨A, n, c, rfl, h1⟩
  have r2 : RD w [.bool un, .slice B m d, .int .i64 ue] ⟨un, ul, ue⟩ := ⟨B, m, d, rfl, h2⟩
  have hb0 := ballo w (.cells #[.bool ln, .slice A n c, .int .i64 le, .bool un, .slice B m d, .int .i64 ue, .bool al] 87)
  have k0 := Blk.new w 87 #[.bool ln, .slice A n c, .int .i64 le, .bool un, .slice B m d, .int .i64 ue, .bool al]
  have H1 := Lib.hid (fun W hb => lasts_RD w W _ _ r1 hb)
  have H2 := Lib.hid (fun W hb => lasts_RD w W _ _ r2 hb)
  have HX := Lib.hid hx
  clear h1 h2 hx r1 r2
  cases al
  · have HV : Hid (ivV ⟨⟨ln, ll, le⟩, ⟨un, ul, ue⟩, false⟩ = (vld ⟨ln, ll, le⟩ && vld ⟨un, ul, ue⟩ && decide (cmpD ⟨ln, ll, le⟩ ⟨un, ul, ue⟩ ≤ 0))) := rfl
    go_enter Tryz.func130, Tryz.ntmps130
    go_wp2_with fail
    generalize w.alloc (.cells #[.bool ln, .slice A n c, .int .i64 le, .bool un, .slice B m d, .int .i64 ue, .bool false] 87) = W0 at *
    refine (valid_R _ _ _ (H1.out _ hb0) HX.out.1).mono ?_
    rintro e w1 ⟨rfl, hb1⟩
    replace hb0 := bnext hb0 hb1
    replace k0 := k0.next hb1
    clear hb1
    cases hv1 : vld ⟨ln, ll, le⟩
    · rw [hv1] at HV
      clear hv1
      go_wp2_with fail
      go_ret
      exact ⟨by rw [HV.out]; rfl, hb0⟩
    rw [hv1] at HV
    clear hv1
    obtain ⟨q0, q1, q2, q3, q4, q5, q6⟩ := k0.cells7
    go_wp2_with fail
    refine (valid_R _ _ _ (H2.out _ hb0) HX.out.2).mono ?_
    rintro e w2 ⟨rfl, hb2⟩
    clear q0 q1 q2 q3 q4 q5 q6
    replace hb0 := bnext hb0 hb2
    replace k0 := k0.next hb2
    clear hb2
    cases hv1 : vld ⟨un, ul, ue⟩
    · rw [hv1] at HV
      clear hv1
      go_wp2_with fail
      go_ret
      exact ⟨by rw [HV.out]; rfl, hb0⟩
    rw [hv1] at HV
    clear hv1
    obtain ⟨q0, q1, q2, q3, q4, q5, q6⟩ := k0.cells7
    go_wp2_with fail
    refine (cmp_R _ _ _ _ _ (H1.out _ hb0) (H2.out _ hb0) HX.out.1 HX.out.2).mono ?_
    rintro e w3 ⟨rfl, hb3⟩
    clear q0 q1 q2 q3 q4 q5 q6
    replace hb0 := bnext hb0 hb3
    clear hb3 k0
    generalize cmpD ⟨ln, ll, le⟩ ⟨un, ul, ue⟩ = r at *
    go_wp2_with fail
    go_ret
    exact ⟨by rw [HV.out]; rfl, hb0⟩
  · have HV : Hid (ivV ⟨⟨ln, ll, le⟩, ⟨un, ul, ue⟩, true⟩ = (zro ⟨ln, ll, le⟩ && zro ⟨un, ul, ue⟩)) := rfl
    go_enter Tryz.func130, Tryz.ntmps130
    go_wp2_with fail
    generalize w.alloc (.cells #[.bool ln, .slice A n c, .int .i64 le, .bool un, .slice B m d, .int .i64 ue, .bool true] 87) = W0 at *
    refine (izero_any _ _ _ (H1.out _ hb0)).mono ?_
    rintro e w1 ⟨rfl, hb1⟩
    replace hb0 := bnext hb0 hb1
    replace k0 := k0.next hb1
    clear hb1
    cases hv1 : zro ⟨ln, ll, le⟩
    · rw [hv1] at HV
      clear hv1
      go_wp2_with fail
      go_ret
      exact ⟨by rw [HV.out]; rfl, hb0⟩
    rw [hv1] at HV
    clear hv1
    obtain ⟨q0, q1, q2, q3, q4, q5, q6⟩ := k0.cells7
    go_wp2_with fail
    refine (izero_any _ _ _ (H2.out _ hb0)).mono ?_
    rintro e w2 ⟨rfl, hb2⟩
    clear q0 q1 q2 q3 q4 q5 q6
    replace hb0 := bnext hb0 hb2
    clear hb2 k0
    generalize zro ⟨un, ul, ue⟩ = r at *
    go_wp2_with fail
    go_ret
    exact ⟨by rw [HV.out]; rfl, hb0⟩

end Go.Proofs.YtekajoifgdpmlaaGreatDoor
