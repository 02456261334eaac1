/- Bundle 9: what the laws' walks stand on: TB. -/
import Derived.Laws.RangeString
import Derived.Laws.RangeAny
import Derived.Laws.OwnMore
import Derived.Laws.IdiomStrings
import Derived.Test.YtekajoifgdpmlaaGreatDoorZ6
import Derived.Test.YtekajoifgdpmlaaGreatDoorZ8
/-! TB -/
/-! dyadic.digits: what the call computes. -/
namespace Go.Proofs.YtekajoifgdpmlaaGreatDoor
open Go.RowKit Pl Go.Shelf

/-- A decimal digit. -/
def isDig (b : UInt8) : Bool := decide (48 ≤ b.toNat) && decide (b.toNat ≤ 57)
/-- A decimal number without superfluous zeros. -/
def decOk (s : List UInt8) : Bool := !s.isEmpty && (s.head? != some 48 || s.length == 1) && s.all isDig

set_option maxHeartbeats 400000 in
theorem digits1_any (c : Int) (w : World) : Calls Tryz.prog 103 #[.int .i32 c] w fun e w' => e = .returned (.bool (decide (c < 48) || decide (57 < c))) ∧ w = w' := by
  by_cases h1 : c < 48
  · have h1' : decide (c < 48) = true := by simpa using h1
    go_enter Tryz.func103, Tryz.ntmps103
    go_wp2
    go_ret
    exact ⟨by simp [h1], rfl⟩
  · have h1' : decide (c < 48) = false := by simpa using h1
    go_enter Tryz.func103, Tryz.ntmps103
    go_wp2
    go_ret
    exact ⟨by simp, rfl⟩

theorem byte_at (s : List UInt8) (j : Nat) (h : j < s.length) : ((⟨s.toArray⟩ : ByteArray)[j]'(by simpa [ByteArray.size] using h)) = s[j] := by rfl

set_option maxRecDepth 100000 in
set_option maxHeartbeats 2000000 in
theorem sindexFunc_any (s : List UInt8) (w : World) :
    Calls Tryz.prog 204 #[.string ⟨s.toArray⟩, .func (.func 103) #[] #[], .bool true] w fun e w' => ∃ r : Int, e = .returned (.int .i64 r) ∧ decide (0 ≤ r) = !(s.all isDig) ∧ Below w.heap.size w w' := by
  go_enter Tryz.func204, Tryz.ntmps204
  go_wp2_with fail
  go_loopg [7] s.length (fun k _ wr => ∃ j : Nat, j + k = s.length ∧ wr = w.iter ⟨s.toArray⟩ j ∧ Hid (∀ i, i < j → (s[i]?).map isDig = some true))
  case atStart => exact ⟨0, by omega, rfl, fun i hi => absurd hi (by omega)⟩
  case round =>
    obtain ⟨j, hj, rfl, HD⟩ := hrel
    have hsz : (⟨s.toArray⟩ : ByteArray).size = s.length := by simp [ByteArray.size]
    by_cases hlt : j < s.length
    · by_cases hd : isDig s[j] = true
      · have hb : 48 ≤ s[j].toNat ∧ s[j].toNat ≤ 57 := by simpa [isDig] using hd
        have hnx := fun ty => run_next_ascii (P := Tryz.prog) w ⟨s.toArray⟩ j ty (by rw [hsz]; exact hlt) (by rw [byte_at s j hlt]; omega)
        simp only [byte_at s j hlt] at hnx
        have HD2 : Hid (∀ i, i < j + 1 → (s[i]?).map isDig = some true) := fun i hi => by
          by_cases h : i < j
          · exact HD.out i h
          · obtain rfl : i = j := by omega
            rw [List.getElem?_eq_getElem hlt]; simp [hd]
        have hb1 : ¬ ((s[j].toNat : Int) < 48) := by omega
        have hb2 : ¬ (57 < (s[j].toNat : Int)) := by omega
        have hbb : (decide ((s[j].toNat : Int) < 48) || decide (57 < (s[j].toNat : Int))) = false := by simp [hb1, hb2]
        have HBB := Lib.hid hbb
        clear hd hb hbb
        generalize s[j].toNat = cb at *
        go_wp2_with fail
        refine (digits1_any _ _).mono ?_
        rintro e w' ⟨rfl, rfl⟩
        rw [HBB.out]
        go_wp2_with fail
        go_roundg (gk - 1)
        case measure => omega
        case rel => exact ⟨j + 1, by omega, rfl, HD2⟩
      · have hna : s.all isDig = false := by
          rw [← Bool.not_eq_true, List.all_eq_true]
          intro h
          exact hd (h _ (List.getElem_mem hlt))
        have HNA := Lib.hid hna
        have hnb : ¬ (48 ≤ s[j].toNat ∧ s[j].toNat ≤ 57) := by simpa [isDig] using hd
        have hnx := fun ty => run_next_any (P := Tryz.prog) w ⟨s.toArray⟩ j ty (by rw [hsz]; exact hlt)
        have hbad : ((Utf8.decode ⟨s.toArray⟩ j).1 : Int) < 48 ∨ 57 < ((Utf8.decode ⟨s.toArray⟩ j).1 : Int) := by
          by_cases ha : s[j].toNat < 128
          · rw [decode_ascii ⟨s.toArray⟩ j (by rw [hsz]; exact hlt) (by rw [byte_at s j hlt]; exact ha)]
            rw [byte_at s j hlt]
            simp only
            omega
          · have := (decode_high ⟨s.toArray⟩ j (by rw [hsz]; exact hlt) (by rw [byte_at s j hlt]; omega)).1
            omega
        have hbb : (decide (((Utf8.decode ⟨s.toArray⟩ j).1 : Int) < 48) || decide (57 < ((Utf8.decode ⟨s.toArray⟩ j).1 : Int))) = true := by simpa using hbad
        have HBB := Lib.hid hbb
        clear hd hnb hbb hbad hna
        generalize Utf8.decode ⟨s.toArray⟩ j = cb at *
        go_wp2_with fail
        refine (digits1_any _ _).mono ?_
        rintro e w' ⟨rfl, rfl⟩
        rw [HBB.out]
        go_wp2_with fail
        go_ret
        exact ⟨_, rfl, by rw [HNA.out]; simp, ballo _ _⟩
    · have hnx := fun ty => run_next_end (P := Tryz.prog) w ⟨s.toArray⟩ j ty (by rw [hsz]; exact hlt)
      have hall : s.all isDig = true := by
        rw [List.all_eq_true]
        intro x hx
        obtain ⟨i, hi, rfl⟩ := List.getElem_of_mem hx
        have := HD.out i (by omega)
        rw [List.getElem?_eq_getElem hi] at this
        simpa using this
      have HAL := Lib.hid hall
      clear hall
      go_wp2_with fail
      go_ret
      exact ⟨_, rfl, by rw [HAL.out]; simp, ballo _ _⟩

set_option maxRecDepth 100000 in
set_option maxHeartbeats 1000000 in
theorem scontains_any (s : List UInt8) (w : World) :
    Calls Tryz.prog 102 #[.string ⟨s.toArray⟩, .func (.func 103) #[] #[]] w fun e w' => e = .returned (.bool (!(s.all isDig))) ∧ Below w.heap.size w w' := by
  go_enter Tryz.func102, Tryz.ntmps102
  go_wp2_with (first
    | (go_at_call 162; go_in)
    | (go_at_call 204; refine (sindexFunc_any s _).mono ?_; rintro e w' ⟨r, rfl, hr, hb⟩))
  go_ret
  exact ⟨by rw [← hr]; rfl, hb⟩

set_option maxRecDepth 100000 in
set_option maxHeartbeats 1000000 in
theorem digits_any (s : List UInt8) (w : World) (hs : s.length ≤ 1000000) :
    Calls Tryz.prog 32 #[.string ⟨s.toArray⟩] w fun e w' => e = .returned (.bool (decOk s)) ∧ Below w.heap.size w w' := by
  cases s with
  | nil =>
    go_enter Tryz.func32, Tryz.ntmps32
    go_wp2_with fail
    go_ret
    exact ⟨rfl, Below.refl _ _⟩
  | cons c t =>
    by_cases hc : c = 48
    · subst hc
      cases t with
      | nil =>
        go_enter Tryz.func32, Tryz.ntmps32
        go_wp2_with fail
        refine (scontains_any [48] _).mono ?_
        rintro e w' ⟨rfl, hb⟩
        go_wp2_with fail
        go_ret
        exact ⟨rfl, hb⟩
      | cons d t =>
        have HR : Hid (decOk (48 :: d :: t) = false) := by unfold Hid decOk; simp
        rw [HR.out]
        simp only [List.length_cons] at hs
        go_enter Tryz.func32, Tryz.ntmps32
        go_wp2_with fail
        go_ret
        exact ⟨rfl, Below.refl _ _⟩
    · have HR : Hid (decOk (c :: t) = (c :: t).all isDig) := by
        unfold Hid decOk
        simp [hc]
      have hc5 : ¬ c.toNat = 48 := fun h => hc (UInt8.toNat_inj.1 h)
      have hc4 : ¬ (c.toNat : Int) = 48 := by omega
      have hc6 : ((c.toNat : Int) == 48) = false := by simpa using hc4
      rw [HR.out]
      simp only [List.length_cons] at hs
      go_enter Tryz.func32, Tryz.ntmps32
      go_wp2_with fail
      refine (scontains_any (c :: t) _).mono ?_
      rintro e w' ⟨rfl, hb⟩
      go_wp2_with fail
      go_ret
      exact ⟨by simp, hb⟩

end Go.Proofs.YtekajoifgdpmlaaGreatDoor

/-! dyadic.mantissa: what the call computes. -/
namespace Go.Proofs.YtekajoifgdpmlaaGreatDoor
open Go.RowKit Pl Go.Shelf

/-- The value of a decimal number. -/
def numL (s : List UInt8) : Nat := s.foldl (fun v c => 10 * v + (c.toNat - 48)) 0
theorem numL_snoc (s : List UInt8) (c : UInt8) : numL (s ++ [c]) = 10 * numL s + (c.toNat - 48) := by simp [numL, List.foldl_append]
theorem numL_take (s : List UInt8) (j : Nat) (h : j < s.length) : numL (s.take (j + 1)) = 10 * numL (s.take j) + (s[j].toNat - 48) := by
  rw [List.take_succ_eq_append_getElem h, numL_snoc]
theorem numL_lt (s : List UInt8) (h : ∀ c ∈ s, c.toNat ≤ 57) : ∀ j, j ≤ s.length → numL (s.take j) < 10 ^ j := by
  intro j
  induction j with
  | zero => intro _; simp [numL]
  | succ j ih =>
    intro hj
    have h1 := ih (by omega)
    have h2 := h s[j] (List.getElem_mem (by omega))
    rw [numL_take s j (by omega), Nat.pow_succ]
    omega

/-- What the inner loop keeps. -/
structure Ten (l L : List Nat) (i cy d : Nat) : Prop where
  len : L.length = l.length
  lim : Limbs L
  sum : val (L.take i) + 4294967296 ^ i * cy = 10 * val (l.take i) + d
  rest : ∀ j, i ≤ j → L[j]? = l[j]?
theorem Ten.start {l : List Nat} (h : Limbs l) (d : Nat) : Ten l l 0 d d := ⟨rfl, h, by simp [val], fun _ _ => rfl⟩
theorem Ten.step {l L : List Nat} {i cy d x : Nat} (h : Ten l L i cy d) (hx : L[i]? = some x) : Ten l (L.set i ((x * 10 + cy) % 4294967296)) (i + 1) ((x * 10 + cy) / 4294967296) d := by
  have hi : i < L.length := by
    rcases Nat.lt_or_ge i L.length with h' | h'
    · exact h'
    · rw [List.getElem?_eq_none h'] at hx; cases hx
  refine ⟨by simp [h.len], h.lim.set _ (Nat.mod_lt _ (by omega)), ?_, fun j hj => ?_⟩
  · have e1 : (L.set i ((x * 10 + cy) % 4294967296))[i]? = some ((x * 10 + cy) % 4294967296) := by rw [List.getElem?_set_self hi]
    rw [val_take_succ _ i _ e1, val_take_succ l i x (by rw [← h.rest i (Nat.le_refl _)]; exact hx)]
    rw [List.take_set_of_le (Nat.le_refl i)]
    have s := h.sum
    have d1 := Nat.div_add_mod (x * 10 + cy) 4294967296
    rw [Nat.pow_succ]
    generalize 4294967296 ^ i = B at *
    generalize (x * 10 + cy) / 4294967296 = q at *
    generalize (x * 10 + cy) % 4294967296 = r at *
    have e2 : B * 4294967296 * q = B * (4294967296 * q) := Nat.mul_assoc _ _ _
    have e3 : B * (4294967296 * q) + B * r = B * (x * 10) + B * cy := by rw [← Nat.mul_add, d1, Nat.mul_add]
    have e4 : 10 * (val (l.take i) + B * x) = 10 * val (l.take i) + B * (x * 10) := by rw [Nat.mul_add, Nat.mul_comm x 10, Nat.mul_left_comm]
    rw [e2, e4]
    omega
  · rw [List.getElem?_set_ne (by omega)]
    exact h.rest j (by omega)
theorem Ten.more {l L : List Nat} {V cy d : Nat} (h : Ten l L l.length cy d) (hl : l = digs V) (h0 : 0 < cy) (hc : cy < 4294967296) : digs (10 * V + d) = L ++ [cy] := by
  have s := h.sum
  rw [List.take_of_length_le (by rw [h.len]; exact Nat.le_refl _), List.take_of_length_le (Nat.le_refl _)] at s
  have e : val (L ++ [cy]) = 10 * V + d := by
    rw [val_snoc, h.len, s, hl, val_digs]
  rw [← e]
  exact digs_val _ (h.lim.append (Limbs.single hc)) (by unfold Trim; simp; omega)
theorem Ten.less {l L : List Nat} {V d : Nat} (h : Ten l L l.length 0 d) (hl : l = digs V) : digs (10 * V + d) = L := by
  have s := h.sum
  rw [List.take_of_length_le (by rw [h.len]; exact Nat.le_refl _), List.take_of_length_le (Nat.le_refl _)] at s
  have e : val L = 10 * V + d := by rw [hl, val_digs] at s; omega
  rw [← e]
  refine digs_val _ h.lim ?_
  unfold Trim
  intro hz
  rcases List.eq_nil_or_concat L with rfl | ⟨L', x, rfl⟩
  · simp at hz
  · simp at hz
    subst hz
    have hlen : L'.length + 1 = (digs V).length := by have := h.len; rw [hl] at this; simpa using this
    have hV : 0 < V := by
      rcases Nat.eq_zero_or_pos V with h' | h'
      · rw [h'] at hlen; simp [digs_zero] at hlen
      · exact h'
    have h1 := le_digs_length V hV
    rw [show (digs V).length - 1 = L'.length by omega] at h1
    have h2 : val (L' ++ [0]) < 4294967296 ^ L'.length := by
      rw [val_snoc, Nat.mul_zero, Nat.add_zero]
      exact val_lt L' (fun y hy => h.lim y (by simp [hy]))
    simp only [List.concat_eq_append] at e
    omega

/-- The iterator of a range over a string, moved. -/
def iterTo (w : World) (k : Nat) (s : ByteArray) (p : Nat) : World := { w with heap := w.heap.setIfInBounds k (.stringIter s p) }
theorem run_next_mid {P : Program} (w : World) (k : Nat) (s : ByteArray) (pos : Nat) (ty : TypeId) (hk : w.heap[k]? = some (.stringIter s pos)) (h : pos < s.size) (ha : (s[pos]'h).toNat < 128) :
    (Instr.next (.pointer (some ⟨k, 0, none⟩)) true ty).run P w = .ok (.tuple #[.bool true, .int .i64 pos, .int .i32 (s[pos]'h).toNat]) (iterTo w k s (pos + 1)) := by
  simp only [Instr.next, getObj, setObj, Sem.run_bind, Sem.run, hk, Result.andThen, h, if_true, decode_ascii s pos h ha]
  simp [goInt, iterTo]
theorem run_next_stop {P : Program} (w : World) (k : Nat) (s : ByteArray) (pos : Nat) (ty : TypeId) (hk : w.heap[k]? = some (.stringIter s pos)) (h : ¬ pos < s.size) :
    (Instr.next (.pointer (some ⟨k, 0, none⟩)) true ty).run P w = .ok (.tuple #[.bool false]) w := by
  simp [Instr.next, getObj, Sem.run, hk, h]
theorem iterTo_heap {w : World} {k : Nat} {s : ByteArray} {p q : Nat} (hk : w.heap[k]? = some (.stringIter s q)) : (iterTo w k s p).heap[k]? = some (.stringIter s p) := by
  have : k < w.heap.size := by
    rcases Nat.lt_or_ge k w.heap.size with h | h
    · exact h
    · rw [Array.getElem?_eq_none h] at hk; cases hk
  simp [iterTo, this]
theorem iterTo_other {w : World} {k g : Nat} {s : ByteArray} {p : Nat} (h : g ≠ k) : (iterTo w k s p).heap[g]? = w.heap[g]? := by
  simp [iterTo, Ne.symm h]
theorem iterTo_below {w w0 : World} {B k : Nat} {s : ByteArray} {p : Nat} (h : Below B w0 w) (hB : B ≤ k) : Below B w0 (iterTo w k s p) :=
  ⟨h.os, h.tape, h.output, by simpa [iterTo] using h.size, fun g hg => (iterTo_other (by omega)).trans (h.block g hg)⟩
theorem iterTo_own {w : World} {base k : Nat} {s : ByteArray} {p : Nat} {t : TypeId} {v : Value} {l : List Nat} (h : Own w base t v l) (hB : k < base) : Own (iterTo w k s p) base t v l := by
  refine ⟨h.1, ?_⟩
  rcases h.2 with h0 | ⟨g, cap, cur, hv, hb', hh, r⟩
  · exact .inl h0
  · exact .inr ⟨g, cap, cur, hv, hb', (iterTo_other (by omega)).trans hh, r⟩

theorem Own.cell {w : World} {base g n cap : Nat} {t : TypeId} {l : List Nat} (h : Own w base t (.slice (some ⟨g, 0, none⟩) n cap) l) {i x : Nat} (hx : l[i]? = some x) : w.cell? ⟨g, i, none⟩ = some (.int .u32 (x : Int)) := by
  have hi : i < l.length := by
    rcases Nat.lt_or_ge i l.length with h' | h'
    · exact h'
    · rw [List.getElem?_eq_none h'] at hx; cases hx
  have hn : n = l.length := by
    rcases h.2 with ⟨hv, _⟩ | ⟨g', cap', cur, hv, _⟩
    · cases hv
    · injection hv
  subst hn
  rw [World.ownsRow.cellAt h i (by omega)]
  simp [hx, u32]
theorem Own.frozen {w : World} {base g n cap : Nat} {t : TypeId} {l : List Nat} (h : Own w base t (.slice (some ⟨g, 0, none⟩) n cap) l) (i : Nat) : w.frozen? ⟨g, i, none⟩ = false := by
  have hn : n = l.length := by
    rcases h.2 with ⟨hv, _⟩ | ⟨g', cap', cur, hv, _⟩
    · cases hv
    · injection hv
  subst hn
  exact World.ownsRow.frozenAt h i
theorem Own.store {w : World} {base g n cap : Nat} {t : TypeId} {l : List Nat} (h : Own w base t (.slice (some ⟨g, 0, none⟩) n cap) l) (i y : Nat) : Own (w.setCell ⟨g, i, none⟩ (.int .u32 (y : Int))) base t (.slice (some ⟨g, 0, none⟩) n cap) (l.set i y) := by
  have hn : n = l.length := by
    rcases h.2 with ⟨hv, _⟩ | ⟨g', cap', cur, hv, _⟩
    · cases hv
    · injection hv
  subst hn
  have := (World.ownsRow.stored h i (.int .u32 (y : Int))).1
  unfold Own
  rw [List.length_set, show (l.set i y).map u32 = (l.map u32).set i (.int .u32 (y : Int)) from by rw [List.map_set]; rfl]
  exact this
theorem digs_ten {j V : Nat} (h : V < 10 ^ j) : (digs V).length ≤ j :=
  digs_length_lt _ _ (Nat.lt_of_lt_of_le h (Nat.pow_le_pow_left (by omega) _))

set_option maxRecDepth 100000 in
set_option maxHeartbeats 4000000 in
theorem mantissa_any (s : List UInt8) (w : World) (hs : s.length ≤ 100000) (hd : s.all isDig = true) :
    Calls Tryz.prog 36 #[.string ⟨s.toArray⟩] w (RetS (digs (numL s)) w) := by
  have hdig : ∀ c ∈ s, 48 ≤ c.toNat ∧ c.toNat ≤ 57 := by
    rw [List.all_eq_true] at hd
    intro c hc
    simpa [isDig] using hd c hc
  have HDG := Lib.hid hdig
  have HLT := Lib.hid (numL_lt s (fun c hc => (hdig c hc).2))
  clear hdig hd
  have hsz : (⟨s.toArray⟩ : ByteArray).size = s.length := by simp [ByteArray.size]
  have HSZ := Lib.hid hsz
  clear hsz
  go_enter Tryz.func36, Tryz.ntmps36
  go_wp2_with fail
  have hk0 : (w.iter ⟨s.toArray⟩ 0).heap[w.heap.size]? = some (.stringIter ⟨s.toArray⟩ 0) := World.iter_heap _ _ _
  have hb0 : Below w.heap.size w (w.iter ⟨s.toArray⟩ 0) := ballo _ _
  generalize w.iter ⟨s.toArray⟩ 0 = W0 at *
  go_loopg [3] s.length (fun k v wr => ∃ (j V : Nat), j + k = s.length ∧ V < 10 ^ j ∧ Hid (V = numL (s.take j)) ∧ Hid (wr.heap[w.heap.size]? = some (.stringIter ⟨s.toArray⟩ j)) ∧ Own wr (w.heap.size + 1) 60 v (digs V) ∧ Below w.heap.size w wr)
  case atStart => exact ⟨0, 0, by omega, by simp, rfl, hk0, Own.nil _ _ _, hb0⟩
  case round =>
    obtain ⟨j, V, hj, hV, HV, HK, hown, hb⟩ := hrel
    have hkl : w.heap.size < wr.heap.size := by
      rcases Nat.lt_or_ge w.heap.size wr.heap.size with h | h
      · exact h
      · have := HK.out; rw [Array.getElem?_eq_none h] at this; cases this
    by_cases hlt : j < s.length
    · have hdg := HDG.out s[j] (List.getElem_mem hlt)
      have hnx := fun ty => run_next_mid (P := Tryz.prog) wr w.heap.size ⟨s.toArray⟩ j ty HK.out (by rw [HSZ.out]; exact hlt) (by rw [byte_at s j hlt]; omega)
      simp only [byte_at s j hlt] at hnx
      obtain ⟨d, hd⟩ : ∃ d, s[j].toNat = d + 48 := ⟨s[j].toNat - 48, by omega⟩
      have hd9 : d ≤ 9 := by omega
      have HN : Hid (10 * V + d = numL (s.take (j + 1))) := by
        unfold Hid
        rw [numL_take s j hlt, ← HV.out, hd]
        omega
      have hV2 : 10 * V + d < 10 ^ (j + 1) := by
        rw [HN.out]
        exact HLT.out (j + 1) (by omega)
      rw [hd] at hnx
      have hbi : Below w.heap.size w (iterTo wr w.heap.size ⟨s.toArray⟩ (j + 1)) := iterTo_below hb (Nat.le_refl _)
      have hki : Hid ((iterTo wr w.heap.size ⟨s.toArray⟩ (j + 1)).heap[w.heap.size]? = some (.stringIter ⟨s.toArray⟩ (j + 1))) := iterTo_heap HK.out
      have howni : Own (iterTo wr w.heap.size ⟨s.toArray⟩ (j + 1)) (w.heap.size + 1) 60 u3 (digs V) := iterTo_own hown (by omega)
      have hkl2 : w.heap.size < (iterTo wr w.heap.size ⟨s.toArray⟩ (j + 1)).heap.size := by simpa [iterTo] using hkl
      clear hdg hd hown HK hb hkl HV
      have hlen := digs_ten hV
      generalize hl : digs V = l at *
      have HL := Lib.hid hl
      have hLim : Limbs l := by rw [← hl]; exact limbs_digs V
      clear hl hV
      obtain ⟨A0, cap0, rfl, hsl0, -⟩ := howni.sl hLim
      have hcap0 := hsl0.cap
      have hmax0 := hsl0.max
      clear hsl0
      go_wp2_with fail
      generalize iterTo wr w.heap.size ⟨s.toArray⟩ (j + 1) = W1 at *
      go_loopw [6, 19] (fun cv i wi => ∃ (i' cy : Nat) (L : List Nat), i' ≤ l.length ∧ i = .int .i64 i' ∧ cv = .int .u64 (cy : Int) ∧ cy ≤ 9 ∧ Hid (Ten l L i' cy d) ∧ Own wi (w.heap.size + 1) 60 (.slice A0 l.length cap0) L ∧ Hid (wi.heap[w.heap.size]? = some (.stringIter ⟨s.toArray⟩ (j + 1))) ∧ Below w.heap.size w wi ∧ w.heap.size < wi.heap.size) (fun _ i _ => l.length - (intOf i).toNat)
      case atStart => exact ⟨0, d, l, by omega, rfl, by first | rfl | (congr 1; omega), hd9, Ten.start hLim d, howni, hki, hbi, hkl2⟩
      case round =>
        obtain ⟨i, cy, L, hi, rfl, rfl, hcy, HT, hown, HK, hb, hkl⟩ := hrel
        by_cases hli : i < l.length
        · have hiL : i < L.length := by rw [HT.out.len]; exact hli
          obtain ⟨x, hx⟩ : ∃ x, L[i]? = some x := ⟨_, List.getElem?_eq_getElem hiL⟩
          have hxl := HT.out.lim.get hx
          have HST := Lib.hid (HT.out.step hx)
          obtain ⟨g, rfl⟩ : ∃ g, A0 = some ⟨g, 0, none⟩ := by
            rcases hown.2 with ⟨hv, h0⟩ | ⟨g', cap', cur, hv, _⟩
            · omega
            · injection hv with e _ _; exact ⟨g', e⟩
          have hcell := hown.cell hx
          have hfz := hown.frozen i
          have hgb := (hown.lt g rfl).2
          clear hx hiL
          go_wp2_with fail
          go_roundw
          case rel =>
            have e1 : ((x : Int) * 10 + (cy : Int)) % 4294967296 = (((x * 10 + cy) % 4294967296 : Nat) : Int) := by omega
            have e2 : ((x : Int) * 10 + (cy : Int)) / 4294967296 = (((x * 10 + cy) / 4294967296 : Nat) : Int) := by omega
            rw [e1, e2]
            refine ⟨i + 1, _, _, by omega, by go_num, rfl, by omega, HST.out, hown.store i _, ?_, hb.setCell (p := ⟨g, i, none⟩) (by simp only; omega) _, by simpa [World.setCell] using hkl⟩
            exact (Below.heap_setCell wr ⟨g, i, none⟩ _ w.heap.size (by simp only; omega)).trans HK.out
          case measure => simp [intOf]; omega
        · obtain rfl : i = l.length := by omega
          by_cases hc0 : 0 < cy
          · have HM := Lib.hid (HT.out.more HL.out.symm hc0 (by omega))
            have hLl := HT.out.len
            go_wp2_with (at_builtin; refine wpList_app rfl (.tmp 40) (.tmp 43) _ rfl 60 u32_info Tryz.underlying23 (w.heap.size + 1) _ L rfl (hown.alloc _) _ 1 1 [cy] rfl (SL.oneI _ _ _ _ (by omega) (by omega)) (by omega) (by simp; omega) ?_; intro v1 w2 hown1 hb2)
            have HK2 : Hid (w2.heap[w.heap.size]? = some (.stringIter ⟨s.toArray⟩ (j + 1))) := by
              unfold Hid
              rw [hb2.block w.heap.size (by omega), Below.heap_alloc _ _ _ hkl]
              exact HK.out
            have hbw2 : Below w.heap.size w w2 := (hb.alloc hb.size _).trans (hb2.mono (by omega))
            rw [← HM.out] at hown1
            go_wp2_with fail
            go_roundg (gk - 1)
            case measure => omega
            case rel => exact ⟨j + 1, 10 * V + d, by omega, hV2, HN, HK2, hown1, hbw2⟩
          · obtain rfl : cy = 0 := by omega
            have HM := Lib.hid (HT.out.less HL.out.symm)
            rw [← HM.out] at hown
            go_wp2_with fail
            go_roundg (gk - 1)
            case measure => omega
            case rel => exact ⟨j + 1, 10 * V + d, by omega, hV2, HN, HK, hown, hb⟩
    · obtain rfl : j = s.length := by omega
      have hnx := fun ty => run_next_stop (P := Tryz.prog) wr w.heap.size ⟨s.toArray⟩ s.length ty HK.out (by rw [HSZ.out]; exact hlt)
      obtain ⟨A1, c1, rfl, hs1, hf1⟩ := hown.sl (limbs_digs V)
      have HVV := HV.out
      rw [List.take_of_length_le (Nat.le_refl _)] at HVV
      have HV2 := Lib.hid HVV
      clear HVV
      go_wp2_with fail
      go_ret
      rw [← HV2.out]
      exact ⟨_, _, _, rfl, hs1, hf1.mono (by omega), hb⟩

end Go.Proofs.YtekajoifgdpmlaaGreatDoor

/-! strings.CutPrefix at '-', strings.Cut at 'p': what each call computes. (Printed by gen_t11.py.) -/
namespace Go.Proofs.YtekajoifgdpmlaaGreatDoor
open Go.RowKit Pl Go.Shelf

theorem ext_mk (l : List UInt8) (a b : Nat) : (⟨l.toArray⟩ : ByteArray).extract a b = ⟨((l.take b).drop a).toArray⟩ := by
  apply ByteArray.ext
  rw [List.drop_take]
  simp [ByteArray.data_extract]
theorem ret3 {a b c a' b' c' : Value} (h1 : a = a') (h2 : b = b') (h3 : c = c') : Ending.returned (.tuple #[a, b, c]) = .returned (.tuple #[a', b', c']) := by rw [h1, h2, h3]
theorem ret2 {a b c d : Value} (h1 : a = c) (h2 : b = d) : Ending.returned (.tuple #[a, b]) = .returned (.tuple #[c, d]) := by rw [h1, h2]

set_option maxRecDepth 100000 in
set_option maxHeartbeats 1000000 in
theorem cutMinus_no (s : List UInt8) (w : World) (h : s.head? ≠ some 45) :
    Calls Tryz.prog 30 #[.string ⟨s.toArray⟩, .string ⟨#[45]⟩] w fun e w' => e = .returned (.tuple #[.string ⟨s.toArray⟩, .bool false]) ∧ w = w' := by
  have hp : Lib.hasPrefix (⟨s.toArray⟩ : ByteArray).data.toList (⟨#[45]⟩ : ByteArray).data.toList = false := by
    cases s with
    | nil => rfl
    | cons c t =>
      have : c ≠ 45 := fun e => h (by rw [e]; rfl)
      show [45].isPrefixOf (c :: t) = false
      simp [List.isPrefixOf, this.symm]
  have HP := Lib.hid hp
  clear hp h
  have in1 : Calls Tryz.prog 100 #[.string ⟨s.toArray⟩, .string ⟨#[45]⟩] w fun e w' => e = .returned (.tuple #[.string ⟨s.toArray⟩, .bool false]) ∧ w = w' := by
    go_enter Tryz.func100, Tryz.ntmps100
    go_wp2_with fail
    refine (Tryz.stringslite_HasPrefix _ _ _).mono ?_
    rw [HP.out]
    rintro e w' ⟨rfl, rfl⟩
    go_wp2_with fail
    go_ret2
    exact ⟨rfl, rfl⟩
  have IN := Lib.hid in1
  clear in1
  go_enter Tryz.func30, Tryz.ntmps30
  go_wp2_with fail
  refine IN.out.mono ?_
  rintro e w' ⟨rfl, rfl⟩
  go_wp2_with fail
  go_ret2
  exact ⟨rfl, rfl⟩

set_option maxRecDepth 100000 in
set_option maxHeartbeats 1000000 in
theorem cutMinus_yes (s : List UInt8) (w : World) (hs : s.length ≤ 1000000) :
    Calls Tryz.prog 30 #[.string ⟨(45 :: s).toArray⟩, .string ⟨#[45]⟩] w fun e w' => e = .returned (.tuple #[.string ⟨s.toArray⟩, .bool true]) ∧ w = w' := by
  have hp : Lib.hasPrefix (⟨(45 :: s).toArray⟩ : ByteArray).data.toList (⟨#[45]⟩ : ByteArray).data.toList = true := by simp [Lib.hasPrefix]
  have HP := Lib.hid hp
  clear hp
  have he : (⟨(45 :: s).toArray⟩ : ByteArray).extract 1 (s.length + 1) = ⟨s.toArray⟩ := by
    rw [ext_mk]; simp
  have HE := Lib.hid he
  clear he
  have in1 : Calls Tryz.prog 100 #[.string ⟨(45 :: s).toArray⟩, .string ⟨#[45]⟩] w fun e w' => e = .returned (.tuple #[.string ⟨s.toArray⟩, .bool true]) ∧ w = w' := by
    go_enter Tryz.func100, Tryz.ntmps100
    go_wp2_with fail
    refine (Tryz.stringslite_HasPrefix _ _ _).mono ?_
    rw [HP.out]
    rintro e w' ⟨rfl, rfl⟩
    go_wp2_with fail
    go_ret2
    exact ⟨ret2 (congrArg Value.string HE.out) rfl, rfl⟩
  have IN := Lib.hid in1
  clear in1
  go_enter Tryz.func30, Tryz.ntmps30
  go_wp2_with fail
  refine IN.out.mono ?_
  rintro e w' ⟨rfl, rfl⟩
  go_wp2_with fail
  go_ret2
  exact ⟨rfl, rfl⟩

theorem index_yes (a b : List UInt8) (ha : ∀ c ∈ a, c ≠ 112) : Lib.indexByte (a ++ 112 :: b) 112 = (a.length : Int) := by
  induction a with
  | nil => rfl
  | cons c a ih =>
    have h1 := ih (fun x hx => ha x (by simp [hx]))
    have h2 := ha c (by simp)
    show (if (c == 112) = true then (0 : Int) else if (Lib.indexByte (a ++ 112 :: b) 112 == -1) = true then -1 else Lib.indexByte (a ++ 112 :: b) 112 + 1) = _
    rw [if_neg (by simpa using h2), h1, if_neg (by simp)]
    simp
theorem index_no (a : List UInt8) (ha : ∀ c ∈ a, c ≠ 112) : Lib.indexByte a 112 = -1 := by
  induction a with
  | nil => rfl
  | cons c a ih =>
    have h1 := ih (fun x hx => ha x (by simp [hx]))
    have h2 := ha c (by simp)
    show (if (c == 112) = true then (0 : Int) else if (Lib.indexByte a 112 == -1) = true then -1 else Lib.indexByte a 112 + 1) = _
    rw [if_neg (by simpa using h2), h1]
    rfl

set_option maxRecDepth 100000 in
set_option maxHeartbeats 1000000 in
theorem cutIn_yes (a b : List UInt8) (w : World) (hs : a.length + b.length ≤ 1000000) (ha : ∀ c ∈ a, c ≠ 112) :
    Calls Tryz.prog 101 #[.string ⟨(a ++ 112 :: b).toArray⟩, .string ⟨#[112]⟩] w fun e w' => e = .returned (.tuple #[.string ⟨a.toArray⟩, .string ⟨b.toArray⟩, .bool true]) ∧ Below w.heap.size w w' := by
  have HP : Hid (Lib.indexByte (⟨(a ++ 112 :: b).toArray⟩ : ByteArray).data.toList 112 = (a.length : Int)) := index_yes a b ha
  obtain ⟨l, hl⟩ : ∃ l, l = a ++ 112 :: b := ⟨_, rfl⟩
  have hlen : l.length = a.length + b.length + 1 := by rw [hl]; simp; omega
  have he1 : (⟨l.toArray⟩ : ByteArray).extract 0 a.length = ⟨a.toArray⟩ := by
    rw [ext_mk, hl]; simp
  have he2 : (⟨l.toArray⟩ : ByteArray).extract (a.length + 1) l.length = ⟨b.toArray⟩ := by
    rw [ext_mk, List.take_of_length_le (Nat.le_refl _), hl]
    rw [show a ++ 112 :: b = (a ++ [112]) ++ b by simp, List.drop_left' (by simp)]
  rw [← hl] at HP ⊢
  have HE1 := Lib.hid he1
  have HE2 := Lib.hid he2
  clear he1 he2 ha hl
  have h1 : a.length ≤ l.length := by omega
  have h2 : a.length + 1 ≤ l.length := by omega
  have h3 : l.length ≤ 1000001 := by omega
  clear hlen
  have hw1 : IntKind.i64.wrap ((a.length : Int) + 1) = (a.length : Int) + 1 := IntWalk.i64_in _ (by omega)
  have hn1 : ((a.length : Int) + 1).toNat = a.length + 1 := by omega
  have hi0 : (0 : Int) ≤ (a.length : Int) := by omega
  have hi1 : (a.length : Int) ≤ (l.length : Int) := by omega
  have hi2 : (0 : Int) ≤ (a.length : Int) + 1 := by omega
  have hi3 : (a.length : Int) + 1 ≤ (l.length : Int) := by omega
  go_enter Tryz.func101, Tryz.ntmps101
  go_wp2_with fail
  refine (Tryz.stringslite_Index_one _ _ _).mono ?_
  rw [HP.out]
  rintro e w' ⟨rfl, rfl⟩
  go_wp2_with fail
  refine wp_region_held_drew (S := fun _ => True) (by kernel_rfl) trivial (fun hH => ?_)
  refine wpAnyH_take (i := 0) (oi := ⟨_, _, _, _, _, _⟩) (v := ?_) rfl (by kernel_rfl) (by kernel_rfl) (by kernel_rfl) (fun _ _ _ h => h) (Or.inl ⟨by rfl, ?_⟩) hH ?_
  rotate_left
  · (intro w hSw; (try dsimp only at hSw); go_simp; try (with_reducible rfl))
  simp only [Act.put, List.setIfInBounds_toArray, List.set_cons_zero, List.set_cons_succ]
  refine wpAnyH_take (i := 1) (oi := ⟨_, _, _, _, _, _⟩) (v := ?_) rfl (by kernel_rfl) (by kernel_rfl) (by kernel_rfl) (fun _ _ _ h => h) (Or.inl ⟨by rfl, ?_⟩) hH ?_
  rotate_left
  · (intro w hSw; (try dsimp only at hSw); go_simp; try (with_reducible rfl))
  simp only [Act.put, List.setIfInBounds_toArray, List.set_cons_zero, List.set_cons_succ]
  refine wpAnyH_take (i := 2) (oi := ⟨_, _, _, _, _, _⟩) (v := ?_) rfl (by kernel_rfl) (by kernel_rfl) (by kernel_rfl) (fun _ _ _ h => h) (Or.inl ⟨by rfl, ?_⟩) hH ?_
  rotate_left
  · (intro w hSw; (try dsimp only at hSw); go_simp; try (with_reducible rfl))
  simp only [Act.put, List.setIfInBounds_toArray, List.set_cons_zero, List.set_cons_succ]
  refine wpAnyH_take (i := 3) (oi := ⟨_, _, _, _, _, _⟩) (v := ?_) rfl (by kernel_rfl) (by kernel_rfl) (by kernel_rfl) (fun _ _ _ h => h) (Or.inl ⟨by rfl, ?_⟩) hH ?_
  rotate_left
  · (intro w hSw; (try dsimp only at hSw); go_simp; try (with_reducible rfl))
  simp only [Act.put, List.setIfInBounds_toArray, List.set_cons_zero, List.set_cons_succ]
  refine wpAnyH_take (i := 4) (oi := ⟨_, _, _, _, _, _⟩) (v := ?_) rfl (by kernel_rfl) (by kernel_rfl) (by kernel_rfl) (fun _ _ _ h => h) (Or.inl ⟨by rfl, ?_⟩) hH ?_
  rotate_left
  · (intro w hSw; (try dsimp only at hSw); go_simp; try (with_reducible rfl))
  simp only [Act.put, List.setIfInBounds_toArray, List.set_cons_zero, List.set_cons_succ]
  refine wpAnyH_take (i := 5) (oi := ⟨_, _, _, _, _, _⟩) (v := ?_) rfl (by kernel_rfl) (by kernel_rfl) (by kernel_rfl) (fun _ _ _ h => h) (Or.inl ⟨by rfl, ?_⟩) hH ?_
  rotate_left
  · (intro w hSw; (try dsimp only at hSw); go_simp; try (with_reducible rfl))
  simp only [Act.put, List.setIfInBounds_toArray, List.set_cons_zero, List.set_cons_succ]
  refine wpAnyH_take (i := 6) (oi := ⟨_, _, _, _, _, _⟩) (v := ?_) rfl (by kernel_rfl) (by kernel_rfl) (by kernel_rfl) (fun _ _ _ h => h) (Or.inl ⟨by rfl, ?_⟩) hH ?_
  rotate_left
  · (intro w hSw; (try dsimp only at hSw); go_simp; try (with_reducible rfl))
  simp only [Act.put, List.setIfInBounds_toArray, List.set_cons_zero, List.set_cons_succ]
  refine wpAnyH_take (i := 7) (oi := ⟨_, _, _, _, _, _⟩) (v := ?_) rfl (by kernel_rfl) (by kernel_rfl) (by kernel_rfl) (fun _ _ _ h => h) (Or.inl ⟨by rfl, ?_⟩) hH ?_
  rotate_left
  · (intro w hSw; (try dsimp only at hSw); go_simp; try (with_reducible rfl))
  simp only [Act.put, List.setIfInBounds_toArray, List.set_cons_zero, List.set_cons_succ]
  refine wpAnyH_take (i := 8) (oi := ⟨_, _, _, _, _, _⟩) (v := ?_) rfl (by kernel_rfl) (by kernel_rfl) (by kernel_rfl) (fun _ _ _ h => h) (Or.inl ⟨by rfl, ?_⟩) hH ?_
  rotate_left
  · (intro w hSw; (try dsimp only at hSw); go_simp; try (with_reducible rfl))
  simp only [Act.put, List.setIfInBounds_toArray, List.set_cons_zero, List.set_cons_succ]
  refine wpAnyH_take (i := 9) (oi := ⟨_, _, _, _, _, _⟩) (v := ?_) rfl (by kernel_rfl) (by kernel_rfl) (by kernel_rfl) (fun _ _ _ h => h) (Or.inl ⟨by rfl, ?_⟩) hH ?_
  rotate_left
  · (intro w hSw; (try dsimp only at hSw); go_simp; try (with_reducible rfl))
  simp only [Act.put, List.setIfInBounds_toArray, List.set_cons_zero, List.set_cons_succ]
  refine wpAnyH_take (i := 10) (oi := ⟨_, _, _, _, _, _⟩) (v := ?_) rfl (by kernel_rfl) (by kernel_rfl) (by kernel_rfl) (fun _ _ _ h => h) (Or.inl ⟨by rfl, ?_⟩) hH ?_
  rotate_left
  · (intro w hSw; (try dsimp only at hSw); go_simp; try (with_reducible rfl))
  simp only [Act.put, List.setIfInBounds_toArray, List.set_cons_zero, List.set_cons_succ]
  refine wpAnyH_take (i := 11) (oi := ⟨_, _, _, _, _, _⟩) (v := ?_) rfl (by kernel_rfl) (by kernel_rfl) (by kernel_rfl) (fun _ _ _ h => h) (Or.inl ⟨by rfl, ?_⟩) hH ?_
  rotate_left
  · (intro w hSw; (try dsimp only at hSw); go_simp; try (with_reducible rfl))
  simp only [Act.put, List.setIfInBounds_toArray, List.set_cons_zero, List.set_cons_succ]
  refine wpAnyH_done (by kernel_rfl) ?_ _
  go_wp2_with fail
  go_ret3
  exact ⟨ret3 (congrArg Value.string HE1.out) (congrArg Value.string HE2.out) rfl, below_drewN (Below.refl _ _) 1⟩

set_option maxRecDepth 100000 in
set_option maxHeartbeats 1000000 in
theorem cutIn_no (a : List UInt8) (w : World) (ha : ∀ c ∈ a, c ≠ 112) :
    Calls Tryz.prog 101 #[.string ⟨a.toArray⟩, .string ⟨#[112]⟩] w fun e w' => e = .returned (.tuple #[.string ⟨a.toArray⟩, .string ⟨#[]⟩, .bool false]) ∧ Below w.heap.size w w' := by
  have HP : Hid (Lib.indexByte (⟨a.toArray⟩ : ByteArray).data.toList 112 = -1) := index_no a ha
  clear ha
  go_enter Tryz.func101, Tryz.ntmps101
  go_wp2_with fail
  refine (Tryz.stringslite_Index_one _ _ _).mono ?_
  rw [HP.out]
  rintro e w' ⟨rfl, rfl⟩
  go_wp2_with fail
  go_ret3
  exact ⟨rfl, Below.refl _ _⟩

set_option maxRecDepth 100000 in
set_option maxHeartbeats 1000000 in
theorem cutP_yes (a b : List UInt8) (w : World) (hs : a.length + b.length ≤ 1000000) (ha : ∀ c ∈ a, c ≠ 112) :
    Calls Tryz.prog 31 #[.string ⟨(a ++ 112 :: b).toArray⟩, .string ⟨#[112]⟩] w fun e w' => e = .returned (.tuple #[.string ⟨a.toArray⟩, .string ⟨b.toArray⟩, .bool true]) ∧ Below w.heap.size w w' := by
  have IN := Lib.hid (cutIn_yes a b w hs ha)
  clear ha
  go_enter Tryz.func31, Tryz.ntmps31
  go_wp2_with fail
  refine IN.out.mono ?_
  rintro e w' ⟨rfl, hb⟩
  go_wp2_with fail
  go_ret3
  exact ⟨rfl, hb⟩
set_option maxRecDepth 100000 in
set_option maxHeartbeats 1000000 in
theorem cutP_no (a : List UInt8) (w : World) (ha : ∀ c ∈ a, c ≠ 112) :
    Calls Tryz.prog 31 #[.string ⟨a.toArray⟩, .string ⟨#[112]⟩] w fun e w' => e = .returned (.tuple #[.string ⟨a.toArray⟩, .string ⟨#[]⟩, .bool false]) ∧ Below w.heap.size w w' := by
  have IN := Lib.hid (cutIn_no a w ha)
  clear ha
  go_enter Tryz.func31, Tryz.ntmps31
  go_wp2_with fail
  refine IN.out.mono ?_
  rintro e w' ⟨rfl, hb⟩
  go_wp2_with fail
  go_ret3
  exact ⟨rfl, hb⟩

end Go.Proofs.YtekajoifgdpmlaaGreatDoor

/-! strconv.Atoi at a short number: what the call computes. -/
namespace Go.Proofs.YtekajoifgdpmlaaGreatDoor
open Go.RowKit Pl Go.Shelf

theorem bytes_cell (w : World) (u : List UInt8) (cap i : Nat) (fr : Nat × Nat) (hi : i < u.length) : (w.alloc (.cells (bytesRow ⟨u.toArray⟩ cap) 5 fr)).drew.cell? ⟨w.heap.size, i, none⟩ = some (.int .u8 (u[i].toNat : Int)) := by
  have h1 : (w.alloc (.cells (bytesRow ⟨u.toArray⟩ cap) 5 fr)).drew.heap[w.heap.size]? = some (.cells (bytesRow ⟨u.toArray⟩ cap) 5 fr) := heap_alloc_new w _
  have h2 : (bytesRow ⟨u.toArray⟩ cap)[i]? = some (.int .u8 (u[i].toNat : Int)) := by
    unfold bytesRow
    rw [Array.getElem?_append_left (by simpa using hi)]
    simp [hi]
  unfold World.cell?
  simp only [h1]
  exact h2

set_option maxRecDepth 100000 in
set_option maxHeartbeats 2000000 in
theorem atoiIn_pos (c : UInt8) (t : List UInt8) (w : World) (hl : t.length ≤ 5) (hd : (c :: t).all isDig = true) :
    Calls Tryz.prog 104 #[.string ⟨(c :: t).toArray⟩] w fun e w' => e = .returned (.tuple #[.int .i64 (numL (c :: t)), .nilIface]) ∧ Below w.heap.size w w' := by
  have hdig : ∀ x ∈ c :: t, 48 ≤ x.toNat ∧ x.toNat ≤ 57 := by
    rw [List.all_eq_true] at hd
    intro x hx
    simpa [isDig] using hd x hx
  have hc := hdig c (by simp)
  have hb0 : ∀ h, (⟨(c :: t).toArray⟩ : ByteArray)[0]'h = c := fun _ => rfl
  have hc1 : ((c.toNat : Int) == 45) = false := by simp; omega
  have hc2 : ((c.toNat : Int) == 43) = false := by simp; omega
  have hc3 : ¬ (c.toNat : Int) = 45 := by omega
  have hc4 : ¬ (c.toNat : Int) = 43 := by omega
  have HDG := Lib.hid hdig
  have HLT := Lib.hid (numL_lt (c :: t) (fun x hx => (hdig x hx).2))
  have hcv := fun (W : World) => run_bytes_of_string (P := Tryz.prog) W 9 52 5 ⟨(c :: t).toArray⟩ Tryz.underlying9 Tryz.underlying52 Tryz.underlying5
  have hsz : (⟨(c :: t).toArray⟩ : ByteArray).size = t.length + 1 := by simp [ByteArray.size]
  rw [hsz] at hcv
  clear hdig hd
  go_enter Tryz.func104, Tryz.ntmps104
  go_wp2_with fail
  have hcell := fun i (hi : i < (c :: t).length) => bytes_cell w (c :: t) (grownCap w (t.length + 1) 0 5) i ((bytesRow ⟨((c :: t)).toArray⟩ (grownCap w (t.length + 1) 0 5)).size, (bytesRow ⟨((c :: t)).toArray⟩ (grownCap w (t.length + 1) 0 5)).size + 1) hi
  have hb1 : Below w.heap.size w (w.alloc (.cells (bytesRow ⟨((c :: t)).toArray⟩ (grownCap w (t.length + 1) 0 5)) 5 ((bytesRow ⟨((c :: t)).toArray⟩ (grownCap w (t.length + 1) 0 5)).size, (bytesRow ⟨((c :: t)).toArray⟩ (grownCap w (t.length + 1) 0 5)).size + 1))).drew := below_drewN (ballo _ _) 1
  generalize (w.alloc (.cells (bytesRow ⟨((c :: t)).toArray⟩ (grownCap w (t.length + 1) 0 5)) 5 ((bytesRow ⟨((c :: t)).toArray⟩ (grownCap w (t.length + 1) 0 5)).size, (bytesRow ⟨((c :: t)).toArray⟩ (grownCap w (t.length + 1) 0 5)).size + 1))).drew = W1 at *
  generalize grownCap w (t.length + 1) 0 5 = cap at *
  have HC := Lib.hid hcell
  clear hcell hcv
  have hlen : ((c :: t)).length = (t.length + 1) := by simp
  have HL := Lib.hid hlen
  clear hlen
  generalize hN : (t.length + 1) = N at *
  have hNb : N ≤ 6 := by omega
  go_loop [6, 49] (fun v i => ∃ k x : Nat, k ≤ N ∧ i = .int .i64 k ∧ v = .int .i64 (x : Int) ∧ x < 10 ^ k ∧ Hid (x = numL (((c :: t)).take k))) (fun _ i => N - (intOf i).toNat)
  case atStart => exact ⟨0, 0, by omega, rfl, rfl, by simp, rfl⟩
  case round =>
    obtain ⟨k, x, hk, rfl, rfl, hx, HX⟩ := hrel
    have hp6 : 10 ^ k ≤ 10 ^ 6 := Nat.pow_le_pow_right (by omega) (by omega)
    have hx6 : x ≤ 1000000 := by omega
    by_cases hlt : k < N
    · have hlt' : k < ((c :: t)).length := by rw [HL.out]; exact hlt
      have hcl := HC.out k hlt'
      have hdg := HDG.out ((c :: t))[k] (List.getElem_mem hlt')
      have HN := Lib.hid (numL_take ((c :: t)) k hlt')
      have hx2 := HLT.out (k + 1) (by omega)
      rw [HN.out, ← HX.out] at hx2
      obtain ⟨y, hy⟩ : ∃ y, ((c :: t))[k].toNat = y + 48 := ⟨((c :: t))[k].toNat - 48, by omega⟩
      have hy9 : y ≤ 9 := by omega
      rw [hy] at hcl hx2
      have HN2 : Hid (10 * x + y = numL (((c :: t)).take (k + 1))) := by unfold Hid; rw [HN.out, ← HX.out, hy]; omega
      rw [show y + 48 - 48 = y by omega] at hx2
      clear hdg hlt' HN hy hp6
      go_wp2_with fail
      go_round
      case rel => exact ⟨k + 1, 10 * x + y, by omega, by go_num, by first | rfl | (congr 1; omega), hx2, HN2⟩
      case measure => simp [intOf]; omega
    · obtain rfl : k = N := by omega
      have HE := HX.out
      rw [List.take_of_length_le (by rw [HL.out]; omega)] at HE
      have HE2 := Lib.hid HE
      clear HE hp6
      go_wp2_with fail
      go_ret2
      exact ⟨by rw [← HE2.out]; rfl, hb1⟩

set_option maxRecDepth 100000 in
set_option maxHeartbeats 2000000 in
theorem atoiIn_neg (c : UInt8) (t : List UInt8) (w : World) (hl : t.length ≤ 5) (hd : (c :: t).all isDig = true) :
    Calls Tryz.prog 104 #[.string ⟨(45 :: c :: t).toArray⟩] w fun e w' => e = .returned (.tuple #[.int .i64 (-(numL (c :: t) : Int)), .nilIface]) ∧ Below w.heap.size w w' := by
  have hdig : ∀ x ∈ c :: t, 48 ≤ x.toNat ∧ x.toNat ≤ 57 := by
    rw [List.all_eq_true] at hd
    intro x hx
    simpa [isDig] using hd x hx
  have hb0 : ∀ h, (⟨(45 :: c :: t).toArray⟩ : ByteArray)[0]'h = 45 := fun _ => rfl
  have hex : (⟨(45 :: c :: t).toArray⟩ : ByteArray).extract 1 (t.length + 1 + 1) = ⟨(c :: t).toArray⟩ := by rw [ext_mk]; simp
  have HDG := Lib.hid hdig
  have HLT := Lib.hid (numL_lt (c :: t) (fun x hx => (hdig x hx).2))
  have hcv := fun (W : World) => run_bytes_of_string (P := Tryz.prog) W 9 52 5 ⟨(c :: t).toArray⟩ Tryz.underlying9 Tryz.underlying52 Tryz.underlying5
  have hsz : (⟨(c :: t).toArray⟩ : ByteArray).size = t.length + 1 := by simp [ByteArray.size]
  rw [hsz] at hcv
  clear hdig hd
  go_enter Tryz.func104, Tryz.ntmps104
  go_wp2_with fail
  have hcell := fun i (hi : i < (c :: t).length) => bytes_cell w (c :: t) (grownCap w (t.length + 1) 0 5) i ((bytesRow ⟨((c :: t)).toArray⟩ (grownCap w (t.length + 1) 0 5)).size, (bytesRow ⟨((c :: t)).toArray⟩ (grownCap w (t.length + 1) 0 5)).size + 1) hi
  have hb1 : Below w.heap.size w (w.alloc (.cells (bytesRow ⟨((c :: t)).toArray⟩ (grownCap w (t.length + 1) 0 5)) 5 ((bytesRow ⟨((c :: t)).toArray⟩ (grownCap w (t.length + 1) 0 5)).size, (bytesRow ⟨((c :: t)).toArray⟩ (grownCap w (t.length + 1) 0 5)).size + 1))).drew := below_drewN (ballo _ _) 1
  generalize (w.alloc (.cells (bytesRow ⟨((c :: t)).toArray⟩ (grownCap w (t.length + 1) 0 5)) 5 ((bytesRow ⟨((c :: t)).toArray⟩ (grownCap w (t.length + 1) 0 5)).size, (bytesRow ⟨((c :: t)).toArray⟩ (grownCap w (t.length + 1) 0 5)).size + 1))).drew = W1 at *
  generalize grownCap w (t.length + 1) 0 5 = cap at *
  have HC := Lib.hid hcell
  clear hcell hcv
  have hlen : ((c :: t)).length = (t.length + 1) := by simp
  have HL := Lib.hid hlen
  clear hlen
  generalize hN : (t.length + 1) = N at *
  have hNb : N ≤ 6 := by omega
  go_loop [6, 49] (fun v i => ∃ k x : Nat, k ≤ N ∧ i = .int .i64 k ∧ v = .int .i64 (x : Int) ∧ x < 10 ^ k ∧ Hid (x = numL (((c :: t)).take k))) (fun _ i => N - (intOf i).toNat)
  case atStart => exact ⟨0, 0, by omega, rfl, rfl, by simp, rfl⟩
  case round =>
    obtain ⟨k, x, hk, rfl, rfl, hx, HX⟩ := hrel
    have hp6 : 10 ^ k ≤ 10 ^ 6 := Nat.pow_le_pow_right (by omega) (by omega)
    have hx6 : x ≤ 1000000 := by omega
    by_cases hlt : k < N
    · have hlt' : k < ((c :: t)).length := by rw [HL.out]; exact hlt
      have hcl := HC.out k hlt'
      have hdg := HDG.out ((c :: t))[k] (List.getElem_mem hlt')
      have HN := Lib.hid (numL_take ((c :: t)) k hlt')
      have hx2 := HLT.out (k + 1) (by omega)
      rw [HN.out, ← HX.out] at hx2
      obtain ⟨y, hy⟩ : ∃ y, ((c :: t))[k].toNat = y + 48 := ⟨((c :: t))[k].toNat - 48, by omega⟩
      have hy9 : y ≤ 9 := by omega
      rw [hy] at hcl hx2
      have HN2 : Hid (10 * x + y = numL (((c :: t)).take (k + 1))) := by unfold Hid; rw [HN.out, ← HX.out, hy]; omega
      rw [show y + 48 - 48 = y by omega] at hx2
      clear hdg hlt' HN hy hp6
      go_wp2_with fail
      go_round
      case rel => exact ⟨k + 1, 10 * x + y, by omega, by go_num, by first | rfl | (congr 1; omega), hx2, HN2⟩
      case measure => simp [intOf]; omega
    · obtain rfl : k = N := by omega
      have HE := HX.out
      rw [List.take_of_length_le (by rw [HL.out]; omega)] at HE
      have HE2 := Lib.hid HE
      clear HE hp6
      go_wp2_with fail
      go_ret2
      exact ⟨by rw [← HE2.out]; rfl, hb1⟩

theorem atoi_pos (c : UInt8) (t : List UInt8) (w : World) (hl : t.length ≤ 5) (hd : (c :: t).all isDig = true) :
    Calls Tryz.prog 33 #[.string ⟨(c :: t).toArray⟩] w fun e w' => e = .returned (.tuple #[.int .i64 (numL (c :: t)), .nilIface]) ∧ Below w.heap.size w w' := by
  have IN := Lib.hid (atoiIn_pos c t w hl hd)
  clear hd
  go_enter Tryz.func33, Tryz.ntmps33
  go_wp2_with fail
  refine IN.out.mono ?_
  rintro e w' ⟨rfl, hb⟩
  go_wp2_with fail
  go_ret2
  exact ⟨rfl, hb⟩
theorem atoi_neg (c : UInt8) (t : List UInt8) (w : World) (hl : t.length ≤ 5) (hd : (c :: t).all isDig = true) :
    Calls Tryz.prog 33 #[.string ⟨(45 :: c :: t).toArray⟩] w fun e w' => e = .returned (.tuple #[.int .i64 (-(numL (c :: t) : Int)), .nilIface]) ∧ Below w.heap.size w w' := by
  have IN := Lib.hid (atoiIn_neg c t w hl hd)
  clear hd
  go_enter Tryz.func33, Tryz.ntmps33
  go_wp2_with fail
  refine IN.out.mono ?_
  rintro e w' ⟨rfl, hb⟩
  go_wp2_with fail
  go_ret2
  exact ⟨rfl, hb⟩

end Go.Proofs.YtekajoifgdpmlaaGreatDoor

/-! dyadic.Parse: what the call computes. -/
namespace Go.Proofs.YtekajoifgdpmlaaGreatDoor
open Go.RowKit Pl Go.Shelf

/-- A text in parts: a sign, a mantissa, 'p', a sign, an exponent. -/
structure Parts (S : List UInt8) (neg : Bool) (m : List UInt8) (mi : Bool) (u : List UInt8) : Prop where
  eq : S = (if neg then [45] else []) ++ (m ++ 112 :: ((if mi then [45] else []) ++ u))
  nop : ∀ c ∈ m, c ≠ 112
  sgn : neg = false → (m ++ 112 :: ((if mi then [45] else []) ++ u)).head? ≠ some 45
  sgn' : mi = false → u.head? ≠ some 45
/-- The parts are right. -/
def partsOk (m : List UInt8) (mi : Bool) (u : List UInt8) : Bool := decOk m && decOk u && decide (u.length ≤ 6) && !(mi && decide (u = [48])) && decide (numL m % 2 = 1)
def expo (mi : Bool) (u : List UInt8) : Int := if mi then -(numL u : Int) else (numL u : Int)
def partsD (neg : Bool) (m : List UInt8) (mi : Bool) (u : List UInt8) : Dy × Int := if partsOk m mi u = true then checkD neg (numL m) (expo mi u) else (zeroD, 3)

theorem digs_short {m : List UInt8} (h : m.all isDig = true) (hl : m.length ≤ 1250) : (digs (numL m)).length ≤ 256 := by
  have hd : ∀ c ∈ m, c.toNat ≤ 57 := by
    rw [List.all_eq_true] at h
    intro c hc
    have := h c hc
    simp [isDig] at this
    exact this.2
  have h1 := numL_lt m hd m.length (Nat.le_refl _)
  rw [List.take_of_length_le (Nat.le_refl _)] at h1
  refine digs_len_blen _ _ (Nat.le_trans (blen_le_of _ (4 * m.length) ?_) (by omega))
  rw [Nat.pow_mul]
  exact Nat.lt_of_lt_of_le h1 (Nat.pow_le_pow_left (by omega) _)
theorem last_dig {m : List UInt8} (h : decOk m = true) : ∃ m' c, m = m' ++ [c] ∧ 48 ≤ c.toNat ∧ c.toNat ≤ 57 ∧ numL m % 2 = (c.toNat - 48) % 2 ∧ m.all isDig = true ∧ m ≠ [] := by
  unfold decOk at h
  simp only [Bool.and_eq_true] at h
  obtain ⟨⟨h1, _⟩, h3⟩ := h
  have hne : m ≠ [] := by rintro rfl; simp at h1
  rcases List.eq_nil_or_concat m with e | ⟨m', c, e⟩
  · exact absurd e hne
  · rw [List.concat_eq_append] at e
    have hc := (List.all_eq_true.1 h3) c (by rw [e]; simp)
    simp [isDig] at hc
    refine ⟨m', c, e, hc.1, hc.2, ?_, h3, hne⟩
    rw [e, numL_snoc]
    omega

theorem minus_zero {mi : Bool} {u R : List UInt8} (hR : R = (if mi then [45] else []) ++ u) (hU : decOk u = true) (h : R = [45, 48]) : mi = true ∧ u = [48] := by
  rw [h] at hR
  cases mi
  · exfalso
    simp at hR
    rw [← hR] at hU
    revert hU
    decide
  · simp at hR
    exact ⟨rfl, hR.symm⟩

set_option maxRecDepth 100000 in
set_option maxHeartbeats 4000000 in
theorem parse_parts {S : List UInt8} {neg : Bool} {m : List UInt8} {mi : Bool} {u : List UInt8} (hP : Parts S neg m mi u) (w : World) (hl : S.length ≤ 1250) (ht : Tabs w) :
    Calls Tryz.prog 10 #[.string ⟨S.toArray⟩] w (RetE (partsD neg m mi u).1 (partsD neg m mi u).2 w) := by
  obtain ⟨R, hR⟩ : ∃ R, R = (if mi then [45] else []) ++ u := ⟨_, rfl⟩
  obtain ⟨T, hT⟩ : ∃ T, T = m ++ 112 :: R := ⟨_, rfl⟩
  have heq := hP.eq
  rw [← hR, ← hT] at heq
  have hTl : T.length ≤ 1250 := by rw [heq] at hl; simp at hl; omega
  have hml : m.length + R.length + 1 = T.length := by rw [hT]; simp; omega
  have hul : u.length ≤ R.length := by rw [hR]; simp
  have HC1 : Hid (∀ W, Calls Tryz.prog 30 #[.string ⟨S.toArray⟩, .string ⟨#[45]⟩] W fun e w' => e = .returned (.tuple #[.string ⟨T.toArray⟩, .bool neg]) ∧ W = w') := fun W => by
    cases neg
    · have := cutMinus_no S W (by
        have := hP.sgn rfl
        rw [← hR, ← hT] at this
        rw [heq]; exact this)
      rw [heq] at this ⊢
      exact this
    · rw [heq]
      exact cutMinus_yes T W (by omega)
  have HC2 : Hid (∀ W, Calls Tryz.prog 31 #[.string ⟨T.toArray⟩, .string ⟨#[112]⟩] W fun e w' => e = .returned (.tuple #[.string ⟨m.toArray⟩, .string ⟨R.toArray⟩, .bool true]) ∧ Below W.heap.size W w') := fun W => by
    rw [hT]
    exact cutP_yes m R W (by omega) hP.nop
  have HC3 : Hid (∀ W, Calls Tryz.prog 30 #[.string ⟨R.toArray⟩, .string ⟨#[45]⟩] W fun e w' => e = .returned (.tuple #[.string ⟨u.toArray⟩, .bool mi]) ∧ W = w') := fun W => by
    cases mi
    · rw [hR]
      exact cutMinus_no u W (hP.sgn' rfl)
    · rw [hR]
      exact cutMinus_yes u W (by omega)
  have hS0 : ¬ S = [48] := by
    intro h
    have h1 : (112 : UInt8) ∈ S := by rw [heq, hT]; simp
    rw [h] at h1
    simp at h1
  have hS1 : (S == [48]) = false := by simpa using hS0
  have HR := Lib.hid hR
  have HE : Hid (partsD neg m mi u = if partsOk m mi u = true then checkD neg (numL m) (expo mi u) else (zeroD, 3)) := rfl
  generalize partsD neg m mi u = X at *
  have HT := Lib.hid ht
  clear heq hR hT hP ht
  have hbw := ballo w (.cells #[.bool false, .slice none 0 0, .int .i64 0] 25)
  have kz := Blk.new w 25 #[.bool false, .slice none 0 0, .int .i64 0]
  go_enter Tryz.func10, Tryz.ntmps10
  go_wp2_with fail
  generalize w.alloc (.cells #[.bool false, .slice none 0 0, .int .i64 0] 25) = W0 at *
  refine (HC1.out _).mono ?_
  rintro e w' ⟨rfl, rfl⟩
  go_wp2_with fail
  refine (HC2.out _).mono ?_
  rintro e w2 ⟨rfl, hb2⟩
  replace hbw := bnext hbw hb2
  replace kz := kz.below hb2 kz.lt
  clear hb2
  go_wp2_with fail
  refine (HC3.out _).mono ?_
  rintro e w' ⟨rfl, rfl⟩
  go_wp2_with fail
  refine (digits_any m _ (by omega)).mono ?_
  rintro e w3 ⟨rfl, hb3⟩
  replace hbw := bnext hbw hb3
  replace kz := kz.below hb3 kz.lt
  clear hb3
  cases hm : decOk m
  · have HX : Hid (X = (zeroD, 3)) := by unfold Hid; rw [HE.out, if_neg]; unfold partsOk; rw [hm]; simp
    obtain ⟨z0, z1, z2⟩ := kz.cells3
    have f0 := kz.frozen 0
    have f1 := kz.frozen 1
    have f2 := kz.frozen 2
    go_wp2_with fail
    refine bodyPost_ret (resDE Tryz.results10 rfl (kz.set3 _ _ _)) rfl ?_
    rw [HX.out]
    exact ⟨none, 0, 0, rfl, SL.nil _, Fresh.zero, below_set3 hbw (Nat.le_refl _) _ _ _⟩
  have HM := Lib.hid hm
  clear hm
  go_wp2_with fail
  refine (digits_any u _ (by omega)).mono ?_
  rintro e w4 ⟨rfl, hb4⟩
  replace hbw := bnext hbw hb4
  replace kz := kz.below hb4 kz.lt
  clear hb4
  cases hu : decOk u
  · have HX : Hid (X = (zeroD, 3)) := by unfold Hid; rw [HE.out, if_neg]; unfold partsOk; rw [hu]; simp
    obtain ⟨z0, z1, z2⟩ := kz.cells3
    have f0 := kz.frozen 0
    have f1 := kz.frozen 1
    have f2 := kz.frozen 2
    go_wp2_with fail
    refine bodyPost_ret (resDE Tryz.results10 rfl (kz.set3 _ _ _)) rfl ?_
    rw [HX.out]
    exact ⟨none, 0, 0, rfl, SL.nil _, Fresh.zero, below_set3 hbw (Nat.le_refl _) _ _ _⟩
  have HU := Lib.hid hu
  clear hu
  by_cases h6 : 6 < u.length
  · have HX : Hid (X = (zeroD, 3)) := by unfold Hid; rw [HE.out, if_neg]; unfold partsOk; rw [show decide (u.length ≤ 6) = false from decide_eq_false (by omega)]; simp
    obtain ⟨z0, z1, z2⟩ := kz.cells3
    have f0 := kz.frozen 0
    have f1 := kz.frozen 1
    have f2 := kz.frozen 2
    go_wp2_with fail
    refine bodyPost_ret (resDE Tryz.results10 rfl (kz.set3 _ _ _)) rfl ?_
    rw [HX.out]
    exact ⟨none, 0, 0, rfl, SL.nil _, Fresh.zero, below_set3 hbw (Nat.le_refl _) _ _ _⟩
  by_cases hR0 : R = [45, 48]
  · have HX : Hid (X = (zeroD, 3)) := by unfold Hid; rw [HE.out, if_neg]; obtain ⟨e1, e2⟩ := minus_zero HR.out HU.out hR0; unfold partsOk; rw [e1, e2]; simp
    have hR1 : (R == [45, 48]) = true := by simpa using hR0
    obtain ⟨z0, z1, z2⟩ := kz.cells3
    have f0 := kz.frozen 0
    have f1 := kz.frozen 1
    have f2 := kz.frozen 2
    go_wp2_with fail
    refine bodyPost_ret (resDE Tryz.results10 rfl (kz.set3 _ _ _)) rfl ?_
    rw [HX.out]
    exact ⟨none, 0, 0, rfl, SL.nil _, Fresh.zero, below_set3 hbw (Nat.le_refl _) _ _ _⟩
  have hR1 : (R == [45, 48]) = false := by simpa using hR0
  obtain ⟨m', c, hm1, hc1, hc2, hpar, hall, hmne⟩ := last_dig HM.out
  have hmp : 0 < m.length := List.length_pos_iff.2 hmne
  have hidx : ∀ h, (⟨m.toArray⟩ : ByteArray)[m.length - 1]'h = c := fun h => by
    show m.toArray[m.length - 1] = c
    simp [hm1]
  obtain ⟨y, hy⟩ : ∃ y, c.toNat = y + 48 := ⟨c.toNat - 48, by omega⟩
  have hy9 : y ≤ 9 := by omega
  rw [hy, show y + 48 - 48 = y by omega] at hpar
  have HPAR := Lib.hid hpar
  have hcn : (c.toNat : Int) = (y : Int) + 48 := by omega
  have HALL := Lib.hid hall
  clear hpar hall hmne hm1 hy hc1 hc2
  by_cases hy2 : y % 2 = 0
  · have HX : Hid (X = (zeroD, 3)) := by unfold Hid; rw [HE.out, if_neg]; unfold partsOk; rw [HPAR.out, hy2]; simp
    have hy3 : ((y : Int) % 2 == 0) = true := by simp; omega
    have hy4 : (y : Int) % 2 = 0 := by omega
    obtain ⟨z0, z1, z2⟩ := kz.cells3
    have f0 := kz.frozen 0
    have f1 := kz.frozen 1
    have f2 := kz.frozen 2
    go_wp2_with fail
    refine bodyPost_ret (resDE Tryz.results10 rfl (kz.set3 _ _ _)) rfl ?_
    rw [HX.out]
    exact ⟨none, 0, 0, rfl, SL.nil _, Fresh.zero, below_set3 hbw (Nat.le_refl _) _ _ _⟩
  have hy3 : ((y : Int) % 2 == 0) = false := by simp; omega
  have HX : Hid (X = checkD neg (numL m) (expo mi u)) := by
    unfold Hid
    rw [HE.out, if_pos]
    unfold partsOk
    rw [HM.out, HU.out, HPAR.out, show y % 2 = 1 by omega, decide_eq_true (show u.length ≤ 6 by omega)]
    have : (mi && decide (u = [48])) = false := by
      cases mi
      · rfl
      · have h1 := HR.out
        simp at h1
        simp
        intro h2
        exact hR0 (by rw [h1, h2])
    rw [this]
    rfl
  obtain ⟨u1, u2, u3, u4, u5, u6, huall, hune⟩ := last_dig HU.out
  clear u3 u4 u5 u6
  obtain ⟨K, hK⟩ : ∃ K, K = expo mi u := ⟨_, rfl⟩
  have hub : ∀ x ∈ u, x.toNat ≤ 57 := by
    rw [List.all_eq_true] at huall
    intro x hx
    have := huall x hx
    simp [isDig] at this
    exact this.2
  have hnu := numL_lt u hub u.length (Nat.le_refl _)
  rw [List.take_of_length_le (Nat.le_refl _)] at hnu
  have hp6 : 10 ^ u.length ≤ 10 ^ 6 := Nat.pow_le_pow_right (by omega) (by omega)
  have hKb : -1000000 ≤ K ∧ K ≤ 1000000 := by
    rw [hK]
    unfold expo
    split <;> omega
  have HA : Hid (∀ W, Calls Tryz.prog 33 #[.string ⟨R.toArray⟩] W fun e w' => e = .returned (.tuple #[.int .i64 K, .nilIface]) ∧ Below W.heap.size W w') := fun W => by
    cases u with
    | nil => exact absurd rfl hune
    | cons d t =>
      rw [HR.out, hK]
      simp only [List.length_cons] at h6
      cases mi
      · exact atoi_pos d t W (by omega) huall
      · exact atoi_neg d t W (by omega) huall
  rw [← hK] at HX
  clear hK hnu hp6 hub huall hune hR0 HPAR HE
  obtain ⟨k1, k2⟩ := hKb
  go_wp2_with fail
  refine (HA.out _).mono ?_
  rintro e w5 ⟨rfl, hb5⟩
  replace hbw := bnext hbw hb5
  replace kz := kz.below hb5 kz.lt
  clear hb5 hR1 hy3 hidx
  go_wp2_with fail
  refine (mantissa_any m _ (by omega) HALL.out).mono ?_
  rintro e w6 ⟨A6, n6, c6, rfl, hs6, hf6, hb6⟩
  replace hbw := bnext hbw hb6
  replace kz := kz.below hb6 kz.lt
  have hn6 : n6 ≤ 256 := by rw [← hs6.len]; exact digs_short HALL.out (by omega)
  clear hb6 hf6
  go_wp2_with fail
  refine (canonical_any neg A6 n6 c6 _ K _ hs6 hn6 (by omega) (by omega) (HT.out.next hbw)).mono ?_
  rw [val_digs]
  rintro e w7 ⟨A7, n7, c7, rfl, hs7, hf7, hb7⟩
  have o7 : Off A7 n7 w.heap.size := Off.fresh hf7 kz.lt
  have hfw := hf7.mono hbw.size
  replace hbw := bnext hbw hb7
  replace kz := kz.below hb7 kz.lt
  have hn7 : n7 ≤ 256 := by
    rw [← hs7.len]
    exact Nat.le_trans (canon_len _ _ _) (digs_short HALL.out (by omega))
  clear hb7 hf7 hs6
  have HD : Hid (checkD neg (numL m) K = if inR (val (canonD neg (numL m) K).l) (canonD neg (numL m) K).e = true then (canonD neg (numL m) K, 0) else (zeroD, 9)) := rfl
  generalize canonD neg (numL m) K = d at *
  generalize checkD neg (numL m) K = r at *
  go_wp2_with fail
  cases hr : inR (val d.l) d.e
  · have hrr : Hid (r = (zeroD, 9)) := by unfold Hid; rw [HD.out, hr]; rfl
    refine (checked_big d.neg A7 n7 c7 d.l d.e _ hs7 (by omega) hr).mono ?_
    rintro e w8 ⟨rfl, hb8⟩
    replace hbw := bnext hbw hb8
    replace kz := kz.below hb8 kz.lt
    clear hb8
    obtain ⟨z0, z1, z2⟩ := kz.cells3
    have f0 := kz.frozen 0
    have f1 := kz.frozen 1
    have f2 := kz.frozen 2
    go_wp2_with fail
    refine bodyPost_ret (resDE Tryz.results10 rfl (kz.set3 _ _ _)) rfl ?_
    rw [HX.out, hrr.out]
    exact ⟨none, 0, 0, rfl, SL.nil _, Fresh.zero, below_set3 hbw (Nat.le_refl _) _ _ _⟩
  · have hrr : Hid (r = (d, 0)) := by unfold Hid; rw [HD.out, if_pos hr]
    refine (checked_ok d.neg A7 n7 c7 d.l d.e _ hs7 (by omega) hr).mono ?_
    rintro e w8 ⟨rfl, hb8⟩
    replace hbw := bnext hbw hb8
    replace kz := kz.below hb8 kz.lt
    replace hs7 := hs7.below hb8
    clear hb8
    obtain ⟨z0, z1, z2⟩ := kz.cells3
    have f0 := kz.frozen 0
    have f1 := kz.frozen 1
    have f2 := kz.frozen 2
    go_wp2_with fail
    refine bodyPost_ret (resDE Tryz.results10 rfl (kz.set3 _ _ _)) rfl ?_
    rw [HX.out, hrr.out]
    exact ⟨A7, n7, c7, rfl, hs7.off3 o7 _ _ _, hfw, below_set3 hbw (Nat.le_refl _) _ _ _⟩

end Go.Proofs.YtekajoifgdpmlaaGreatDoor

/-! dyadic.Parse at a text that is too long, at '0', at a text without 'p'; texts and their parts. -/
namespace Go.Proofs.YtekajoifgdpmlaaGreatDoor
open Go.RowKit Pl Go.Shelf
open Go.Lib (decDigits itoa)

set_option maxRecDepth 100000 in
set_option maxHeartbeats 1000000 in
theorem parse_long (S : List UInt8) (w : World) (hl : 1250 < S.length) (hs : S.length ≤ 1000000) :
    Calls Tryz.prog 10 #[.string ⟨S.toArray⟩] w (RetE zeroD 3 w) := by
  have hbw := ballo w (.cells #[.bool false, .slice none 0 0, .int .i64 0] 25)
  have kz := Blk.new w 25 #[.bool false, .slice none 0 0, .int .i64 0]
  go_enter Tryz.func10, Tryz.ntmps10
  go_wp2_with fail
  refine bodyPost_ret (resDE Tryz.results10 rfl (Blk.newAt _ _ _ rfl)) rfl ?_
  exact ⟨none, 0, 0, rfl, SL.nil _, Fresh.zero, ballo _ _⟩
set_option maxRecDepth 100000 in
set_option maxHeartbeats 1000000 in
theorem parse_zero (w : World) :
    Calls Tryz.prog 10 #[.string ⟨#[48]⟩] w (RetE zeroD 0 w) := by
  go_enter Tryz.func10, Tryz.ntmps10
  go_wp2_with fail
  refine bodyPost_ret (resDE Tryz.results10 rfl (Blk.newAt _ _ _ rfl)) rfl ?_
  exact ⟨none, 0, 0, rfl, SL.nil _, Fresh.zero, ballo _ _⟩

theorem numL_dec : ∀ v, numL (decDigits v) = v := by
  intro v
  induction v using Nat.strongRecOn with
  | _ v ih =>
    by_cases h : v < 10
    · rw [dec_small h]
      simp [numL]
      omega
    · rw [dec_big h, numL_snoc, ih (v / 10) (by omega)]
      have : (UInt8.ofNat (48 + v % 10)).toNat = 48 + v % 10 := by simp; omega
      rw [this]
      omega
theorem dec_all : ∀ v, (decDigits v).all isDig = true := by
  intro v
  induction v using Nat.strongRecOn with
  | _ v ih =>
    by_cases h : v < 10
    · rw [dec_small h]
      simp [isDig]; omega
    · rw [dec_big h, List.all_append, ih (v / 10) (by omega)]
      simp [isDig]; omega
theorem dec_head : ∀ v, 0 < v → (decDigits v).head? ≠ some 48 := by
  intro v
  induction v using Nat.strongRecOn with
  | _ v ih =>
    intro h0
    by_cases h : v < 10
    · rw [dec_small h]
      intro e
      injection e with e
      have : (UInt8.ofNat (48 + v)).toNat = 48 + v := by simp; omega
      rw [e] at this
      have h48 : (48 : UInt8).toNat = 48 := rfl
      omega
    · rw [dec_big h, List.head?_append]
      have h1 := ih (v / 10) (by omega) (by omega)
      have h2 := dec_pos (v / 10)
      cases hd : decDigits (v / 10) with
      | nil => rw [hd] at h2; simp at h2
      | cons c t => rw [hd] at h1; simpa using h1
theorem dec_ok (v : Nat) : decOk (decDigits v) = true := by
  unfold decOk
  rw [dec_all, Bool.and_true, Bool.and_eq_true]
  refine ⟨by have := dec_pos v; simp; intro e; rw [e] at this; simp at this, ?_⟩
  rcases Nat.eq_zero_or_pos v with rfl | h
  · rw [dec_small (by omega)]; rfl
  · have := dec_head v h
    simp [this]
theorem dig_ne (c : UInt8) (h : isDig c = true) : c ≠ 112 ∧ c ≠ 45 := by
  simp [isDig] at h
  constructor
  · rintro rfl
    have : (112 : UInt8).toNat = 112 := rfl
    omega
  · rintro rfl
    have : (45 : UInt8).toNat = 45 := rfl
    omega
theorem dec_no {v : Nat} : (∀ c ∈ decDigits v, c ≠ 112) ∧ ∀ s, (decDigits v ++ s).head? ≠ some 45 := by
  have h := List.all_eq_true.1 (dec_all v)
  refine ⟨fun c hc => (dig_ne c (h c hc)).1, fun s e => ?_⟩
  have h2 := dec_pos v
  cases hd : decDigits v with
  | nil => rw [hd] at h2; simp at h2
  | cons c t =>
    rw [hd] at e h
    simp at e
    exact (dig_ne c (h c (by simp))).2 e

/-- The parts of a number's text. -/
theorem text_parts {d : Dy} (hl : d.l ≠ []) : Parts (textD d) d.neg (decDigits (val d.l)) (decide (d.e < 0)) (decDigits d.e.natAbs) := by
  refine ⟨?_, dec_no.1, fun _ => dec_no.2 _, fun _ => by have := (dec_no (v := d.e.natAbs)).2 []; simpa using this⟩
  unfold textD
  rw [if_neg hl]
  congr 1
  unfold itoa
  by_cases h : d.e < 0
  · simp [h]
  · have : d.e.toNat = d.e.natAbs := by omega
    simp [h, this]
theorem text_ok {d : Dy} (hL : Limbs d.l) (hv : vld d = true) (hl : d.l ≠ []) : partsD d.neg (decDigits (val d.l)) (decide (d.e < 0)) (decDigits d.e.natAbs) = (d, 0) := by
  have hb := vld_bounds hv hl
  have hx := vld_exp hv
  unfold partsD
  rw [if_pos]
  · rw [numL_dec]
    unfold expo
    rw [numL_dec]
    have : (if decide (d.e < 0) = true then -(d.e.natAbs : Int) else (d.e.natAbs : Int)) = d.e := by
      by_cases h : d.e < 0
      · rw [if_pos (by simpa using h)]; omega
      · rw [if_neg (by simpa using h)]; omega
    rw [this]
    exact check_valid hL hv
  · unfold partsOk
    rw [dec_ok, dec_ok, numL_dec, hb.2.2.1, decide_eq_true (show (decDigits d.e.natAbs).length ≤ 6 from Nat.le_trans (dec_len (k := 4) (by omega)) (by omega))]
    have : (decide (d.e < 0) && decide (decDigits d.e.natAbs = [48])) = false := by
      by_cases h : d.e < 0
      · have h2 := dec_head d.e.natAbs (by omega)
        have : ¬ decDigits d.e.natAbs = [48] := by intro e; rw [e] at h2; simp at h2
        simp [this]
      · simp [h]
    rw [this]
    rfl
theorem dec_len_two {v E k : Nat} (h : blen v ≤ E) (hp : 2 ^ E ≤ 10 ^ (k + 1)) : (decDigits v).length ≤ k + 1 :=
  dec_len (Nat.lt_of_lt_of_le (lt_blen v) (Nat.le_trans (Nat.pow_le_pow_right (by omega) h) hp))
theorem text_len {d : Dy} (hv : vld d = true) : (textD d).length ≤ 1250 := by
  by_cases hl : d.l = []
  · unfold textD; rw [if_pos hl]; simp
  · have hb := vld_bounds hv hl
    have hx := vld_exp hv
    have h1 := itoa_len hx.1 hx.2
    have h2 := dec_len_two (E := 4096) (k := 1233) hb.2.2.2.1 (by decide +kernel)
    unfold textD
    rw [if_neg hl]
    simp only [List.length_append, List.length_singleton]
    have : (if d.neg = true then [(45 : UInt8)] else []).length ≤ 1 := by split <;> simp
    omega

end Go.Proofs.YtekajoifgdpmlaaGreatDoor
