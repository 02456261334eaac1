/- Bundle 3: what the laws' walks stand on: T1, A2, Math2, A3, A4, Math3. -/
import Derived.Lib.Builder
import Derived.Lib.AppendStr
import Derived.Lib.UnsafeStr
import Derived.Laws.Externs
import Derived.Deep.QuietTactic
import Derived.BigQuiet
import Derived.RegionTactic
import Derived.Test.YtekajoifgdpmlaaGreatDoorZ1
import Derived.Test.YtekajoifgdpmlaaGreatDoorZ2
/-! T1 -/
namespace Go.Proofs.YtekajoifgdpmlaaGreatDoor
open Go.RowKit Go.Shelf

theorem sizeBuilder : (Tryz.prog.info? 82).map (fun i => i.size) = some 2 := by kernel_rfl
theorem liesBuilder : liesAt Tryz.prog Tryz.prog.depth 82 (2 / Tryz.prog.cellsOf 82) 0 82 1 = true := by kernel_rfl
theorem infoByte : (Tryz.prog.info? 5).map (fun i => (i.zero, i.size, i.bytes)) = some (some (.int .u8 0), 1, 1) := by kernel_rfl

set_option maxHeartbeats 1000000 in
set_option maxRecDepth 100000 in
theorem copyCheck_used (b : Nat) (w : World) (h0 : w.cell? ⟨b, 0, none⟩ = some (.pointer (some ⟨b, 0, none⟩))) :
    Calls Tryz.prog 118 #[.pointer (some ⟨b, 0, none⟩)] w fun e w' => e = .returned (.tuple #[]) ∧ w' = w := by
  obtain ⟨j, hj, _⟩ := Option.map_eq_some_iff.1 sizeBuilder
  go_enter Tryz.func118, Tryz.ntmps118
  go_wp2
  rw [Lib.run_neq_ptr_same w _ Tryz.underlying80 hj]
  go_wp2
  go_end0
  exact ⟨rfl, rfl⟩

set_option maxHeartbeats 1000000 in
set_option maxRecDepth 100000 in
theorem copyCheck_fresh (b : Nat) (w : World) (h0 : w.cell? ⟨b, 0, none⟩ = some (.pointer none)) (hsh : w.shape? b = some (82, 2)) (hfz : w.frozen? ⟨b, 0, none⟩ = false) :
    Calls Tryz.prog 118 #[.pointer (some ⟨b, 0, none⟩)] w fun e w' => e = .returned (.tuple #[]) ∧ w' = w.setCell ⟨b, 0, none⟩ (.pointer (some ⟨b, 0, none⟩)) := by
  obtain ⟨j, hj, hjs⟩ := Option.map_eq_some_iff.1 sizeBuilder
  go_enter Tryz.func118, Tryz.ntmps118
  go_wp2
  rw [Lib.run_to_unsafe w ⟨b, 0, none⟩ Tryz.underlying80 Tryz.underlying181 hj (by rw [hjs]; decide) hsh (Nat.zero_lt_succ 1)]
  simp only [Result.andThen]
  rw [Oper.upon_value]
  go_wp2
  rw [run_callFunc_extern Tryz.func177 (by kernel_rfl) (by kernel_rfl) (by kernel_rfl) (e := Extern.AbiNoEscape.same) (by kernel_rfl)]
  rw [Lib.run_noEscape]
  simp only [Result.andThen]
  rw [Oper.upon_value]
  go_wp2
  rw [Lib.run_from_unsafe w ⟨b, 0, none⟩ Tryz.underlying181 Tryz.underlying80 hj hsh liesBuilder]
  simp only [Result.andThen]
  rw [Oper.upon_value]
  go_wp2
  go_end0
  exact ⟨rfl, rfl⟩

theorem copyCheck_any (B b : Nat) (bs : List Value) (w : World) (h : Lib.IsBuilder 82 5 B b bs w) :
    Calls Tryz.prog 118 #[.pointer (some ⟨b, 0, none⟩)] w fun e w' => e = .returned (.tuple #[]) ∧ (Lib.BuilderAt 82 5 B b (.pointer (some ⟨b, 0, none⟩)) bs w' ∧ Below B w w') := by
  rcases h with h | h
  · refine (copyCheck_fresh b w h.cell0 h.shape h.frozen0).mono ?_
    rintro e w' ⟨rfl, rfl⟩
    exact ⟨rfl, h.used _, (Below.refl B w).setCell (p := ⟨b, 0, none⟩) h.1 _⟩
  · refine (copyCheck_used b w h.cell0).mono ?_
    rintro e w' ⟨rfl, rfl⟩
    exact ⟨rfl, h, Below.refl B _⟩

set_option maxHeartbeats 2000000 in
set_option maxRecDepth 100000 in
theorem writeByte_any (B b : Nat) (bs : List Value) (c : Int) (w : World) (h : Lib.IsBuilder 82 5 B b bs w) (hlen : bs.length + 1 ≤ 140737488355328) (hBw : B ≤ w.heap.size) :
    Calls Tryz.prog 44 #[.pointer (some ⟨b, 0, none⟩), .int .u8 c] w fun e w' => e = .returned .nilIface ∧ (Lib.BuilderAt 82 5 B b (.pointer (some ⟨b, 0, none⟩)) (bs ++ [.int .u8 c]) w' ∧ Below B w w') := by
  obtain ⟨i0, hi, hz0, hz1, hz2⟩ := info_parts infoByte
  go_enter Tryz.func44, Tryz.ntmps44
  go_wp2_with fail
  refine (copyCheck_any B b bs _ h).mono ?_
  rintro e w1 ⟨rfl, h1, hb1⟩
  obtain ⟨hB, v, hbk, hown, hne⟩ := h1
  have c0 : w1.cell? ⟨b, 0, none⟩ = some (.pointer (some ⟨b, 0, none⟩)) := by rw [Lib.cell_of_heap hbk]; rfl
  have c1 : w1.cell? ⟨b, 1, none⟩ = some v := by rw [Lib.cell_of_heap hbk]; rfl
  go_wp2_with (at_builtin; refine wpList_append_own _ rfl _ _ 52 rfl B 5 i0 (.int .u8 0) 1 1 Tryz.underlying52 hi hz0 hz1 hz2 rfl (by decide) _ _ _ rfl (hown.alloc _) ⟨w1.heap.size, 0, none⟩ 1 1 [.int .u8 c] rfl rfl ?c1 ?c2 ?c3 ?c4 ?c5 ?_)
  case c1 =>
    intro j u hj
    match j, hj with
    | 0, hj => simp at hj; subst hj; simp [Addr.add]
  case c2 => intro u hu; simp at hu; subst hu; rfl
  case c3 => unfold maxLen; omega
  case c4 => omega
  case c5 => have := hb1.size; simp; omega
  intro v' w2 hown' hgrow _
  have hlt : b < w1.heap.size := by
    rcases Nat.lt_or_ge b w1.heap.size with h' | h'
    · exact h'
    · simp [Array.getElem?_eq_none h'] at hbk
  have hb2 : w2.heap[b]? = some (.cells #[.pointer (some ⟨b, 0, none⟩), v] 82 (0, 0)) := by
    rw [hgrow.block b (by simp; omega) (fun e => hne e.symm), Below.heap_alloc w1 _ b hlt]
    exact hbk
  have d0 : w2.cell? ⟨b, 0, none⟩ = some (.pointer (some ⟨b, 0, none⟩)) := by rw [Lib.cell_of_heap hb2]; rfl
  have d1 : w2.cell? ⟨b, 1, none⟩ = some v := by rw [Lib.cell_of_heap hb2]; rfl
  have f1 : w2.frozen? ⟨b, 1, none⟩ = false := Lib.frozen_of_heap hb2 1
  obtain ⟨g, cap, rfl⟩ : ∃ g cap, v' = .slice (some ⟨g, 0, none⟩) (bs.length + 1) cap := by
    rcases hown'.2 with ⟨_, h0⟩ | ⟨g, cap, cur, hv, _⟩
    · omega
    · exact ⟨g, cap, hv⟩
  go_wp2
  go_ret
  refine ⟨rfl, ?_, ?_⟩
  · exact Lib.BuilderAt.put (T := 82) (e := 5) hB hb2 (bs' := bs ++ [.int .u8 c]) (by simpa using hown') (by decide)
  · exact ((hb1.alloc (by have := hb1.size; omega) _).grown hgrow (by have := hb1.size; simp; omega) (fun k hk => (hown.lt k hk).1)).setCell (p := ⟨b, 1, none⟩) hB _

set_option maxHeartbeats 2000000 in
set_option maxRecDepth 100000 in
theorem writeString_any (B b : Nat) (bs : List Value) (s : ByteArray) (w : World) (h : Lib.IsBuilder 82 5 B b bs w) (hlen : bs.length + s.size ≤ 140737488355328) (hBw : B ≤ w.heap.size) :
    Calls Tryz.prog 45 #[.pointer (some ⟨b, 0, none⟩), .string s] w fun e w' => e = .returned (.tuple #[.int .i64 s.size, .nilIface]) ∧ (Lib.BuilderAt 82 5 B b (.pointer (some ⟨b, 0, none⟩)) (bs ++ Lib.strCells s) w' ∧ Below B w w') := by
  obtain ⟨i0, hi, hz0, hz1, hz2⟩ := info_parts infoByte
  go_enter Tryz.func45, Tryz.ntmps45
  go_wp2_with fail
  refine (copyCheck_any B b bs _ h).mono ?_
  rintro e w1 ⟨rfl, h1, hb1⟩
  obtain ⟨hB, v, hbk, hown, hne⟩ := h1
  have c0 : w1.cell? ⟨b, 0, none⟩ = some (.pointer (some ⟨b, 0, none⟩)) := by rw [Lib.cell_of_heap hbk]; rfl
  have c1 : w1.cell? ⟨b, 1, none⟩ = some v := by rw [Lib.cell_of_heap hbk]; rfl
  go_wp2_with (at_builtin; refine Lib.wpList_append_own_string _ rfl _ _ 52 9 rfl B 5 i0 Tryz.underlying52 Tryz.underlying9 hi hz0 hz1 hz2 _ _ _ rfl hown s rfl ?c3 ?c4 ?c5 ?_)
  case c3 => unfold maxLen; omega
  case c4 => omega
  case c5 => have := hb1.size; omega
  intro v' w2 hown' hgrow _
  have hlt : b < w1.heap.size := by
    rcases Nat.lt_or_ge b w1.heap.size with h' | h'
    · exact h'
    · simp [Array.getElem?_eq_none h'] at hbk
  have hb2 : w2.heap[b]? = some (.cells #[.pointer (some ⟨b, 0, none⟩), v] 82 (0, 0)) := by
    rw [hgrow.block b hlt (fun e => hne e.symm)]
    exact hbk
  have d0 : w2.cell? ⟨b, 0, none⟩ = some (.pointer (some ⟨b, 0, none⟩)) := by rw [Lib.cell_of_heap hb2]; rfl
  have d1 : w2.cell? ⟨b, 1, none⟩ = some v := by rw [Lib.cell_of_heap hb2]; rfl
  have f1 : w2.frozen? ⟨b, 1, none⟩ = false := Lib.frozen_of_heap hb2 1
  obtain ⟨ao, n', cap, rfl⟩ : ∃ ao n' cap, v' = .slice ao n' cap := by
    rcases hown'.2 with ⟨hv, _⟩ | ⟨g, cap, cur, hv, _⟩
    · exact ⟨_, _, _, hv⟩
    · exact ⟨_, _, _, hv⟩
  go_wp2
  go_ret2
  refine ⟨rfl, ?_, ?_⟩
  · exact Lib.BuilderAt.put (T := 82) (e := 5) hB hb2 (bs' := bs ++ Lib.strCells s) (by simpa [Lib.strCells_length] using hown') (by decide)
  · exact ((hb1).grown hgrow (by have := hb1.size; omega) (fun k hk => (hown.lt k hk).1)).setCell (p := ⟨b, 1, none⟩) hB _

end Go.Proofs.YtekajoifgdpmlaaGreatDoor

/-! A2 -/
namespace Go.Proofs.YtekajoifgdpmlaaGreatDoor
open Go.RowKit Pl

theorem u32_info : (Tryz.prog.info? 60).map (fun i => (i.zero, i.size, i.bytes)) = some (some (.int .u32 0), 1, 4) := by kernel_rfl

/-- A slice of limbs that the call made. -/
def RetS (l : List Nat) (w : World) (e : Ending) (w' : World) : Prop := ∃ A n c, e = .returned (.slice A n c) ∧ SL w' A n c l ∧ Fresh w.heap.size A n ∧ Below w.heap.size w w'

set_option maxHeartbeats 400000 in
theorem clone_any (A : Option Addr) (n c : Nat) (l : List Nat) (w : World) (h : SL w A n c l) (hn : n ≤ 1099511627776) :
    Calls Tryz.prog 111 #[.slice A n c] w (RetS l w) := by
  rcases A with _ | ad
  · have h0 : n = 0 := by
      rcases Nat.eq_zero_or_pos n with h0 | h0
      · exact h0
      · obtain ⟨_, _, h, _⟩ := h.at_ h0
        cases h
    have hl := h.empty h0
    subst h0
    subst hl
    have hnil := Lib.run_eql_slice_nil (P := Tryz.prog) w 23 60 none 0 c 0 0 Tryz.underlying23
    go_enter Tryz.func111, Tryz.ntmps111
    go_wp2
    go_ret
    exact ⟨_, _, _, rfl, SL.nil _, Fresh.zero, Below.refl _ _⟩
  · have hnil := Lib.run_eql_slice_nil (P := Tryz.prog) w 23 60 (some ad) n c 0 0 Tryz.underlying23
    have hw := (h.alloc (.cells #[] 60))
    go_enter Tryz.func111, Tryz.ntmps111
    go_wp2_with (at_builtin; refine wpList_app rfl (.tmp 5) (.tmp 6) _ rfl 60 u32_info Tryz.underlying23 w.heap.size _ [] rfl (Own.row (Blk.new _ _ _) (Nat.le_refl _) (by simp)) _ n c l rfl hw (by simpa using hn) (by simp) ?_; intro v1 w1 hown1 hb1)
    go_ret
    rw [List.nil_append] at hown1
    obtain ⟨A1, c1, rfl, hs1, hf1⟩ := hown1.sl h.lt
    exact ⟨A1, l.length, c1, rfl, hs1, hf1, ((Below.refl _ _).alloc (Nat.le_refl _) _).trans hb1⟩

theorem drop_step {l m : List Nat} {k x : Nat} (h : l.drop (k + 1) = m.drop (k + 1)) (hx : l[k]? = some x) (hy : m[k]? = some x) : l.drop k = m.drop k := by
  have h1 : k < l.length := by
    rcases Nat.lt_or_ge k l.length with h' | h'
    · exact h'
    · rw [List.getElem?_eq_none h'] at hx; cases hx
  have h2 : k < m.length := by
    rcases Nat.lt_or_ge k m.length with h' | h'
    · exact h'
    · rw [List.getElem?_eq_none h'] at hy; cases hy
  rw [List.drop_eq_getElem_cons h1, List.drop_eq_getElem_cons h2, h]
  rw [List.getElem?_eq_getElem h1] at hx
  rw [List.getElem?_eq_getElem h2] at hy
  injection hx with hx
  injection hy with hy
  rw [hx, hy]

theorem valDigs_lt {l l' : List Nat} {k t x y : Nat} (hk : (digs (val l)).length = k) (hk' : (digs (val l')).length = k) (hd : (digs (val l)).drop (t + 1) = (digs (val l')).drop (t + 1))
    (hx : (digs (val l))[t]? = some x) (hy : (digs (val l'))[t]? = some y) (hxy : x < y) : val l < val l' := by
  have := val_lt_of_top (limbs_digs _) (by rw [hk, hk']) hd hx hy hxy
  rwa [val_digs, val_digs] at this

set_option maxHeartbeats 1000000 in
theorem ncmp_any (A B : Option Addr) (n c m d : Nat) (l l' : List Nat) (w : World) (h : SL w A n c l) (h' : SL w B m d l') :
    Calls Tryz.prog 159 #[.slice A n c, .slice B m d] w fun e w' => e = .returned (.int .i64 (cmpN (val l) (val l'))) ∧ ∃ q, w' = w.drewN q := by
  have hT := h.trim
  have hT' := h'.trim
  have hcap := hT.cap
  have hcap' := hT'.cap
  have hmax := hT.max
  have hmax' := hT'.max
  generalize hk : (digs (val l)).length = k at *
  generalize hk' : (digs (val l')).length = k' at *
  have HK := Lib.hid hk
  have HK' := Lib.hid hk'
  clear hk hk'
  go_enter Tryz.func159, Tryz.ntmps159
  go_wp2_with fail
  refine (trim_any A n c l _ h).mono ?_
  rintro e w' ⟨rfl, rfl⟩
  rw [HK.out]
  go_wp2_with fail
  refine (trim_any B m d l' _ h').mono ?_
  rintro e w' ⟨rfl, rfl⟩
  rw [HK'.out]
  by_cases hlt : k < k'
  · have hne : ((k : Int) == (k' : Int)) = false := by simp; omega
    have hne' : ((k : Int) != (k' : Int)) = true := by simp; omega
    go_wp2_with fail
    go_ret
    exact ⟨by rw [cmpN_lt (lt_of_digs_len (by rw [HK.out, HK'.out]; exact hlt))]; rfl, 0, rfl⟩
  by_cases hgt : k' < k
  · have hne : ((k : Int) == (k' : Int)) = false := by simp; omega
    have hne' : ((k : Int) != (k' : Int)) = true := by simp; omega
    go_wp2_with fail
    go_ret
    exact ⟨by rw [cmpN_gt (lt_of_digs_len (by rw [HK.out, HK'.out]; exact hgt))]; rfl, 0, rfl⟩
  obtain rfl : k = k' := by omega
  go_wp2_with fail
  go_loopw [5] (fun i wr => ∃ j : Nat, j ≤ k ∧ i = .int .i64 ((j : Int) - 1) ∧ (∃ q, wr = w.drewN q) ∧ Hid ((digs (val l)).drop j = (digs (val l')).drop j)) (fun i _ => (intOf i + 1).toNat)
  case atStart => exact ⟨k, Nat.le_refl _, rfl, ⟨0, rfl⟩, by rw [Hid, List.drop_of_length_le (by rw [HK.out]; omega), List.drop_of_length_le (by rw [HK'.out]; omega)]⟩
  case round =>
    obtain ⟨j, hj, rfl, ⟨q, rfl⟩, HD⟩ := hrel
    by_cases h0 : j = 0
    · subst h0
      go_wp2_with fail
      go_ret
      exact ⟨by rw [cmpN_eq (digs_inj (by simpa using HD.out))]; rfl, q, rfl⟩
    · obtain ⟨t, rfl⟩ : ∃ t, j = t + 1 := ⟨j - 1, by omega⟩
      rw [show ((t + 1 : Nat) : Int) - 1 = (t : Int) from by omega]
      obtain ⟨b, off, x, rfl, hb, hx, hcell, hxlt⟩ := hT.get (k := t) (by omega)
      obtain ⟨b', off', y, rfl, hb', hy, hcell', hylt⟩ := hT'.get (k := t) (by omega)
      have HX := Lib.hid hx
      have HY := Lib.hid hy
      clear hx hy
      have ht : t < k := by omega
      by_cases hxy : x < y
      · go_wp2_with fail
        go_quiet (fail)
        go_wp2_with fail
        go_ret
        exact ⟨by rw [cmpN_lt (valDigs_lt HK.out HK'.out HD.out HX.out HY.out hxy)]; rfl, _, by rw [World.drewN_drewN]⟩
      by_cases hyx : y < x
      · go_wp2_with fail
        go_quiet (fail)
        go_wp2_with fail
        go_quiet (fail)
        go_wp2_with fail
        go_ret
        exact ⟨by rw [cmpN_gt (valDigs_lt HK'.out HK.out HD.out.symm HY.out HX.out hyx)]; rfl, _, by rw [World.drewN_drewN, World.drewN_drewN]⟩
      · obtain rfl : x = y := by omega
        go_wp2_with fail
        go_quiet (fail)
        go_wp2_with fail
        go_quiet (fail)
        go_wp2_with fail
        go_roundw
        case rel => exact ⟨t, by omega, rfl, ⟨_, by first | rfl | rw [World.drewN_drewN, World.drewN_drewN]⟩, drop_step HD.out HX.out HY.out⟩
        case measure => simp [intOf]

end Go.Proofs.YtekajoifgdpmlaaGreatDoor

/-! Math2 -/
namespace Go.Proofs.YtekajoifgdpmlaaGreatDoor.Pl

/-- Digit i of a number. -/
def dig (v i : Nat) : Nat := v / 4294967296 ^ i % 4294967296
/-- The lowest n digits of a number. -/
def digN (n v : Nat) : List Nat := (List.range n).map (dig v)

theorem pow_pos' (i : Nat) : 0 < 4294967296 ^ i := Nat.pow_pos (by omega)
theorem digN_length (n v : Nat) : (digN n v).length = n := by simp [digN]
theorem dig_lt (v i : Nat) : dig v i < 4294967296 := Nat.mod_lt _ (by omega)
theorem limbs_digN (n v : Nat) : Limbs (digN n v) := by
  intro x hx
  obtain ⟨i, _, rfl⟩ := List.mem_map.1 hx
  exact dig_lt v i
theorem digN_succ (n v : Nat) : digN (n + 1) v = digN n v ++ [dig v n] := by simp [digN, List.range_succ]
theorem val_digN (n v : Nat) : val (digN n v) = v % 4294967296 ^ n := by
  induction n with
  | zero => simp [digN, val, Nat.mod_one]
  | succ n ih =>
    rw [digN_succ, val_snoc, ih, digN_length, dig, Nat.pow_succ, Nat.mod_mul]
theorem val_digN_of_lt {n v : Nat} (h : v < 4294967296 ^ n) : val (digN n v) = v := by rw [val_digN, Nat.mod_eq_of_lt h]
theorem val_replicate (n : Nat) : val (List.replicate n 0) = 0 := val_zero_of (fun _ hx => List.eq_of_mem_replicate hx)
theorem limbs_replicate (n : Nat) : Limbs (List.replicate n 0) := fun x hx => by rw [List.eq_of_mem_replicate hx]; omega

/-- A row that is filled from its bottom on. -/
def fillN (n v i : Nat) : List Nat := digN i v ++ List.replicate (n - i) 0
theorem fillN_zero (n v : Nat) : fillN n v 0 = List.replicate n 0 := by simp [fillN, digN]
theorem fillN_all (n v : Nat) : fillN n v n = digN n v := by simp [fillN]
theorem fillN_step {n v i : Nat} (h : i < n) : (fillN n v i).set i (dig v i) = fillN n v (i + 1) := by
  unfold fillN
  rw [List.set_append_right _ _ (by rw [digN_length]; omega), digN_length, Nat.sub_self, digN_succ, List.append_assoc]
  congr 1
  obtain ⟨k, hk⟩ : ∃ k, n - i = k + 1 := ⟨n - i - 1, by omega⟩
  rw [hk, show n - (i + 1) = k from by omega, List.replicate_succ]
  rfl
theorem fillN_get {n v i : Nat} (h : i < n) : (fillN n v i)[i]? = some 0 := by
  unfold fillN
  rw [List.getElem?_append_right (by rw [digN_length]; omega), digN_length, Nat.sub_self]
  obtain ⟨k, hk⟩ : ∃ k, n - i = k + 1 := ⟨n - i - 1, by omega⟩
  rw [hk, List.replicate_succ]; rfl

theorem val_drop (l : List Nat) (h : Limbs l) (k : Nat) (hk : k ≤ l.length) : val (l.drop k) = val l / 4294967296 ^ k := by
  have e := val_take_drop l k
  have hlt := val_lt (l.take k) (h.take k)
  rw [List.length_take, Nat.min_eq_left hk] at e hlt
  rw [e, Nat.add_mul_div_left _ _ (pow_pos' k), Nat.div_eq_of_lt hlt, Nat.zero_add]
theorem val_drop_cons (l : List Nat) (i x : Nat) (hx : l[i]? = some x) : val (l.drop i) = x + 4294967296 * val (l.drop (i + 1)) := by
  have hi : i < l.length := by
    rcases Nat.lt_or_ge i l.length with h' | h'
    · exact h'
    · rw [List.getElem?_eq_none h'] at hx; cases hx
  rw [List.drop_eq_getElem_cons hi, val]
  rw [List.getElem?_eq_getElem hi] at hx
  injection hx with hx
  rw [hx]
/-! Trailing zeros -/
def tzF : Nat → Nat → Nat
  | 0, _ => 0
  | f + 1, n => if n % 2 = 1 then 0 else 1 + tzF f (n / 2)
/-- The number of the zero bits at the bottom. -/
def tz (n : Nat) : Nat := tzF n n
theorem tzF_spec (f n : Nat) (h0 : 0 < n) (hf : n ≤ f) : ∃ m, n = 2 ^ tzF f n * (2 * m + 1) := by
  induction f generalizing n with
  | zero => omega
  | succ f ih =>
    unfold tzF
    split
    · exact ⟨n / 2, by omega⟩
    · obtain ⟨m, hm⟩ := ih (n / 2) (by omega) (by omega)
      refine ⟨m, ?_⟩
      rw [Nat.add_comm 1, Nat.pow_succ, Nat.mul_assoc, Nat.mul_comm 2, ← Nat.mul_assoc, ← hm]
      omega
theorem tz_spec (n : Nat) (h0 : 0 < n) : ∃ m, n = 2 ^ tz n * (2 * m + 1) := tzF_spec n n h0 (Nat.le_refl _)
theorem odd_pow_unique {a b m k : Nat} (h : 2 ^ a * (2 * m + 1) = 2 ^ b * (2 * k + 1)) : a = b := by
  induction a generalizing b with
  | zero =>
    cases b with
    | zero => rfl
    | succ b => rw [Nat.pow_succ, Nat.mul_comm (2 ^ b), Nat.mul_assoc] at h; omega
  | succ a ih =>
    cases b with
    | zero => rw [Nat.pow_succ, Nat.mul_comm (2 ^ a), Nat.mul_assoc] at h; omega
    | succ b =>
      rw [Nat.pow_succ, Nat.mul_comm (2 ^ a), Nat.mul_assoc, Nat.pow_succ, Nat.mul_comm (2 ^ b), Nat.mul_assoc] at h
      rw [ih (Nat.eq_of_mul_eq_mul_left (by omega : 0 < 2) h)]
theorem tz_eq {n a m : Nat} (h : n = 2 ^ a * (2 * m + 1)) : tz n = a := by
  have h0 : 0 < n := by rw [h]; exact Nat.mul_pos (Nat.two_pow_pos a) (by omega)
  obtain ⟨k, hk⟩ := tz_spec n h0
  exact odd_pow_unique (hk.symm.trans h)
theorem tz_odd {n : Nat} (h : n % 2 = 1) : tz n = 0 := tz_eq (m := n / 2) (by omega)
/-- The odd part. -/
def oddp (n : Nat) : Nat := n / 2 ^ tz n
theorem oddp_spec (n : Nat) (h0 : 0 < n) : n = oddp n * 2 ^ tz n ∧ oddp n % 2 = 1 := by
  obtain ⟨m, hm⟩ := tz_spec n h0
  have : oddp n = 2 * m + 1 := by
    unfold oddp
    conv => lhs; lhs; rw [hm]
    exact Nat.mul_div_cancel_left _ (Nat.two_pow_pos _)
  rw [this]
  exact ⟨by rw [Nat.mul_comm]; exact hm, by omega⟩
theorem tz_lt_blen (n : Nat) (h : 0 < n) : tz n < blen n := by
  have e := (oddp_spec n h).1
  have ho := (oddp_spec n h).2
  exact lt_blen_of n (tz n) (by
    have : 1 * 2 ^ tz n ≤ oddp n * 2 ^ tz n := Nat.mul_le_mul_right _ (by omega)
    omega)
/-- What a search for the lowest limb that is not 0 finds. -/
theorem tz_low (l : List Nat) (i x c m : Nat) (hz : ∀ j, j < i → l[j]? = some 0) (hx : l[i]? = some x) (hc : c < 32) (hm : x = 2 ^ c * (2 * m + 1)) : tz (val l) = 32 * i + c := by
  have hi : i < l.length := by
    rcases Nat.lt_or_ge i l.length with h' | h'
    · exact h'
    · rw [List.getElem?_eq_none h'] at hx; cases hx
  have h0 : val (l.take i) = 0 := val_zero_of (by
    intro y hy
    obtain ⟨j, hj, rfl⟩ := List.mem_iff_getElem.1 hy
    rw [List.length_take] at hj
    have := hz j (by omega)
    rw [List.getElem?_eq_getElem (by omega)] at this
    rw [List.getElem_take]
    injection this)
  have e := val_take_drop l i
  rw [h0, Nat.zero_add, List.length_take, Nat.min_eq_left (by omega), val_drop_cons l i x hx, base_pow] at e
  obtain ⟨r, hr⟩ : ∃ r, 32 = c + (r + 1) := ⟨31 - c, by omega⟩
  have hB : 4294967296 = 2 ^ c * (2 * 2 ^ r) := by
    rw [show (4294967296 : Nat) = 2 ^ 32 from rfl, hr, Nat.pow_add, Nat.pow_succ, Nat.mul_comm (2 ^ r)]
  refine tz_eq (m := m + 2 ^ r * val (l.drop (i + 1))) ?_
  rw [e, Nat.pow_add, Nat.mul_assoc]
  congr 1
  rw [hm]
  conv => lhs; rw [hB]
  rw [Nat.mul_assoc (2 ^ c), ← Nat.mul_add]
  congr 1
  rw [Nat.mul_add, Nat.mul_assoc]
  omega

/-! Shifts to the right -/
theorem mod_shift (x V p q : Nat) (hp : 0 < p) (hpq : p * q = 4294967296) : (x + 4294967296 * V) / p % 4294967296 = (x + 4294967296 * (V % 4294967296)) / p % 4294967296 := by
  have hV : 4294967296 * V = 4294967296 * (V % 4294967296) + p * (q * 4294967296 * (V / 4294967296)) := by
    have : 4294967296 * (V / 4294967296) + V % 4294967296 = V := Nat.div_add_mod V 4294967296
    rw [← Nat.mul_assoc, ← Nat.mul_assoc, hpq, Nat.mul_assoc, ← Nat.mul_add]
    congr 1; omega
  rw [hV, ← Nat.add_assoc, Nat.add_mul_div_left _ _ hp, Nat.mul_comm q, Nat.mul_assoc, Nat.add_mul_mod_self_left]
theorem dig_shr (d : List Nat) (h : Limbs d) (r i x y : Nat) (hr : r < 32) (hx : d[i]? = some x) (hy : (d[i + 1]?).getD 0 = y) :
    dig (val d / 2 ^ r) i = (x + 4294967296 * y) / 2 ^ r % 4294967296 := by
  have hi : i < d.length := by
    rcases Nat.lt_or_ge i d.length with h' | h'
    · exact h'
    · rw [List.getElem?_eq_none h'] at hx; cases hx
  have hpq : 2 ^ r * 2 ^ (32 - r) = 4294967296 := by rw [← Nat.pow_add, show r + (32 - r) = 32 from by omega]
  rw [dig, Nat.div_div_eq_div_mul, Nat.mul_comm, ← Nat.div_div_eq_div_mul, ← val_drop d h i (by omega), val_drop_cons d i x hx, mod_shift x _ _ _ (Nat.two_pow_pos r) hpq]
  congr 4
  by_cases h1 : i + 1 < d.length
  · have hz : d[i + 1]? = some d[i + 1] := List.getElem?_eq_getElem h1
    rw [val_drop_cons d (i + 1) _ hz]
    have := h.get hz
    rw [hz] at hy
    simp at hy
    omega
  · rw [List.getElem?_eq_none (by omega)] at hy
    rw [List.drop_of_length_le (by omega)]
    simp [val] at hy ⊢
    omega

/-! Bits by their places -/
theorem bit_at (l : List Nat) (h : Limbs l) (k x : Nat) (hx : l[k / 32]? = some x) : x / 2 ^ (k % 32) % 2 = val l / 2 ^ k % 2 := by
  have hi : k / 32 < l.length := by
    rcases Nat.lt_or_ge (k / 32) l.length with h' | h'
    · exact h'
    · rw [List.getElem?_eq_none h'] at hx; cases hx
  have e : val l / 2 ^ k = (x + 4294967296 * val (l.drop (k / 32 + 1))) / 2 ^ (k % 32) := by
    rw [← val_drop_cons l (k / 32) x hx, val_drop l h (k / 32) (by omega), Nat.div_div_eq_div_mul, base_pow, ← Nat.pow_add, show 32 * (k / 32) + k % 32 = k from by omega]
  rw [e]
  obtain ⟨r, hr⟩ : ∃ r, 32 = k % 32 + (r + 1) := ⟨31 - k % 32, by omega⟩
  have hB : 4294967296 = 2 ^ (k % 32) * (2 * 2 ^ r) := by
    rw [show (4294967296 : Nat) = 2 ^ 32 from rfl]
    conv => lhs; rw [hr]
    rw [Nat.pow_add, Nat.pow_succ, Nat.mul_comm (2 ^ r)]
  generalize val (l.drop (k / 32 + 1)) = V
  have e2 : 4294967296 * V = 2 ^ (k % 32) * (2 * (2 ^ r * V)) := by
    conv => lhs; rw [hB]
    rw [Nat.mul_assoc, Nat.mul_assoc]
  rw [e2, Nat.add_mul_div_left _ _ (Nat.two_pow_pos _)]
  omega
theorem bit_tz (v k : Nat) (hv : 0 < v) (hk : k ≤ tz v) : v / 2 ^ k % 2 = 1 ↔ k = tz v := by
  obtain ⟨e, ho⟩ := oddp_spec v hv
  have h1 : v / 2 ^ k = oddp v * 2 ^ (tz v - k) := by
    conv => lhs; rw [e]
    rw [show tz v = (tz v - k) + k from by omega, Nat.pow_add, ← Nat.mul_assoc, Nat.mul_div_cancel _ (Nat.two_pow_pos k)]
    rw [show tz v - k + k - k = tz v - k from by omega]
  rw [h1]
  constructor
  · intro h
    rcases Nat.eq_or_lt_of_le hk with h' | h'
    · exact h'
    · obtain ⟨t, ht⟩ : ∃ t, tz v - k = t + 1 := ⟨tz v - k - 1, by omega⟩
      rw [ht, Nat.pow_succ, ← Nat.mul_assoc] at h
      omega
  · intro h
    rw [h, Nat.sub_self, Nat.pow_zero, Nat.mul_one]
    exact ho
theorem tz_index (l : List Nat) (h : Limbs l) (hv : 0 < val l) : tz (val l) / 32 < l.length := by
  have h1 := tz_lt_blen (val l) hv
  have h2 := val_lt l h
  rw [base_pow] at h2
  have := blen_le_of _ _ h2
  omega
theorem blen_half (x : Nat) (h : 0 < x) : blen x = blen (x / 2) + 1 := by
  by_cases h1 : x = 1
  · subst h1; decide
  · have := blen_mul_pow (x / 2) 1 (by omega)
    have e1 := le_blen (x / 2) (by omega)
    have e2 := lt_blen (x / 2)
    have e3 := blen_pos (x / 2) (by omega)
    obtain ⟨b, hb⟩ : ∃ b, blen (x / 2) = b + 1 := ⟨blen (x / 2) - 1, by omega⟩
    rw [hb] at e1 e2 ⊢
    rw [Nat.add_sub_cancel] at e1
    exact blen_eq x (b + 1) (by rw [Nat.pow_succ]; omega) (by rw [Nat.pow_succ]; omega)

/-- How two lists of limbs compare: first by their lengths. -/
def cmpL (a b : List Nat) : Int := if a.length < b.length then -1 else if b.length < a.length then 1 else cmpN (val a) (val b)
theorem list_of_val {l m : List Nat} (hl : Limbs l) (hm : Limbs m) (hlen : l.length = m.length) (h : val l = val m) : l = m := by
  induction l generalizing m with
  | nil => cases m with
    | nil => rfl
    | cons y m => simp at hlen
  | cons x l ih =>
    cases m with
    | nil => simp at hlen
    | cons y m =>
      rw [val, val] at h
      have := hl.head
      have := hm.head
      rw [ih hl.tail hm.tail (by simpa using hlen) (by omega), show x = y from by omega]
theorem cmpL_trim {a b : List Nat} (ha : Limbs a) (hb : Limbs b) (ta : Trim a) (tb : Trim b) : cmpL a b = cmpN (val a) (val b) := by
  unfold cmpL
  have e1 := digs_val a ha ta
  have e2 := digs_val b hb tb
  split
  · rw [cmpN_lt (lt_of_digs_len (by rw [e1, e2]; assumption))]
  · split
    · rw [cmpN_gt (lt_of_digs_len (by rw [e1, e2]; assumption))]
    · rfl

end Go.Proofs.YtekajoifgdpmlaaGreatDoor.Pl

/-! A3 -/
namespace Go.Proofs.YtekajoifgdpmlaaGreatDoor
open Go.RowKit Pl Go.Shelf

/-- The tables of the library's that are read. -/
def Tabs (w : World) : Prop := TabAt 3 Lib.deBruijn32tab w

theorem tz32_any (x : Nat) (w : World) (hx : x < 4294967296) (h0 : x ≠ 0) (ht : Tabs w) :
    Calls Tryz.prog 169 #[.int .u32 (x : Int)] w fun e w' => e = .returned (.int .i64 (tz x)) ∧ w = w' := by
  refine (Tryz.bits_TrailingZeros32 x hx w (fun _ => ht)).mono ?_
  rintro e w' ⟨rfl, rfl⟩
  refine ⟨?_, rfl⟩
  obtain ⟨m, hm, _⟩ := Lib.ctzFrom_spec 32 x (by omega) (by omega)
  rw [tz_eq hm, Lib.ctz, if_neg h0]
theorem tz32_lt (x : Nat) (hx : x < 4294967296) (h0 : 0 < x) : tz x < 32 := Nat.lt_of_lt_of_le (tz_lt_blen x h0) (blen_le_of x 32 hx)

set_option maxHeartbeats 400000 in
theorem low_any (A : Option Addr) (n c : Nat) (l : List Nat) (w : World) (h : SL w A n c l) (hn : n ≤ 100000000) (h0 : 0 < val l) (ht : Tabs w) :
    Calls Tryz.prog 108 #[.slice A n c] w fun e w' => e = .returned (.int .i64 (tz (val l))) ∧ w = w' := by
  have hcap := h.cap
  have hlen := Lib.hid h.len
  have HT := Lib.hid ht
  clear ht
  go_enter Tryz.func108, Tryz.ntmps108
  go_wp2_with fail
  go_loop [3, 8] (fun s i => ∃ k : Nat, k ≤ n ∧ i = .int .i64 k ∧ s = .int .i64 (32 * k) ∧ Hid (∀ j, j < k → l[j]? = some 0)) (fun _ i => n - (intOf i).toNat)
  case atStart => exact ⟨0, Nat.zero_le _, rfl, rfl, fun j hj => absurd hj (by omega)⟩
  case round =>
    obtain ⟨k, hk, rfl, rfl, HZ⟩ := hrel
    by_cases hlt : k < n
    · obtain ⟨b, off, x, rfl, hb, hx, hcell, hxlt⟩ := h.get hlt
      have HX := Lib.hid hx
      clear hx
      by_cases hx0 : x = 0
      · subst hx0
        go_wp2_with fail
        go_round
        case rel => exact ⟨k + 1, by omega, by go_num, by go_num, fun j hj => by
          by_cases hjk : j < k
          · exact HZ.out j hjk
          · obtain rfl : j = k := by omega
            exact HX.out⟩
        case measure => simp [intOf]; omega
      · have hx1 : ((x : Int) != 0) = true := by simp; omega
        obtain ⟨m, hm⟩ := tz_spec x (by omega)
        have hc32 := tz32_lt x hxlt (by omega)
        have HF := Lib.hid (tz_low l k x _ m HZ.out HX.out hc32 hm)
        clear hm
        go_wp2_with (go_at_call 169; refine (tz32_any x _ hxlt hx0 HT.out).mono ?_; rintro e w' ⟨rfl, rfl⟩)
        go_ret
        exact ⟨by rw [HF.out]; go_num, rfl⟩
    · exfalso
      have : val l = 0 := val_zero_of (by
        intro y hy
        obtain ⟨j, hj, rfl⟩ := List.mem_iff_getElem.1 hy
        have := HZ.out j (by have := hlen.out; omega)
        rw [List.getElem?_eq_getElem hj] at this
        injection this)
      omega

/-- Limbs of a number, in memory that the call made. -/
def RetV (v b : Nat) (w : World) (e : Ending) (w' : World) : Prop := ∃ A n c l, e = .returned (.slice A n c) ∧ SL w' A n c l ∧ val l = v ∧ n ≤ b ∧ Fresh w.heap.size A n ∧ Below w.heap.size w w'

theorem or_nat64 (a b : Nat) (ha : a < 18446744073709551616) (hb : b < 18446744073709551616) : bits .or .u64 (a : Int) (b : Int) = ((a ||| b : Nat) : Int) := by
  have hx : a ||| b < 2 ^ 64 := Nat.or_lt_two_pow (by omega) (by omega)
  have e : ∀ c : Nat, c < 18446744073709551616 → (BitVec.ofInt 64 (c : Int)).toNat = c := fun c hc => by
    rw [BitVec.ofInt_natCast, BitVec.toNat_ofNat]; exact Nat.mod_eq_of_lt (by omega)
  show IntKind.u64.wrap ((BitVec.ofInt 64 (a : Int) ||| BitVec.ofInt 64 (b : Int)).toNat : Int) = _
  rw [BitVec.toNat_or, e a ha, e b hb]
  simp only [IntKind.wrap, IntKind.bits, IntKind.signed]
  simp
  omega
/-- '|' of a number below 2^r and a multiple of 2^r is their sum. -/
theorem or_low64 (a y r : Nat) (ha : a < 2 ^ r) (hr : 2 ^ r * (y + 1) ≤ 18446744073709551616) : bits .or .u64 ((y : Int) * 2 ^ r) (a : Int) = ((2 ^ r * y + a : Nat) : Int) ∧ bits .or .u64 (a : Int) ((y : Int) * 2 ^ r) = ((2 ^ r * y + a : Nat) : Int) := by
  have h1 : 2 ^ r * y + a < 18446744073709551616 := by rw [Nat.mul_add] at hr; omega
  have e : ((y : Int) * 2 ^ r) = ((2 ^ r * y : Nat) : Int) := by
    rw [Int.natCast_mul, Int.natCast_pow, Int.mul_comm]; rfl
  rw [e, or_nat64 _ _ (by omega) (by omega), or_nat64 _ _ (by omega) (by omega)]
  have h2 := Nat.two_pow_add_eq_or_of_lt ha y
  exact ⟨by rw [h2], by rw [h2, Nat.or_comm]⟩

theorem rows_step {w wr : World} {g : Nat} {t : TypeId} {n v i : Nat} (hr : Row wr g t (fillN n v i)) (hi : i < n) (hb : Below w.heap.size w wr) (hg : w.heap.size ≤ g) (z : Int) (hz : z = ((dig v i : Nat) : Int)) :
    Row (wr.setCell ⟨g, i, none⟩ (.int .u32 z)) g t (fillN n v (i + 1)) ∧ Below w.heap.size w (wr.setCell ⟨g, i, none⟩ (.int .u32 z)) := by
  subst hz
  refine ⟨?_, hb.setCell (p := ⟨g, i, none⟩) hg _⟩
  have := hr.set_ i (dig v i)
  rwa [fillN_step hi] at this

theorem shr_mid {dl : List Nat} (h : Limbs dl) {j x y k : Nat} (hx : dl[j]? = some x) (hy : dl[j + 1]? = some y) :
    bits .or .u64 (x : Int) ((y : Int) * 4294967296) / 2 ^ (k % 32) % 4294967296 = ((dig (val dl / 2 ^ (k % 32)) j : Nat) : Int) := by
  have hxl := h.get hx
  have hyl := h.get hy
  rw [dig_shr dl h (k % 32) j x y (by omega) hx (by rw [hy]; rfl)]
  rw [show bits .or .u64 (x : Int) ((y : Int) * 4294967296) = ((2 ^ 32 * y + x : Nat) : Int) from (or_low64 x y 32 hxl (by omega)).2, show 2 ^ 32 * y + x = x + 4294967296 * y from by omega]
  rw [Int.natCast_emod, Int.natCast_ediv, Int.natCast_pow]; rfl
theorem shr_last {dl : List Nat} (h : Limbs dl) {j x k : Nat} (hx : dl[j]? = some x) (hy : dl[j + 1]? = none) :
    (x : Int) / 2 ^ (k % 32) % 4294967296 = ((dig (val dl / 2 ^ (k % 32)) j : Nat) : Int) := by
  rw [dig_shr dl h (k % 32) j x 0 (by omega) hx (by rw [hy]; rfl)]
  rw [Int.natCast_emod, Int.natCast_ediv, Int.natCast_pow]; rfl

set_option maxHeartbeats 1000000 in
theorem shr_any (A : Option Addr) (n c k : Nat) (l : List Nat) (w : World) (h : SL w A n c l) (hn : n ≤ 1000000) (hk : k ≤ 1000000) :
    Calls Tryz.prog 171 #[.slice A n c, .int .i64 (k : Int)] w (RetV (val l / 2 ^ k) 1000000 w) := by
  have hT := h.trim
  have hle := digs_val_len l h.lt
  have hlen := h.len
  have hcap := hT.cap
  have hmax := hT.max
  generalize hN : (digs (val l)).length = N at *
  have HN := Lib.hid hN
  clear hN
  have hNn : N ≤ n := by omega
  have HL := Lib.hid hlen
  clear hlen hle
  by_cases hbig : N ≤ k / 32
  · go_enter Tryz.func171, Tryz.ntmps171
    go_wp2_with (go_at_call 113; refine (trim_any A n c l _ h).mono ?_; rintro e w' ⟨rfl, rfl⟩; rw [HN.out])
    go_ret
    refine ⟨_, _, _, _, rfl, SL.nil _, ?_, Nat.zero_le _, Fresh.zero, Below.refl _ _⟩
    rw [val, Nat.div_eq_of_lt]
    have h1 := lt_digs_length (val l)
    rw [HN.out, base_pow] at h1
    exact Nat.lt_of_lt_of_le h1 (Nat.pow_le_pow_right (by omega) (by omega))
  · obtain ⟨b, off, rfl, _, _⟩ := hT.at_ (by omega)
    have hdec : decide ((N : Int) ≤ (k : Int) / 32) = false := by simp; omega
    have hS := hT.drop (k := k / 32) (by omega)
    have hv : val ((digs (val l)).drop (k / 32)) = val l / 4294967296 ^ (k / 32) := by rw [val_drop _ (limbs_digs _) _ (by rw [HN.out]; omega), val_digs]
    have HV := Lib.hid hv
    clear hv
    go_enter Tryz.func171, Tryz.ntmps171
    go_wp2_with (first
      | (go_at_call 113; refine (trim_any _ n c l _ h).mono ?_; rintro e w' ⟨rfl, rfl⟩; rw [HN.out])
      | (at_make; refine wpList_mk rfl (.tmp 21) (.tmp 21) _ 60 rfl u32_info Tryz.underlying23 .i64 .i64 _ _ (N - k / 32) (N - k / 32) rfl rfl (by omega) (by omega) (Nat.le_refl _) (by omega) ?_; intro w1 hr1 hb1 hs1))
    have HM : Hid (N - k / 32 ≤ 1000000) := by unfold Hid; omega
    have HM0 : Hid (0 < N - k / 32) := by unfold Hid; omega
    clear hdec hbig hT hNn hcap hmax
    generalize N - k / 32 = M at *
    generalize off + k / 32 = off2 at *
    generalize c - k / 32 = c2 at *
    generalize (digs (val l)).drop (k / 32) = dl at *
    have hM := HM.out
    go_loopw [25] (fun i wr => ∃ j : Nat, j ≤ M ∧ i = .int .i64 j ∧ Row wr w.heap.size 60 (fillN M (val dl / 2 ^ (k % 32)) j) ∧ Below w.heap.size w wr) (fun i _ => M - (intOf i).toNat)
    case atStart => exact ⟨0, Nat.zero_le _, rfl, by rw [fillN_zero]; exact hr1, hb1⟩
    case round =>
      obtain ⟨j, hj, rfl, hr, hb⟩ := hrel
      by_cases hlt : j < M
      · obtain ⟨x, hxb, hx, hcell, hxlt⟩ := (hS.below hb).get' hlt
        have HX := Lib.hid hx
        clear hx
        have hoc := hr.cell (fillN_get hlt)
        have hof := Blk.frozen hr j
        by_cases hlast : j + 1 < M
        · obtain ⟨y, hyb, hy, hcelly, hylt⟩ := (hS.below hb).get' hlast
          have HY := Lib.hid hy
          clear hy
          go_wp2_with fail
          go_roundw
          case rel =>
            clear hr1 hcell hcelly hoc
            exact ⟨j + 1, by omega, by go_num, rows_step hr hlt hb (Nat.le_refl _) _ (shr_mid hS.lt HX.out HY.out)⟩
          case measure => simp [intOf]; omega
        · go_wp2_with fail
          go_roundw
          case rel =>
            clear hr1 hcell hoc
            exact ⟨j + 1, by omega, by go_num, rows_step hr hlt hb (Nat.le_refl _) _ (shr_last hS.lt HX.out (List.getElem?_eq_none (by rw [hS.len]; omega)))⟩
          case measure => simp [intOf]; omega
      · go_wp2_with fail
        go_ret
        obtain rfl : j = M := by omega
        rw [fillN_all] at hr
        refine ⟨_, _, _, _, rfl, hr.sl (limbs_digN _ _) (digN_length _ _) (by omega), ?_, hM, fun _ => ⟨_, rfl, Nat.le_refl _⟩, hb⟩
        have hlt := val_lt dl hS.lt
        rw [hS.len] at hlt
        rw [val_digN_of_lt (Nat.lt_of_le_of_lt (Nat.div_le_self _ _) hlt), HV.out, Nat.div_div_eq_div_mul, base_pow, ← Nat.pow_add, show 32 * (k / 32) + k % 32 = k from by omega]

end Go.Proofs.YtekajoifgdpmlaaGreatDoor

/-! A4 -/
namespace Go.Proofs.YtekajoifgdpmlaaGreatDoor
open Go.RowKit Pl Go.Shelf

/-- A slice of limbs that the call made, and OK. -/
def RetP (l : List Nat) (w : World) (e : Ending) (w' : World) : Prop := ∃ A n c, e = .returned (.tuple #[.slice A n c, .int .i64 0]) ∧ SL w' A n c l ∧ Fresh w.heap.size A n ∧ Below w.heap.size w w'

theorem len256 {v : Nat} {l : List Nat} (h : Limbs l) (hl : l.length ≤ 256) (hv : v ≤ val l) : (digs v).length ≤ 256 :=
  Nat.le_trans (digs_length_lt v l.length (Nat.lt_of_le_of_lt hv (val_lt l h))) hl

set_option maxHeartbeats 400000 in
theorem Shr_ok (A : Option Addr) (n c k : Nat) (l : List Nat) (w : World) (h : SL w A n c l) (hn : n ≤ 256) (hk : k ≤ 65536) :
    Calls Tryz.prog 109 #[.slice A n c, .int .i64 (k : Int)] w (RetP (digs (val l / 2 ^ k)) w) := by
  have hw := h.alloc (.cells #[.slice A n c] 23)
  have h256 : ¬ 256 < n := by omega
  go_enter Tryz.func109, Tryz.ntmps109
  go_wp2_with fail
  refine (long_one _ A n c _ (by simp)).mono ?_
  rintro e w' ⟨rfl, rfl⟩
  go_wp2_with fail
  refine (shr_any A n c k l _ hw (by omega) (by omega)).mono ?_
  rintro e w' ⟨A1, n1, c1, l1, rfl, hs1, hv1, _, hf1, hb1⟩
  have hb : Below w.heap.size w w' := bnext (ballo _ _) hb1
  have HV := Lib.hid hv1
  clear hv1
  have h256' : (digs (val l1)).length ≤ 256 := by rw [HV.out]; exact len256 h.lt (by rw [h.len]; exact hn) (Nat.div_le_self _ _)
  go_wp2_with fail
  refine (done_ok A1 n1 c1 l1 _ hs1 h256').mono ?_
  rintro e w2 ⟨rfl, hb2⟩
  go_wp2_with fail
  go_ret2
  have hl1 := digs_val_len l1 hs1.lt
  have hl2 := hs1.len
  rw [← HV.out]
  exact ⟨_, _, _, rfl, (hs1.trim.clip).below hb2, (hf1.mono (by simp)).less (by omega), bnext hb hb2⟩

/-- A number as the program has it: any sign, limbs, exponent. -/
structure Dy where
  neg : Bool
  l : List Nat
  e : Int
def zeroD : Dy := ⟨false, [], 0⟩
/-- The canonical form of (-1)^neg v 2^e. -/
def canonD (neg : Bool) (v : Nat) (e : Int) : Dy := if v = 0 then zeroD else ⟨neg, digs (oddp v), e + tz v⟩

/-- A number that the call made. -/
def RetD (d : Dy) (w : World) (e : Ending) (w' : World) : Prop := ∃ A n c, e = .returned (.agg #[.bool d.neg, .slice A n c, .int .i64 d.e]) ∧ SL w' A n c d.l ∧ Fresh w.heap.size A n ∧ Below w.heap.size w w'

theorem Blk.set3 {w : World} {g : Nat} {t : TypeId} {a0 a1 a2 : Value} (h : Blk w g t #[a0, a1, a2]) (x0 x1 x2 : Value) :
    Blk (((w.setCell ⟨g, 0, none⟩ x0).setCell ⟨g, 1, none⟩ x1).setCell ⟨g, 2, none⟩ x2) g t #[x0, x1, x2] := ((h.set_ 0 x0).set_ 1 x1).set_ 2 x2
theorem below_set3 {B : Nat} {w w' : World} {g : Nat} (h : Below B w w') (hg : B ≤ g) (x0 x1 x2 : Value) :
    Below B w (((w'.setCell ⟨g, 0, none⟩ x0).setCell ⟨g, 1, none⟩ x1).setCell ⟨g, 2, none⟩ x2) :=
  ((h.setCell (p := ⟨g, 0, none⟩) hg x0).setCell (p := ⟨g, 1, none⟩) hg x1).setCell (p := ⟨g, 2, none⟩) hg x2
theorem SL.far {w : World} {A : Option Addr} {n c B g : Nat} {l : List Nat} (h : SL w A n c l) (hf : Fresh B A n) (hg : g < B) (i : Nat) (x : Value) : SL (w.setCell ⟨g, i, none⟩ x) A n c l := by
  refine ⟨h.len, h.cap, h.max, h.lt, fun hn => ?_⟩
  obtain ⟨b, off, rfl, hb, hc⟩ := h.at_ hn
  obtain ⟨ad, e, hB⟩ := hf hn
  injection e with e
  subst e
  have hB : B ≤ b := hB
  refine ⟨b, off, rfl, by simpa [World.setCell] using hb, fun j y hy => ?_⟩
  rw [World.cell?_setCell_other _ _ _ _ (by intro e; injection e with e1; omega)]
  exact hc j y hy
/-- A result that is a number in a block of the call's own. -/
theorem resD {fn : Func} {k : Nat} (h : fn.results = #[.cell k 25]) {tmps : Array Value} {W : World} {g : Nat} {t : TypeId} {x0 x1 x2 : Value} (hk : tmps.getD k undef = .pointer (some ⟨g, 0, none⟩)) (hB : Blk W g t #[x0, x1, x2]) :
    (results fn tmps).run Tryz.prog W = .ok (.agg #[x0, x1, x2]) W := by
  have c0 := hB.cell 0
  have c1 := hB.cell 1
  have c2 := hB.cell 2
  simp at c0 c1 c2
  have hk' : tmps[k]?.getD undef = .pointer (some ⟨g, 0, none⟩) := by simpa using hk
  simp [results, h, hk', go_sem, c0, c1, c2]
theorem resDE {fn : Func} {k j : Nat} (h : fn.results = #[.cell k 25, .tmp j]) {tmps : Array Value} {W : World} {g : Nat} {t : TypeId} {x0 x1 x2 : Value} (hk : tmps.getD k undef = .pointer (some ⟨g, 0, none⟩)) (hB : Blk W g t #[x0, x1, x2]) :
    (results fn tmps).run Tryz.prog W = .ok (.tuple #[.agg #[x0, x1, x2], tmps.getD j undef]) W := by
  have c0 := hB.cell 0
  have c1 := hB.cell 1
  have c2 := hB.cell 2
  simp at c0 c1 c2
  have hk' : tmps[k]?.getD undef = .pointer (some ⟨g, 0, none⟩) := by simpa using hk
  simp [results, h, hk', go_sem, c0, c1, c2]

theorem Tabs.below {w w' : World} {B : Nat} (h : Tabs w) (hb : Below B w w') (hB : 3 < B) : Tabs w' := fun j hj => (hb.cell (p := ⟨3, j, none⟩) hB).trans (h j hj)
theorem Tabs.lt {w : World} (h : Tabs w) : 3 < w.heap.size := by
  have := h 0 (by decide)
  rcases Nat.lt_or_ge 3 w.heap.size with hlt | hge
  · exact hlt
  · simp [World.cell?, Array.getElem?_eq_none hge] at this
theorem Tabs.next {w w' : World} (h : Tabs w) (hb : Below w.heap.size w w') : Tabs w' := h.below hb h.lt

set_option maxHeartbeats 1000000 in
theorem canonical_any (neg : Bool) (A : Option Addr) (n c : Nat) (l : List Nat) (x : Int) (w : World) (h : SL w A n c l) (hn : n ≤ 256) (hx1 : -1000000 ≤ x) (hx2 : x ≤ 1000000) (ht : Tabs w) :
    Calls Tryz.prog 35 #[.bool neg, .slice A n c, .int .i64 x] w (RetD (canonD neg (val l) x) w) := by
  have h1 := h.alloc (.cells #[.bool false, .slice none 0 0, .int .i64 0] 25)
  have ht1 := ht.next (ballo w (.cells #[.bool false, .slice none 0 0, .int .i64 0] 25))
  have HT := Lib.hid ht
  have HT1 := Lib.hid ht1
  clear ht ht1
  by_cases h0 : val l = 0
  · have hd : (digs (val l)).length = 0 := by rw [h0]; rfl
    have HD := Lib.hid hd
    have H0 := Lib.hid h0
    clear hd h0
    go_enter Tryz.func35, Tryz.ntmps35
    go_wp2_with fail
    refine (trimmed_any A n c l _ h1).mono ?_
    rintro e w' ⟨rfl, rfl⟩
    rw [HD.out]
    go_wp2_with fail
    refine bodyPost_ret (v := .agg #[.bool false, .slice none 0 0, .int .i64 0]) (by simp [results, Tryz.results35, go_sem]) rfl ?_
    rw [canonD, if_pos H0.out]
    exact ⟨none, 0, 0, rfl, SL.nil _, Fresh.zero, ballo _ _⟩
  · have hp : 0 < val l := by omega
    have hT := h1.trim
    have hdl := digs_val_len l h.lt
    have hll := h.len
    have hdp : (digs (val l)).length ≠ 0 := by rw [digs_pos _ hp]; simp
    have htz : tz (val l) < 65536 := by
      have h1 := tz_lt_blen (val l) hp
      have h2 := val_lt l h.lt
      rw [base_pow] at h2
      have := blen_le_of _ _ h2
      omega
    have hvd : val (digs (val l)) = val l := val_digs _
    have HVD := Lib.hid hvd
    have HCD : Hid (canonD neg (val l) x = ⟨neg, digs (val l / 2 ^ tz (val l)), x + tz (val l)⟩) := by unfold Hid canonD; rw [if_neg h0]; rfl
    clear hvd h0
    generalize hN : (digs (val l)).length = N at *
    generalize hdd : digs (val l) = dl at *
    have HN := Lib.hid hN
    have HDD := Lib.hid hdd
    clear hN hdd
    generalize hz : tz (val l) = z at *
    have HZ := Lib.hid hz
    clear hz
    have hne : ((N : Int) == 0) = false := by simp; omega
    go_enter Tryz.func35, Tryz.ntmps35
    go_wp2_with fail
    refine (trimmed_any A n c l _ h1).mono ?_
    rintro e w' ⟨rfl, rfl⟩
    rw [HDD.out, HN.out]
    go_wp2_with fail
    refine (low_any A N c dl _ hT (by omega) (by rw [HVD.out]; exact hp) HT1.out).mono ?_
    rintro e w' ⟨rfl, rfl⟩
    rw [HVD.out, HZ.out]
    go_wp2_with fail
    refine (Shr_ok A N c z dl _ hT (by omega) (by omega)).mono ?_
    rintro e w1 ⟨A1, n1, c1, rfl, hs1, hf1, hb1⟩
    have hn1 : n1 ≤ 256 := by
      rw [← hs1.len, HVD.out]
      exact len256 h.lt (by omega) (Nat.div_le_self _ _)
    go_wp2_with fail
    refine (clone_any A1 n1 c1 _ _ hs1 (by omega)).mono ?_
    rintro e w2 ⟨A2, n2, c2, rfl, hs2, hf2, hb2⟩
    have hb12 := bnext hb1 hb2
    obtain ⟨hc, hf⟩ := bcell hb12
    have hsz : w.heap.size + 1 ≤ w2.heap.size := by simpa using hb12.size
    have hcap := hs2.cap
    have hmax := hs2.max
    go_wp2_with fail
    refine (clip_any A2 n2 c2 _ hcap hmax).mono ?_
    rintro e w3 ⟨rfl, rfl⟩
    go_wp2_with fail
    have hB0 := (Blk.new w 25 #[.bool false, .slice none 0 0, .int .i64 0]).below hb12 (by simp)
    refine bodyPost_ret (resD Tryz.results35 rfl (hB0.set3 _ _ _)) rfl ?_
    rw [HCD.out]
    have hbw := below_set3 (bnext (ballo _ _) hb12) (Nat.le_refl _) (.bool neg) (.slice A2 n2 n2) (.int .i64 (x + z))
    refine ⟨A2, n2, n2, rfl, ?_, hf2.mono (Nat.le_trans (by simp) hb1.size), hbw⟩
    rw [HVD.out] at hs2
    have hlt : w.heap.size < w1.heap.size := Nat.lt_of_lt_of_le (by simp) hb1.size
    exact (((hs2.clip.far hf2 hlt 0 _).far hf2 hlt 1 _).far hf2 hlt 2 _)

end Go.Proofs.YtekajoifgdpmlaaGreatDoor

/-! Math3 -/
namespace Go.Proofs.YtekajoifgdpmlaaGreatDoor.Pl

theorem pre_div {V V' t i : Nat} (h : V' = V + 4294967296 ^ i * t) : V' / 4294967296 ^ i = V / 4294967296 ^ i + t := by
  rw [h, Nat.add_mul_div_left _ _ (pow_pos' i)]
theorem pre_carry {V V' t i : Nat} (h : V' = V + 4294967296 ^ i * t) : V' / 4294967296 ^ (i + 1) = (V / 4294967296 ^ i + t) / 4294967296 := by
  rw [Nat.pow_succ, ← Nat.div_div_eq_div_mul, pre_div h]
theorem dig_pre {V V' R i : Nat} (h : V = V' + 4294967296 ^ (i + 1) * R) : dig V i = V' / 4294967296 ^ i % 4294967296 := by
  rw [dig, h, Nat.pow_succ, Nat.mul_assoc, Nat.add_mul_div_left _ _ (pow_pos' i), Nat.add_mul_mod_self_left]

/-- The limb of a list, 0 behind its end. -/
def lim (l : List Nat) (i : Nat) : Nat := (l[i]?).getD 0
theorem lim_some {l : List Nat} {i x : Nat} (h : l[i]? = some x) : lim l i = x := by simp [lim, h]
theorem lim_none {l : List Nat} {i : Nat} (h : l.length ≤ i) : lim l i = 0 := by simp [lim, List.getElem?_eq_none h]
theorem lim_lt {l : List Nat} (h : Limbs l) (i : Nat) : lim l i < 4294967296 := by
  unfold lim
  cases hx : l[i]? with
  | none => simp
  | some x => simpa using h.get hx
theorem val_take_lim (l : List Nat) (i : Nat) : val (l.take (i + 1)) = val (l.take i) + 4294967296 ^ i * lim l i := by
  cases hx : l[i]? with
  | some x => rw [lim_some hx]; exact val_take_succ l i x hx
  | none =>
    have h : l.length ≤ i := by
      rcases Nat.lt_or_ge i l.length with h' | h'
      · rw [List.getElem?_eq_getElem h'] at hx; cases hx
      · exact h'
    rw [lim_none h, List.take_of_length_le (by omega), List.take_of_length_le h]; omega
theorem val_split (l : List Nat) (i : Nat) : ∃ R, val l = val (l.take i) + 4294967296 ^ i * R := by
  by_cases h : i ≤ l.length
  · refine ⟨val (l.drop i), ?_⟩
    have := val_take_drop l i
    rwa [List.length_take, Nat.min_eq_left h] at this
  · exact ⟨0, by rw [List.take_of_length_le (by omega)]; omega⟩
theorem val_take_lt (l : List Nat) (h : Limbs l) (i : Nat) : val (l.take i) < 4294967296 ^ i := by
  have h1 := val_lt (l.take i) (h.take i)
  refine Nat.lt_of_lt_of_le h1 (Nat.pow_le_pow_right (by omega) ?_)
  rw [List.length_take]; omega

/-! Sums -/
def addC (a b : List Nat) (i : Nat) : Nat := (val (a.take i) + val (b.take i)) / 4294967296 ^ i
theorem addC_zero (a b : List Nat) : addC a b 0 = 0 := by simp [addC, val]
theorem addC_le (a b : List Nat) (ha : Limbs a) (hb : Limbs b) (i : Nat) : addC a b i ≤ 1 := by
  have h1 := val_take_lt a ha i
  have h2 := val_take_lt b hb i
  unfold addC
  have : (val (a.take i) + val (b.take i)) / 4294967296 ^ i < 2 := Nat.div_lt_of_lt_mul (by omega)
  omega
theorem add_pre (a b : List Nat) (i : Nat) : val (a.take (i + 1)) + val (b.take (i + 1)) = (val (a.take i) + val (b.take i)) + 4294967296 ^ i * (lim a i + lim b i) := by
  rw [val_take_lim, val_take_lim, Nat.mul_add]; omega
theorem add_dig (a b : List Nat) (i : Nat) : dig (val a + val b) i = (lim a i + lim b i + addC a b i) % 4294967296 := by
  obtain ⟨R, hR⟩ := val_split a (i + 1)
  obtain ⟨S, hS⟩ := val_split b (i + 1)
  rw [dig_pre (V := val a + val b) (V' := val (a.take (i + 1)) + val (b.take (i + 1))) (R := R + S) (by rw [hR, hS, Nat.mul_add]; omega), pre_div (add_pre a b i), Nat.add_comm]
  rfl
theorem add_carry (a b : List Nat) (i : Nat) : addC a b (i + 1) = (lim a i + lim b i + addC a b i) / 4294967296 := by
  unfold addC
  rw [pre_carry (add_pre a b i), Nat.add_comm]
theorem add_last (a b : List Nat) (n : Nat) (ha : Limbs a) (hb : Limbs b) (h1 : a.length ≤ n) (h2 : b.length ≤ n) : dig (val a + val b) n = addC a b n := by
  rw [add_dig, lim_none h1, lim_none h2, Nat.zero_add]
  have := addC_le a b ha hb n
  omega
theorem add_lt (a b : List Nat) (n : Nat) (ha : Limbs a) (hb : Limbs b) (h1 : a.length ≤ n) (h2 : b.length ≤ n) : val a + val b < 4294967296 ^ (n + 1) := by
  have e1 := Nat.lt_of_lt_of_le (val_lt a ha) (Nat.pow_le_pow_right (n := 4294967296) (by omega) h1)
  have e2 := Nat.lt_of_lt_of_le (val_lt b hb) (Nat.pow_le_pow_right (n := 4294967296) (by omega) h2)
  rw [Nat.pow_succ]
  omega

/-! Differences -/
def subC (a b : List Nat) (i : Nat) : Nat := if val (a.take i) < val (b.take i) then 1 else 0
theorem subC_zero (a b : List Nat) : subC a b 0 = 0 := by simp [subC, val]
theorem subC_le (a b : List Nat) (i : Nat) : subC a b i ≤ 1 := by unfold subC; split <;> omega
theorem sub_carry (a b : List Nat) (ha : Limbs a) (hb : Limbs b) (i : Nat) : subC a b (i + 1) = if lim a i < lim b i + subC a b i then 1 else 0 := by
  have h1 := val_take_lt a ha i
  have h2 := val_take_lt b hb i
  unfold subC
  rw [val_take_lim a i, val_take_lim b i]
  generalize 4294967296 ^ i = p at *
  generalize lim a i = x at *
  generalize lim b i = y at *
  have hx : p * (x + 1) = p * x + p := Nat.mul_succ ..
  have hy : p * (y + 1) = p * y + p := Nat.mul_succ ..
  rcases Nat.lt_trichotomy x y with h | h | h
  · have : p * (x + 1) ≤ p * y := Nat.mul_le_mul_left p h
    rw [if_pos (by omega), if_pos (by omega)]
  · subst h
    by_cases hc : val (a.take i) < val (b.take i)
    · rw [if_pos (by omega), if_pos hc, if_pos (by omega)]
    · rw [if_neg (by omega), if_neg hc, if_neg (by omega)]
  · have : p * (y + 1) ≤ p * x := Nat.mul_le_mul_left p h
    rw [if_neg (by omega)]
    split <;> rw [if_neg (by omega)]
theorem sub_pre (a b : List Nat) (i : Nat) (hb : Limbs b) : val (a.take i) + 4294967296 ^ i * subC a b i = val (b.take i) + (val (a.take i) + 4294967296 ^ i * subC a b i - val (b.take i)) ∧ True := by
  refine ⟨?_, trivial⟩
  have h2 := val_take_lt b hb i
  unfold subC
  split <;> omega
theorem sub_dig (a b : List Nat) (ha : Limbs a) (hb : Limbs b) (h : val b ≤ val a) (i : Nat) : dig (val a - val b) i = (lim a i + 4294967296 - lim b i - subC a b i) % 4294967296 := by
  obtain ⟨R, hR⟩ := val_split a (i + 1)
  obtain ⟨S, hS⟩ := val_split b (i + 1)
  have hc := sub_carry a b ha hb i
  have h1 := val_take_lt a ha i
  have h2 := val_take_lt b hb i
  have h3 := val_take_lt a ha (i + 1)
  have h4 := val_take_lt b hb (i + 1)
  have hxl := lim_lt ha i
  have hyl := lim_lt hb i
  have hSR : S + subC a b (i + 1) ≤ R := by
    unfold subC
    have hle := h
    rw [hR, hS] at hle
    generalize 4294967296 ^ (i + 1) = q at *
    have e1 : q * (R + 1) = q * R + q := Nat.mul_succ ..
    have e2 : q * (S + 1) = q * S + q := Nat.mul_succ ..
    have e3 : q * (R + 1 + 1) = q * (R + 1) + q := Nat.mul_succ ..
    split
    · rcases Nat.lt_or_ge S R with hlt | hge
      · omega
      · have := Nat.mul_le_mul_left q hge
        omega
    · rcases Nat.lt_or_ge R S with hlt | hge
      · have : q * (R + 1) ≤ q * S := Nat.mul_le_mul_left q hlt
        omega
      · omega
  obtain ⟨D, hD⟩ : ∃ D, R = S + subC a b (i + 1) + D := ⟨R - (S + subC a b (i + 1)), by omega⟩
  have hV : val a - val b = (val (a.take (i + 1)) + 4294967296 ^ (i + 1) * subC a b (i + 1) - val (b.take (i + 1))) + 4294967296 ^ (i + 1) * D := by
    have e : 4294967296 ^ (i + 1) * R = 4294967296 ^ (i + 1) * S + 4294967296 ^ (i + 1) * subC a b (i + 1) + 4294967296 ^ (i + 1) * D := by rw [hD, Nat.mul_add, Nat.mul_add]
    have := (sub_pre a b (i + 1) hb).1
    omega
  rw [dig_pre hV]
  have hq : val (a.take (i + 1)) + 4294967296 ^ (i + 1) * subC a b (i + 1) - val (b.take (i + 1)) =
      (val (a.take i) + 4294967296 ^ i * subC a b i - val (b.take i)) + 4294967296 ^ i * ((lim a i + 4294967296 * subC a b (i + 1)) - lim b i - subC a b i) := by
    have e0 := (sub_pre a b i hb).1
    have e0' := (sub_pre a b (i + 1) hb).1
    have e1 := val_take_lim a i
    have e2 := val_take_lim b i
    obtain ⟨t, ht⟩ : ∃ t, lim a i + 4294967296 * subC a b (i + 1) = lim b i + subC a b i + t := by
      refine ⟨lim a i + 4294967296 * subC a b (i + 1) - (lim b i + subC a b i), ?_⟩
      have := subC_le a b i
      rw [hc]
      split <;> omega
    rw [show lim a i + 4294967296 * subC a b (i + 1) - lim b i - subC a b i = t from by omega]
    have e3 : 4294967296 ^ i * lim a i + 4294967296 ^ (i + 1) * subC a b (i + 1) = 4294967296 ^ i * lim b i + 4294967296 ^ i * subC a b i + 4294967296 ^ i * t := by
      have := congrArg (4294967296 ^ i * ·) ht
      simp only [Nat.mul_add] at this
      rw [Nat.pow_succ, Nat.mul_assoc]
      exact this
    omega
  rw [pre_div hq]
  have hlow : val (a.take i) + 4294967296 ^ i * subC a b i - val (b.take i) < 4294967296 ^ i := by
    unfold subC
    split <;> omega
  rw [Nat.div_eq_of_lt hlow, Nat.zero_add, hc]
  have := subC_le a b i
  split <;> omega

/-! Shifts to the left -/
def shlC (l : List Nat) (r i : Nat) : Nat := val (l.take i) * 2 ^ r / 4294967296 ^ i
theorem shlC_zero (l : List Nat) (r : Nat) : shlC l r 0 = 0 := by simp [shlC, val]
theorem shlC_lt (l : List Nat) (h : Limbs l) (r i : Nat) : shlC l r i < 2 ^ r := by
  unfold shlC
  refine Nat.div_lt_of_lt_mul ?_
  exact Nat.mul_lt_mul_of_pos_right (val_take_lt l h i) (Nat.two_pow_pos r)
theorem shl_pre (l : List Nat) (r i : Nat) : val (l.take (i + 1)) * 2 ^ r = val (l.take i) * 2 ^ r + 4294967296 ^ i * (2 ^ r * lim l i) := by
  rw [val_take_lim, Nat.add_mul, Nat.mul_assoc, Nat.mul_comm (lim l i)]
theorem shl_dig (l : List Nat) (r i : Nat) : dig (val l * 2 ^ r) i = (2 ^ r * lim l i + shlC l r i) % 4294967296 := by
  obtain ⟨R, hR⟩ := val_split l (i + 1)
  rw [dig_pre (V' := val (l.take (i + 1)) * 2 ^ r) (R := R * 2 ^ r) (by rw [← Nat.mul_assoc, ← Nat.add_mul, ← hR]), pre_div (shl_pre l r i), Nat.add_comm]
  rfl
theorem shl_carry (l : List Nat) (r i : Nat) : shlC l r (i + 1) = (2 ^ r * lim l i + shlC l r i) / 4294967296 := by
  unfold shlC
  rw [pre_carry (shl_pre l r i), Nat.add_comm]
theorem shl_last (l : List Nat) (h : Limbs l) (r n : Nat) (hr : r < 32) (hn : l.length ≤ n) : dig (val l * 2 ^ r) n = shlC l r n := by
  rw [shl_dig, lim_none hn, Nat.mul_zero, Nat.zero_add]
  have h1 := shlC_lt l h r n
  have : 2 ^ r ≤ 2 ^ 32 := Nat.pow_le_pow_right (by omega) (by omega)
  omega
theorem shl_lt (l : List Nat) (h : Limbs l) (r n : Nat) (hr : r < 32) (hn : l.length ≤ n) : val l * 2 ^ r < 4294967296 ^ (n + 1) := by
  have e1 := Nat.lt_of_lt_of_le (val_lt l h) (Nat.pow_le_pow_right (n := 4294967296) (by omega) hn)
  rw [Nat.pow_succ]
  have h2 : 2 ^ r ≤ 2 ^ 32 := Nat.pow_le_pow_right (by omega) (by omega)
  exact Nat.mul_lt_mul_of_lt_of_le e1 h2 (by omega)

/-! Division by a small number -/
theorem dig_zero (v : Nat) : dig v 0 = v % 4294967296 := by simp [dig]
theorem dig_succ (v i : Nat) : dig v (i + 1) = dig (v / 4294967296) i := by
  unfold dig
  rw [Nat.div_div_eq_div_mul, Nat.pow_succ, Nat.mul_comm]
theorem digN_cons (k x q : Nat) (hx : x < 4294967296) : digN (k + 1) (x + 4294967296 * q) = x :: digN k q := by
  unfold digN
  rw [List.range_succ_eq_map, List.map_cons, List.map_map]
  congr 1
  · rw [dig_zero]; omega
  · refine List.map_congr_left (fun i _ => ?_)
    rw [Function.comp, dig_succ, show (x + 4294967296 * q) / 4294967296 = q from by omega]
/-- The quotient and the rest of x + B V by d, out of those of V. -/
theorem short_step (x V d : Nat) (hd : 0 < d) (hx : x < 4294967296) : (x + 4294967296 * V) / d = (V % d * 4294967296 + x) / d + 4294967296 * (V / d) ∧ (x + 4294967296 * V) % d = (V % d * 4294967296 + x) % d ∧ (V % d * 4294967296 + x) / d < 4294967296 := by
  have hV := Nat.div_add_mod V d
  have hr := Nat.mod_lt V hd
  generalize V / d = Q at *
  generalize V % d = R at *
  have e : x + 4294967296 * V = (R * 4294967296 + x) + d * (4294967296 * Q) := by
    rw [← hV, Nat.mul_add, ← Nat.mul_assoc, ← Nat.mul_assoc, Nat.mul_comm d 4294967296]; omega
  refine ⟨?_, ?_, ?_⟩
  · rw [e, Nat.add_mul_div_left _ _ hd]
  · rw [e, Nat.add_mul_mod_self_left]
  · refine Nat.div_lt_of_lt_mul ?_
    have : (R + 1) * 4294967296 ≤ d * 4294967296 := Nat.mul_le_mul_right _ hr
    omega
/-- The row of a division from above: zeros, and the digits that are known. -/
def downN (n j Q : Nat) : List Nat := List.replicate j 0 ++ digN (n - j) Q
theorem downN_all (n Q : Nat) : downN n n Q = List.replicate n 0 := by simp [downN, digN]
theorem downN_zero (n Q : Nat) : downN n 0 Q = digN n Q := by simp [downN]
theorem downN_get (n j Q : Nat) : (downN n (j + 1) Q)[j]? = some 0 := by
  unfold downN
  rw [List.getElem?_append_left (by simp)]
  simp
theorem downN_step (n j x Q : Nat) (hj : j < n) (hx : x < 4294967296) : (downN n (j + 1) Q).set j x = downN n j (x + 4294967296 * Q) := by
  unfold downN
  rw [show n - j = (n - (j + 1)) + 1 from by omega, digN_cons _ _ _ hx, List.set_append_left _ _ (by simp)]
  rw [List.replicate_succ', List.set_append_right _ _ (by simp)]
  simp

end Go.Proofs.YtekajoifgdpmlaaGreatDoor.Pl
