/- Bundle 6: what the laws' walks stand on: TA, C1. -/
import Derived.Lib.AppendIntMem
import Derived.Lib.ItoaMem
import Derived.Deep.LoopGhost
import Derived.Test.YtekajoifgdpmlaaGreatDoorZ5
/-! TA -/
/-! strconv.FormatUint at base 10, strconv.Itoa: what each call computes; the table of powers of ten. -/
namespace Go.Proofs.YtekajoifgdpmlaaGreatDoor
open Go.RowKit Pl Go.Shelf Go.Lib Go.Sort

/-- The table of powers of ten reads as laid. -/
def Tens (w : World) : Prop := Lib.TabIs Tryz.prog w "internal/strconv.uint64pow10" .u64 Lib.pow10Tab

theorem below_grow (w : World) (k : Nat) (os : Array Obj) : Below w.heap.size w (grow (w.drewN k) os) :=
  ⟨rfl, rfl, rfl, by show w.heap.size ≤ (w.heap ++ os).size; simp, fun g hg => Lib.heap_grow_old w k os g hg⟩

set_option maxRecDepth 100000 in
set_option maxHeartbeats 2000000 in
theorem formatUint_in (u : Nat) (w : World) (hu64 : u < 18446744073709551616) (htab : Tens w) :
    Calls Tryz.prog 175 #[.int .u64 u, .int .i64 10] w fun e w' => e = .returned (.string ⟨(Lib.decDigits u).toArray⟩) ∧ Below w.heap.size w w' := by
  have HTab := Lib.hid htab
  clear htab
  by_cases hs : u < 100
  · have hw : IntKind.i64.wrap (u : Int) = (u : Int) := IntWalk.i64_in _ (by omega)
    go_enter Tryz.func175, Tryz.ntmps175
    go_wp2_with fail
    refine (Tryz.internal_strconv_small u hs _).mono ?_
    rintro e w' ⟨rfl, rfl⟩
    go_wp2_with fail
    go_ret
    exact ⟨rfl, Below.refl _ _⟩
  · have hu1 : 1 ≤ u := by omega
    have hnd20 : Lib.nDigits u ≤ 20 := by have := Lib.numDigits_eq u hu1 hu64; split at this <;> omega
    have hb3 : Lib.nDigits u ≤ 24 := by omega
    have hal : Tryz.prog.arrayLen 204 = 24 := by simp [Program.arrayLen, Tryz.underlying204]
    have hsl1 : ∀ W, (Instr.sliceAt 204 (.pointer (some ⟨w.heap.size, 0, none⟩)) none (some (.int .i64 (Lib.nDigits u : Int))) none).run Tryz.prog W = .ok (.slice (some ⟨w.heap.size, 0, none⟩) (Lib.nDigits u) 24) W := fun W => by
      rw [run_sliceAt_array_h W 204 ⟨w.heap.size, 0, none⟩ (by simp [Program.arrayLen, Program.elem, Tryz.underlying204]) .i64 (Lib.nDigits u : Int) (by omega) (by rw [hal]; omega)]
      go_simp
    have hH0 := Lib.holds_zero0 w 204 (Lib.nDigits u) (by omega)
    have hfmt := Tryz.internal_strconv_formatBase10 w.heap.size 0 24 u (Array.replicate (Lib.nDigits u) 0) (w.alloc (.cells Lib.zeros24 204)) hH0 (by rw [Array.size_replicate]; exact Lib.lt_pow_nDigits u) hu64 (by rw [Array.size_replicate]; omega)
    rw [Array.size_replicate] at hfmt
    have HF := Lib.hid hfmt
    have HH0 := Lib.hid hH0
    clear hH0 hal hfmt
    go_enter Tryz.func175, Tryz.ntmps175
    go_wp2_with fail
    refine (Tryz.internal_strconv_numDigits u hu1 hu64 _ (Lib.tabIs_alloc HTab.out _)).mono ?_
    rintro e w' ⟨rfl, rfl⟩
    go_wp2_with fail
    refine HF.out.mono ?_
    rintro e w' ⟨rfl, k, v', dk, rfl, hF⟩
    have hcv : (convert 52 9 (.slice (some ⟨w.heap.size, 0, none⟩) (Lib.nDigits u) 24)).run Tryz.prog ((putRow (fun (b : UInt8) => Value.int .u8 (b.toNat : Int)) (w.alloc (.cells Lib.zeros24 204)) w.heap.size 0 dk).drewN k) = .ok (.string ⟨(Lib.decDigits u).toArray⟩) ((putRow (fun (b : UInt8) => Value.int .u8 (b.toNat : Int)) (w.alloc (.cells Lib.zeros24 204)) w.heap.size 0 dk).drewN k) := by
      have h := run_convert_bytes_back (P := Tryz.prog) ((putRow (fun (b : UInt8) => Value.int .u8 (b.toNat : Int)) (w.alloc (.cells Lib.zeros24 204)) w.heap.size 0 dk).drewN k) 52 9 5 ⟨w.heap.size, 0, none⟩ 24 (Lib.decDigits u) Tryz.underlying52 Tryz.underlying5 Tryz.underlying9 (fun j hj => by
        rw [Lib.row_is_numeral hF j hj, Lib.add_plain, World.cell?_drewN]
        exact cell?_putRow (fun (b : UInt8) => Value.int .u8 (b.toNat : Int)) _ w.heap.size 0 _ dk HH0.out (by rw [hF.size, Array.size_replicate]) j (by rw [hF.size]; rw [Lib.decDigits_length] at hj; exact hj))
      rw [Lib.decDigits_length] at h
      exact h
    go_wp2_with fail
    go_ret
    obtain ⟨os, eo⟩ := Lib.fin_at w (.cells Lib.zeros24 204) dk k 0
    rw [eo]
    exact ⟨rfl, below_grow w k os⟩

theorem formatUint_any (u : Nat) (w : World) (hu64 : u < 18446744073709551616) (htab : Tens w) :
    Calls Tryz.prog 115 #[.int .u64 u, .int .i64 10] w fun e w' => e = .returned (.string ⟨(Lib.decDigits u).toArray⟩) ∧ Below w.heap.size w w' := by
  have HTab := Lib.hid htab
  clear htab
  go_enter Tryz.func115, Tryz.ntmps115
  go_wp2_with fail
  refine (formatUint_in u _ hu64 HTab.out).mono ?_
  rintro e w' ⟨rfl, hb⟩
  go_wp2_with fail
  go_ret
  exact ⟨rfl, hb⟩
theorem itoa_any (n : Int) (w : World) (h0 : -9223372036854775808 ≤ n) (h1 : n ≤ 9223372036854775807) (htab : Tens w) :
    Calls Tryz.prog 46 #[.int .i64 n] w fun e w' => e = .returned (.string ⟨(Lib.itoa n).toArray⟩) ∧ Below w.heap.size w w' := by
  refine (Tryz.strconv_Itoa n h0 h1 w htab).mono ?_
  rintro e w' ⟨rfl, k, os, rfl⟩
  exact ⟨rfl, below_grow w k os⟩
theorem Tens.next {w w' : World} (h : Tens w) (hb : Below w.heap.size w w') : Tens w' := by
  unfold Tens TabIs World.var? at *
  cases hg : Tryz.prog.globalNamed "internal/strconv.uint64pow10" with
  | none => simp [hg] at h
  | some g =>
    simp only [hg, Option.bind_some] at h ⊢
    have hlt : g < w.heap.size := by
      rcases Nat.lt_or_ge g w.heap.size with h' | h'
      · exact h'
      · rw [Array.getElem?_eq_none h'] at h; simp at h
    rw [hb.block g hlt]
    exact h

end Go.Proofs.YtekajoifgdpmlaaGreatDoor

/-! Decimals: natural.Text: what the call computes. -/
namespace Go.Proofs.YtekajoifgdpmlaaGreatDoor
open Go.RowKit Pl Go.Shelf Go.Lib

/-- The k last decimal digits. -/
def pad : Nat → Nat → List UInt8
  | 0, _ => []
  | k + 1, r => pad k (r / 10) ++ [UInt8.ofNat (48 + r % 10)]
theorem pad_zero (k : Nat) : pad k 0 = List.replicate k 48 := by
  induction k with
  | zero => rfl
  | succ k ih => rw [pad, Nat.zero_div, ih, List.replicate_succ']; rfl
theorem dec_small {u : Nat} (h : u < 10) : decDigits u = [UInt8.ofNat (48 + u)] := by rw [decDigits, dif_pos h]
theorem dec_big {u : Nat} (h : ¬ u < 10) : decDigits u = decDigits (u / 10) ++ [UInt8.ofNat (48 + u % 10)] := by rw [decDigits, dif_neg h]
theorem dec_pos (u : Nat) : 1 ≤ (decDigits u).length := by
  by_cases h : u < 10
  · rw [dec_small h]; simp
  · rw [dec_big h]; simp
theorem pad_eq : ∀ (k r : Nat), r < 10 ^ (k + 1) → pad (k + 1) r = List.replicate (k + 1 - (decDigits r).length) 48 ++ decDigits r := by
  intro k
  induction k with
  | zero =>
    intro r h
    have h' : r < 10 := by simpa using h
    rw [dec_small h']
    simp [pad, Nat.mod_eq_of_lt h']
  | succ k ih =>
    intro r h
    rw [Nat.pow_succ] at h
    by_cases hs : r < 10
    · rw [pad, show r / 10 = 0 by omega, pad_zero, dec_small hs, Nat.mod_eq_of_lt hs]
      rfl
    · rw [pad, ih (r / 10) (by omega), dec_big hs, List.append_assoc]
      congr 2
      simp
theorem dec_split (k : Nat) : ∀ (q r : Nat), 0 < q → r < 10 ^ k → decDigits (q * 10 ^ k + r) = decDigits q ++ pad k r := by
  induction k with
  | zero => intro q r hq hr; simp at hr; simp [hr, pad]
  | succ k ih =>
    intro q r hq hr
    rw [Nat.pow_succ] at hr
    have e : q * 10 ^ (k + 1) + r = 10 * (q * 10 ^ k) + r := by rw [Nat.pow_succ, ← Nat.mul_assoc]; omega
    have hp : 0 < 10 ^ k := Nat.pow_pos (by omega)
    have hq' : 1 ≤ q * 10 ^ k := Nat.mul_pos hq hp
    rw [e, dec_big (by omega), show (10 * (q * 10 ^ k) + r) / 10 = q * 10 ^ k + r / 10 by omega, ih q (r / 10) hq (by omega), pad, show (10 * (q * 10 ^ k) + r) % 10 = r % 10 by omega, List.append_assoc]
theorem dec_len {k u : Nat} (h : u < 10 ^ (k + 1)) : (decDigits u).length ≤ k + 1 := by
  induction k generalizing u with
  | zero =>
    have h' : u < 10 := by simpa using h
    rw [dec_small h']; simp
  | succ k ih =>
    by_cases hs : u < 10
    · rw [dec_small hs]; simp
    · rw [dec_big hs, List.length_append]
      rw [Nat.pow_succ] at h
      have := ih (u := u / 10) (by omega)
      simp
      omega
theorem dec_len_limbs (l : List Nat) (hL : Limbs l) : (decDigits (val l)).length ≤ 32 * l.length + 1 := by
  refine dec_len (Nat.lt_of_lt_of_le (val_lt l hL) ?_)
  rw [base_pow]
  exact Nat.le_trans (Nat.pow_le_pow_left (by omega) _) (Nat.pow_le_pow_right (by omega) (by omega))

/-- What is left of v, and the parts so far. -/
structure Txt (v u : Nat) (P : List (List UInt8)) : Prop where
  more : 0 < u → decDigits v = decDigits u ++ P.reverse.flatten
  done : u = 0 → decDigits v = P.reverse.flatten ∧ P ≠ []
  ne : P.length ≤ P.reverse.flatten.length
theorem Txt.last {v u : Nat} {P : List (List UInt8)} (h : Txt v u P) (hu : 0 < u) (hq : u / 1000000000 = 0) : Txt v (u / 1000000000) (P ++ [decDigits (u % 1000000000)]) := by
  refine ⟨fun h' => absurd h' (by omega), fun _ => ⟨?_, by simp⟩, ?_⟩
  rotate_left
  · have h1 := h.ne
    have h2 := dec_pos (u % 1000000000)
    simp only [List.length_append, List.reverse_append, List.reverse_singleton, List.singleton_append, List.flatten_cons, List.length_singleton]
    omega
  rw [h.more hu, List.reverse_append, List.reverse_singleton, List.singleton_append, List.flatten_cons, show u % 1000000000 = u by omega]
theorem Txt.next {v u : Nat} {P : List (List UInt8)} (h : Txt v u P) (hq : 0 < u / 1000000000) :
    Txt v (u / 1000000000) (P ++ [repeatL [48] (9 - (decDigits (u % 1000000000)).length) ++ decDigits (u % 1000000000)]) := by
  have hr : ∀ n, repeatL [48] n = List.replicate n 48 := by
    intro n
    induction n with
    | zero => rfl
    | succ n ih => rw [repeatL, ih, List.replicate_succ]; rfl
  refine ⟨fun _ => ?_, fun h' => absurd h' (by omega), ?_⟩
  rotate_left
  · have h1 := h.ne
    have h2 := dec_pos (u % 1000000000)
    simp only [List.length_append, List.reverse_append, List.reverse_singleton, List.singleton_append, List.flatten_cons, List.length_singleton]
    omega
  rw [h.more (by omega), List.reverse_append, List.reverse_singleton, List.singleton_append, List.flatten_cons, hr, ← pad_eq 8 _ (Nat.lt_of_lt_of_le (Nat.mod_lt _ (by omega)) (by decide)), ← List.append_assoc, ← dec_split 9 _ _ hq (Nat.lt_of_lt_of_le (Nat.mod_lt _ (by omega)) (by decide))]
  congr 2
  have := Nat.div_add_mod u 1000000000
  show u = u / 1000000000 * 1000000000 + u % 1000000000
  omega

theorem Txt.short {v u : Nat} {P : List (List UInt8)} (h : Txt v u P) : P.length ≤ (decDigits v).length := by
  have h1 := h.ne
  rcases Nat.eq_zero_or_pos u with h0 | h0
  · rw [(h.done h0).1]; exact h1
  · rw [h.more h0, List.length_append]; omega

/-- A string as a value. -/
def strV (l : List UInt8) : Value := .string ⟨l.toArray⟩
/-- A row of strings that the call owns, or nil. -/
def OwnS (w : World) (base : Nat) (v : Value) (xs : List (List UInt8)) : Prop := w.ownsRow base 9 1 v xs.length (xs.map strV)
theorem SL.grown {w w' : World} {A : Option Addr} {n c : Nat} {l : List Nat} {row : Option Nat} (h : SL w A n c l) (hg : w.grownBy w' row) (ho : ∀ g, row = some g → Off A n g) : SL w' A n c l := by
  refine ⟨h.len, h.cap, h.max, h.lt, fun hn => ?_⟩
  obtain ⟨b, off, rfl, hb, hc⟩ := h.at_ hn
  refine ⟨b, off, rfl, Nat.lt_of_lt_of_le hb hg.size, fun j x hx => ?_⟩
  rw [hg.cell_far _ hb ?_]
  · exact hc j x hx
  · intro e
    obtain ⟨ad, e1, e2⟩ := ho b e.symm hn
    injection e1 with e1
    subst e1
    exact e2 rfl
theorem below_putRow {B : Nat} {w w' : World} {α : Type} [Inhabited α] (enc : α → Value) (h : Below B w w') (g off n : Nat) (d : Array α) (hg : B ≤ g) : Below B w (Sort.putRow enc (Sort.ahead w' n) g off d) := by
  refine ⟨h.os, h.tape, h.output, Nat.le_trans h.size (by simp [Sort.putRow, Sort.mapBlock, Sort.ahead]), fun k hk => ?_⟩
  rw [← h.block k hk]
  simp only [Sort.putRow, Sort.mapBlock, Sort.ahead]
  rw [Array.getElem?_modify, if_neg (by omega)]

section
variable {P : Program} {w : World} {ops : Array Oper} {rest : List Oper} {o : Oper} {a : Act} {Q : Exit → Act → World → Prop}
/-- append of one string. -/
theorem wpList_appS (hgd : o.guard = none) (s x : Operand) (t : TypeId) (ho : o.op = .call { callee := .builtin .append, args := #[s, x], argTypes := #[t, t] })
    (hinfo : (P.info? 9).map (fun i => (i.zero, i.size, i.bytes)) = some (some (.string ByteArray.empty), 1, 16)) (ht : P.underlying t = some (.slice 9))
    (base : Nat) (v : Value) (xs : List (List UInt8)) (hs : a.eval s = v) (hown : OwnS w base v xs) (g : Nat) (y : List UInt8) (hx : a.eval x = .slice (some ⟨g, 0, none⟩) 1 1) (hy : w.cell? ⟨g, 0, none⟩ = some (.string ⟨y.toArray⟩))
    (hlen : xs.length ≤ 1000000) (hbase : base ≤ w.heap.size)
    (h : ∀ v' w', OwnS w' base v' (xs ++ [y]) → w.grownBy w' v.ownBlock → (v'.ownBlock = v.ownBlock ∨ v'.ownBlock = some w.heap.size) → Below base w w' → wpList P ops Q rest (a.put o.dst v') w') : wpList P ops Q (o :: rest) a w := by
  obtain ⟨i, hi, hz, hsize, hby⟩ := info_parts hinfo
  refine wpList_append_own_at _ hgd s x t ho base 9 i (.string ByteArray.empty) 1 16 ht hi hz hsize hby rfl (by omega) v xs.length (xs.map strV) hs hown ⟨g, 0, none⟩ 1 1 [strV y] hx rfl ?_ ?_ (by simp only [maxLen]; omega) (by omega) hbase ?_
  · intro j u hu
    match j, hu with
    | 0, hu => simp at hu; subst hu; simpa [Addr.add, strV] using hy
  · intro u hu
    simp at hu
    subst hu
    rfl
  · intro v' w' h1 h2 _ h4
    refine h v' w' ?_ h2 h4 ((Below.refl _ _).grown h2 hbase (fun k hk => (hown.lt k hk).1))
    unfold OwnS
    rw [List.length_append, List.map_append]
    exact h1
end

theorem OwnS.nil (w : World) (base : Nat) : OwnS w base (.slice none 0 0) [] := ⟨rfl, .inl ⟨rfl, rfl⟩⟩
theorem OwnS.below {w w' : World} {base B : Nat} {v : Value} {xs : List (List UInt8)} (h : OwnS w base v xs) (hb : Below B w w') (hB : w.heap.size ≤ B) : OwnS w' base v xs := by
  refine ⟨h.1, ?_⟩
  rcases h.2 with h0 | ⟨g, cap, cur, hv, hb', hh, r⟩
  · exact .inl h0
  · exact .inr ⟨g, cap, cur, hv, hb', (hb.block g (Nat.lt_of_lt_of_le (Blk.lt hh) hB)).trans hh, r⟩

theorem inter_nil : ∀ xs : List (List UInt8), List.intercalate [] xs = xs.flatten
  | [] => rfl
  | [x] => by simp [List.intercalate]
  | x :: y :: xs => by
    have := inter_nil (y :: xs)
    unfold List.intercalate at this ⊢
    rw [List.intersperse_cons_cons, List.flatten_cons, List.flatten_cons, this]
    simp
theorem cat_mk (a b : List UInt8) : (⟨a.toArray⟩ : ByteArray) ++ (⟨b.toArray⟩ : ByteArray) = ⟨(a ++ b).toArray⟩ := by
  apply ByteArray.ext
  rw [ByteArray.data_append]
  simp
theorem bthen' {B : Nat} {a b c : World} (h : Below B a b) (k : Below B b c) : Below B a c := h.trans k

set_option maxRecDepth 100000 in
set_option maxHeartbeats 4000000 in
theorem ntext_any (A : Option Addr) (n c : Nat) (l : List Nat) (w : World) (h : SL w A n c l) (hn : n ≤ 256) (h0 : 0 < val l) (htab : Tens w) :
    Calls Tryz.prog 43 #[.slice A n c] w fun e w' => e = .returned (.tuple #[.string ⟨(decDigits (val l)).toArray⟩, .int .i64 0]) ∧ Below w.heap.size w w' := by
  have h1 := h.alloc (.cells #[.slice A n c] 23)
  have hT := h1.trim
  have hTab := Lib.hid htab
  clear htab
  have hlen : (digs (val l)).length ≤ n := by rw [← h.len]; exact digs_val_len l h.lt
  have hlp : (digs (val l)).length ≠ 0 := by rw [digs_pos _ h0]; simp
  have HDL := Lib.hid (dec_len_limbs l h.lt)
  have HLL := Lib.hid h.len
  have h256 : ¬ 256 < n := by omega
  obtain ⟨v, hv⟩ : ∃ v, v = val l := ⟨_, rfl⟩
  rw [← hv] at hT hlen hlp h0 ⊢
  have HV := Lib.hid hv
  clear hv
  generalize hN : (digs v).length = N at *
  have HN := Lib.hid hN
  clear hN
  have hN0 : ((N : Int) == 0) = false := by simp; omega
  go_enter Tryz.func43, Tryz.ntmps43
  go_wp2_with fail
  refine (long_one _ A n c _ (by simp)).mono ?_
  rintro e w' ⟨rfl, rfl⟩
  go_wp2_with fail
  refine (trim_any A n c l _ h1).mono ?_
  rintro e w' ⟨rfl, rfl⟩
  rw [← HV.out, HN.out]
  go_wp2_with fail
  have hb1 := ballo w (.cells #[.slice A n c] 23)
  generalize w.alloc (.cells #[.slice A n c] 23) = W1 at *
  have HTx : Hid (Txt v v []) := ⟨fun _ => by simp, fun h => absurd h (by omega), by simp⟩
  have hbd : (decDigits v).length ≤ 8193 := by
    have e := HDL.out
    rw [← HV.out, HLL.out] at e
    omega
  have HBD := Lib.hid hbd
  clear hbd HDL HLL
  go_loopg [0, 4] v (fun u a p wr => ∃ (A' : Option Addr) (n' c' : Nat) (P : List (List UInt8)), a = .slice A' n' c' ∧ SL wr A' n' c' (digs u) ∧ n' ≤ 256 ∧ Hid (Txt v u P) ∧ OwnS wr w.heap.size p P ∧ Hid (∀ g, p.ownBlock = some g → Off A' n' g) ∧ Below w.heap.size w wr)
  case atStart => exact ⟨A, N, c, [], rfl, hT, by omega, HTx, OwnS.nil _ _, (fun g hg => by cases hg), hb1⟩
  case round =>
    obtain ⟨A', n', c', P, rfl, hs, hn', HX, hown, HO, hb⟩ := hrel
    have hPl : P.length ≤ 8193 := Nat.le_trans HX.out.short HBD.out
    have hn0 : n' = 0 ↔ gk = 0 := by
      rw [← hs.len]
      constructor
      · intro h
        rcases Nat.eq_zero_or_pos gk with h' | h'
        · exact h'
        · rw [digs_pos _ h'] at h; simp at h
      · rintro rfl; rfl
    by_cases hz : gk = 0
    · subst hz
      obtain rfl : n' = 0 := hn0.2 rfl
      obtain ⟨hfl, hPne⟩ := HX.out.done rfl
      have HFL := Lib.hid hfl
      have hPp : 0 < P.length := List.length_pos_iff.2 hPne
      obtain ⟨g, cap, rfl⟩ : ∃ g cap, u4 = .slice (some ⟨g, 0, none⟩) P.length cap := by
        rcases hown.2 with ⟨_, h0⟩ | ⟨g, cap, cur, hv, _⟩
        · omega
        · exact ⟨g, cap, hv⟩
      have hcells := hown.cells (g := g) rfl
      have hg := hown.lt g rfl
      have hcap1 : P.length ≤ cap := by
        rcases hown.2 with ⟨hv, _⟩ | ⟨g', cap', cur, hv, _, _, hc, _⟩
        · cases hv
        · injection hv with _ _ e3; omega
      have hfz : ∀ j, wr.frozen? ⟨g, j, none⟩ = false := fun j => by
        rcases hown.2 with ⟨hv, _⟩ | ⟨g', cap', cur, hv, _, hh, _⟩
        · cases hv
        · injection hv with e1 _ _
          injection e1 with e1
          injection e1 with e1
          subst e1
          exact Blk.frozen hh j
      have hH : Sort.Holds encStr wr g 0 P.toArray := fun j hj => by
        have hj' : j < P.length := by simpa using hj
        refine ⟨?_, hfz _⟩
        have := hcells j (strV P[j]) (by simp [hj'])
        rw [Nat.zero_add, getElem!_pos _ j hj]
        rw [add_mk] at this
        simpa [strV, encStr] using this
      have HH := Lib.hid hH
      clear hcells hfz hfl hPne hn0 HX HO hs
      have hg1 := hg.1
      have hg2 := hg.2
      clear hg
      go_wp2_with fail
      refine (Tryz.slices_Reverse_string g 0 cap P _ HH.out (by omega)).mono ?_
      rintro e w' ⟨rfl, q, rfl⟩
      have hbp := below_putRow encStr hb g 0 q P.reverse.toArray hg1
      have hH2 := Sort.holds_putRow encStr (Sort.ahead wr q) g 0 P.toArray P.reverse.toArray HH.out (by simp)
      have hsz : g < (Sort.putRow encStr (Sort.ahead wr q) g 0 P.reverse.toArray).heap.size := by simpa [Sort.putRow, Sort.mapBlock, Sort.ahead] using hg2
      have HH2 := Lib.hid hH2
      clear hH2 HH
      generalize Sort.putRow encStr (Sort.ahead wr q) g 0 P.reverse.toArray = W5 at *
      have hxl : (P.reverse.map (fun x => (⟨x.toArray⟩ : ByteArray))).length = P.length := by simp
      have hjn : Lib.join ((P.reverse.map (fun x => (⟨x.toArray⟩ : ByteArray))).map (·.data.toList)) (⟨#[]⟩ : ByteArray).data.toList = decDigits v := by
        rw [HFL.out]
        unfold Lib.join
        rw [List.map_map]
        have : ((fun x : ByteArray => x.data.toList) ∘ fun x => (⟨x.toArray⟩ : ByteArray)) = (id : List UInt8 → List UInt8) := by funext x; simp
        rw [this, List.map_id]
        exact inter_nil _
      have HXL := Lib.hid hxl
      have HJN := Lib.hid hjn
      clear hxl hjn
      go_wp2_with fail
      have hj := Tryz.strings_Join g 0 cap (P.reverse.map (fun x => (⟨x.toArray⟩ : ByteArray))) ⟨#[]⟩ W5 (fun j x hx => by
        rw [List.getElem?_map] at hx
        cases hx' : P.reverse[j]? with
        | none => rw [hx'] at hx; cases hx
        | some y =>
          rw [hx'] at hx
          simp at hx
          subst hx
          have hj : j < P.reverse.toArray.size := by
            rcases Nat.lt_or_ge j P.reverse.length with h' | h'
            · simpa using h'
            · rw [List.getElem?_eq_none h'] at hx'; cases hx'
          have := (HH2.out j hj).1
          rw [this, getElem!_pos _ j hj]
          have : P.reverse.toArray[j] = y := by
            have h2 := List.getElem?_eq_some_iff.1 hx'
            obtain ⟨h3, h4⟩ := h2
            simpa using h4
          rw [this]) hsz (by rw [HXL.out]; omega) (by rw [HXL.out]; exact hcap1) (by rw [HJN.out]; have := HBD.out; omega)
      rw [HXL.out, HJN.out] at hj
      refine hj.mono ?_
      rintro e w6 ⟨rfl, hb6⟩
      clear hj
      go_wp2_with fail
      go_ret2
      exact ⟨rfl, bthen' hbp (hb6.mono (by have := hbp.size; omega))⟩
    · have hn1 : ¬ n' = 0 := fun h => hz (hn0.1 h)
      have hd1 : decide (0 < (n' : Int)) = true := by simp; omega
      clear hn0
      go_wp2_with fail
      refine (short_any A' n' c' 1000000000 (digs gk) _ hs (by omega) (by omega) (by omega)).mono ?_
      rw [val_digs]
      rintro e w2 ⟨A2, n2, c2, l2, rfl, hs2, hv2, hn2, hf2, hb2⟩
      have hrlt : gk % 1000000000 < 1000000000 := Nat.mod_lt _ (by omega)
      generalize hr : gk % 1000000000 = r at *
      generalize hq : gk / 1000000000 = q at *
      have HV2 := Lib.hid hv2
      have HQ := Lib.hid hq
      have HR := Lib.hid hr
      clear hv2 hq hr
      go_wp2_with fail
      refine (trim_any A2 n2 c2 l2 _ hs2).mono ?_
      rintro e w' ⟨rfl, rfl⟩
      have hs3 := hs2.trim
      have hn3 : (digs (val l2)).length ≤ n2 := by rw [← hs2.len]; exact digs_val_len l2 hs2.lt
      rw [HV2.out] at hs3 hn3 ⊢
      have hq0 : (digs q).length = 0 ↔ q = 0 := by
        constructor
        · intro h
          rcases Nat.eq_zero_or_pos q with h' | h'
          · exact h'
          · rw [digs_pos _ h'] at h; simp at h
        · intro h; rw [h]; rfl
      have HQ0 := Lib.hid hq0
      clear hq0
      generalize hM : (digs q).length = M at *
      clear hM
      go_wp2_with fail
      refine (formatUint_any r _ (by omega) ((hTab.out.next hb).next hb2)).mono ?_
      rintro e w3 ⟨rfl, hb3⟩
      have hdl : (decDigits r).length ≤ 9 := dec_len (k := 8) (by omega)
      have hdp := dec_pos r
      have hb23 := bnext hb2 hb3
      have hown3 := hown.below hb23 (Nat.le_refl _)
      have hs4 := hs3.below hb3
      have HO3 : Hid (∀ g, u4.ownBlock = some g → Off A2 M g) := fun g hg => Off.fresh (hf2.less hn3) (hown.lt g hg).2
      have hbw3 := bnext hb hb23
      clear hb2 hb3 hs3 hs2 hf2
      by_cases hM0 : M = 0
      · subst hM0
        have hq0 := HQ0.out.1 rfl
        have HTN : Hid (Txt v q (P ++ [decDigits r])) := by
          unfold Hid
          rw [← HQ.out, ← HR.out]
          exact HX.out.last (by omega) (by rw [HQ.out]; exact hq0)
        have hownZ := hown3
        have hbwZ := hbw3
        have hsZ := hs4
        clear hq0 hown3 hbw3 hs4
        go_wp2_with (at_builtin; refine wpList_appS rfl (.tmp 38) (.tmp 40) _ rfl str_info Tryz.underlying54 w.heap.size _ P rfl (hownZ.below (ballo w3 (.cells #[.string ⟨(decDigits r).toArray⟩] 9)) (Nat.le_refl _)) w3.heap.size (decDigits r) rfl (by simp) (by omega) (by have := hbwZ.size; simp; omega) ?_; intro v' w5 hown5 hgrow hwhere hb5)
        have hbz := ballo w3 (.cells #[.string ⟨(decDigits r).toArray⟩] 9)
        have hs5 := (hsZ.below hbz).grown hgrow HO3.out
        have HO5 : Hid (∀ g, v'.ownBlock = some g → Off A2 0 g) := fun g hg => by
          rcases hwhere with e | e
          · exact HO3.out g (e.symm.trans hg)
          · rw [e] at hg
            injection hg with hg
            exact Off.old (hsZ.below hbz) (Nat.le_of_eq hg)
        have hbw5 : Below w.heap.size w w5 := bthen' (bnext hbwZ hbz) hb5
        go_wp2_with fail
        go_roundg q
        case measure => have := HQ.out; omega
        case rel => exact ⟨A2, 0, c2, P ++ [decDigits r], rfl, hs5, by omega, HTN, hown5, HO5, hbw5⟩
      · have hd2 : decide (0 < (M : Int)) = true := by simp; omega
        have hq0 : 0 < q := by
          rcases Nat.eq_zero_or_pos q with h' | h'
          · exact absurd (HQ0.out.2 h') hM0
          · exact h'
        have HTN : Hid (Txt v q (P ++ [repeatL [48] (9 - (decDigits r).length) ++ decDigits r])) := by
          unfold Hid
          rw [← HQ.out, ← HR.out]
          exact HX.out.next (by rw [HQ.out]; exact hq0)
        have e9 : (9 : Int) - ((decDigits r).length : Int) = ((9 - (decDigits r).length : Nat) : Int) := by omega
        have HE9 := Lib.hid e9
        clear e9 hq0
        go_wp2_with fail
        rw [HE9.out]
        refine (Tryz.strings_Repeat ⟨#[48]⟩ (9 - (decDigits r).length) _ (by omega) (by show 1 * _ ≤ _; omega)).mono ?_
        rintro e w4 ⟨rfl, hb4⟩
        have hownZ := hown3.below hb4 (Nat.le_refl _)
        have hbwZ := bnext hbw3 hb4
        have hsZ := hs4.below hb4
        have hrl : Hid ((⟨#[48]⟩ : ByteArray).data.toList = [48]) := rfl
        rw [hrl.out]
        have hRl : (repeatL [48] (9 - (decDigits r).length)).length ≤ 9 := by
          have : ∀ k, (repeatL [48] k).length = k := fun k => by
            induction k with
            | zero => rfl
            | succ k ih => rw [repeatL, List.length_append, ih]; simp; omega
          rw [this]; omega
        have hcat := cat_mk (repeatL [48] (9 - (decDigits r).length)) (decDigits r)
        clear hown3 hbw3 hs4 hb4
        go_wp2_with (at_builtin; refine wpList_appS rfl (.tmp 38) (.tmp 40) _ rfl str_info Tryz.underlying54 w.heap.size _ P rfl (hownZ.below (ballo w4 (.cells #[.string ⟨(repeatL [48] (9 - (decDigits r).length) ++ decDigits r).toArray⟩] 9)) (Nat.le_refl _)) w4.heap.size (repeatL [48] (9 - (decDigits r).length) ++ decDigits r) rfl (by simp) (by omega) (by have := hbwZ.size; simp; omega) ?_; intro v' w5 hown5 hgrow hwhere hb5)
        have hbz := ballo w4 (.cells #[.string ⟨(repeatL [48] (9 - (decDigits r).length) ++ decDigits r).toArray⟩] 9)
        have hs5 := (hsZ.below hbz).grown hgrow HO3.out
        have HO5 : Hid (∀ g, v'.ownBlock = some g → Off A2 M g) := fun g hg => by
          rcases hwhere with e | e
          · exact HO3.out g (e.symm.trans hg)
          · rw [e] at hg
            injection hg with hg
            exact Off.old (hsZ.below hbz) (Nat.le_of_eq hg)
        have hbw5 : Below w.heap.size w w5 := bthen' (bnext hbwZ hbz) hb5
        go_wp2_with fail
        go_roundg q
        case measure => have := HQ.out; omega
        case rel => exact ⟨A2, M, c2, P ++ [repeatL [48] (9 - (decDigits r).length) ++ decDigits r], rfl, hs5, by omega, HTN, hown5, HO5, hbw5⟩

end Go.Proofs.YtekajoifgdpmlaaGreatDoor

/-! dyadic.Text: what the call computes. -/
namespace Go.Proofs.YtekajoifgdpmlaaGreatDoor
open Go.RowKit Pl Go.Shelf Go.Lib

/-- The text of a number. -/
def textD (d : Dy) : List UInt8 := if d.l = [] then [48] else (if d.neg then [45] else []) ++ (decDigits (val d.l) ++ [112] ++ itoa d.e)
theorem strCells_mk (l : List UInt8) : Lib.strCells (⟨l.toArray⟩ : ByteArray) = Lib.byteCells l := by
  simp [Lib.strCells, Lib.byteCells]
theorem itoa_len {x : Int} (h1 : -16384 ≤ x) (h2 : x ≤ 16384) : (itoa x).length ≤ 6 := by
  unfold itoa
  split
  · have := dec_len (k := 4) (u := x.natAbs) (by omega)
    simp
    omega
  · have := dec_len (k := 4) (u := x.toNat) (by omega)
    omega

theorem builderAt_next {T e : TypeId} {B b : Nat} {p : Value} {bs : List Value} {W W' : World} (h : Lib.BuilderAt T e B b p bs W) (hb : Below W.heap.size W W') : Lib.BuilderAt T e B b p bs W' := by
  obtain ⟨h1, v, hk, ho, hne⟩ := h
  refine ⟨h1, v, (hb.block b (Blk.lt hk)).trans hk, ⟨ho.1, ?_⟩, hne⟩
  rcases ho.2 with h0 | ⟨g, cap, cur, hv, hb', hh, r⟩
  · exact .inl h0
  · exact .inr ⟨g, cap, cur, hv, hb', (hb.block g (Blk.lt hh)).trans hh, r⟩
theorem isBuilder_next {T e : TypeId} {B b : Nat} {bs : List Value} {W W' : World} (h : Lib.IsBuilder T e B b bs W) (hb : Below W.heap.size W W') : Lib.IsBuilder T e B b bs W' :=
  h.imp (fun h => builderAt_next h hb) (fun h => builderAt_next h hb)

set_option maxRecDepth 100000 in
set_option maxHeartbeats 4000000 in
theorem dtext_ok (neg : Bool) (A : Option Addr) (n c : Nat) (l : List Nat) (x : Int) (w : World) (h : SL w A n c l) (hv : vld ⟨neg, l, x⟩ = true) (htab : Tens w) :
    Calls Tryz.prog 13 #[.agg #[.bool neg, .slice A n c, .int .i64 x]] w fun e w' => e = .returned (.tuple #[.string ⟨(textD ⟨neg, l, x⟩).toArray⟩, .int .i64 0]) ∧ Below w.heap.size w w' := by
  have hbw := ballo w (.cells #[.bool neg, .slice A n c, .int .i64 x] 25)
  have vd := Var.new w neg x h
  have hn : n ≤ 256 := by rw [← h.len]; exact vld_short hv
  have hxb := vld_exp hv
  dsimp only at hxb
  have HV := Lib.hid hv
  have HT := Lib.hid htab
  have HLim := Lib.hid h.lt
  clear hv htab
  by_cases h0 : n = 0
  · have hl := h.empty h0
    subst h0
    have HR : Hid (textD ⟨neg, l, x⟩ = [48]) := by unfold Hid textD; rw [if_pos hl]
    rw [HR.out]
    clear hl
    go_enter Tryz.func13, Tryz.ntmps13
    go_wp2_with fail
    generalize w.alloc (.cells #[.bool neg, .slice A 0 c, .int .i64 x] 25) = W0 at *
    refine (valid_any neg A 0 c l x _ vd.sl (by omega)).mono ?_
    rintro e w1 ⟨rfl, hb1⟩
    rw [HV.out]
    obtain ⟨s0, s1, s2⟩ := (vd.next hb1).cells
    go_wp2_with fail
    go_ret2
    exact ⟨rfl, bnext hbw hb1⟩
  · have h0' : ((n : Int) == 0) = false := by simp; omega
    have hlne := (ne_nil_iff h).2 h0
    have hbd := vld_bounds HV.out hlne
    have hvp : 0 < val l := by have := hbd.2.2.1; dsimp only at this; omega
    have HR : Hid (textD ⟨neg, l, x⟩ = (if neg then [45] else []) ++ (decDigits (val l) ++ [112] ++ itoa x)) := by unfold Hid textD; rw [if_neg hlne]
    have hil := itoa_len hxb.1 hxb.2
    have hdl : (decDigits (val l)).length ≤ 8193 := by
      have := dec_len_limbs l HLim.out
      rw [h.len] at this
      omega
    generalize hS : textD ⟨neg, l, x⟩ = S at *
    clear hS hlne hbd
    go_enter Tryz.func13, Tryz.ntmps13
    go_wp2_with fail
    generalize w.alloc (.cells #[.bool neg, .slice A n c, .int .i64 x] 25) = W0 at *
    refine (valid_any neg A n c l x _ vd.sl (by omega)).mono ?_
    rintro e w1 ⟨rfl, hb1⟩
    rw [HV.out]
    replace vd := vd.next hb1
    replace hbw := bnext hbw hb1
    clear hb1
    obtain ⟨s0, s1, s2⟩ := vd.cells
    go_wp2_with fail
    refine (ntext_any A n c l _ vd.sl hn hvp (HT.out.next hbw)).mono ?_
    rintro e w2 ⟨rfl, hb2⟩
    replace vd := vd.next hb2
    replace hbw := bnext hbw hb2
    clear hb2 s0 s1 s2
    generalize hds : decDigits (val l) = ds at *
    have HDS := Lib.hid hds
    clear hds
    have hB : Lib.IsBuilder 82 5 w2.heap.size w2.heap.size [] (w2.alloc (.cells #[.pointer none, .slice none 0 0] 82)) :=
      .inl ⟨Nat.le_refl _, .slice none 0 0, Blk.new _ _ _, ⟨rfl, .inl ⟨rfl, rfl⟩⟩, by simp [Value.ownBlock]⟩
    have hba := ballo w2 (.cells #[.pointer none, .slice none 0 0] 82)
    have hgd : w.heap.size < w2.heap.size := vd.lt
    replace vd := vd.next hba
    replace hbw := bnext hbw hba
    have hsz2 : w2.heap.size + 1 ≤ (w2.alloc (.cells #[.pointer none, .slice none 0 0] 82)).heap.size := by simp
    clear hba
    obtain ⟨s0, s1, s2⟩ := vd.cells
    have HB := Lib.hid hB
    clear hB
    cases neg
    · go_wp2_with fail
      generalize w2.alloc (.cells #[.pointer none, .slice none 0 0] 82) = W2 at *
      generalize w2.heap.size = gb at *
      refine (itoa_any x _ (by omega) (by omega) (HT.out.next hbw)).mono ?_
      rintro e w3 ⟨rfl, hb3⟩
      have HB3 : Hid (Lib.IsBuilder 82 5 gb gb [] w3) := isBuilder_next HB.out hb3
      replace hbw := bnext hbw hb3
      have hsz3 : gb + 1 ≤ w3.heap.size := Nat.le_trans hsz2 hb3.size
      clear hb3 s0 s1 s2 HB hsz2
      have hc1 := cat_mk ds [112]
      have hc2 := cat_mk (ds ++ [112]) (itoa x)
      go_wp2_with fail
      refine (writeString_any gb gb [] ⟨(ds ++ 112 :: itoa x).toArray⟩ _ HB3.out (by simp [ByteArray.size]; omega) (by omega)).mono ?_
      rintro e w4 ⟨rfl, hB4, hb4⟩
      have HB4 : Hid (Lib.IsBuilder 82 5 gb gb (Lib.byteCells ((ds ++ 112 :: itoa x))) w4) := by
        refine .inr ?_
        rw [strCells_mk] at hB4
        exact hB4
      have hsz4 : gb + 1 ≤ w4.heap.size := Nat.le_trans hsz3 hb4.size
      replace hbw := hbw.trans (hb4.mono (by omega))
      clear hB4 hb4 hc1 hc2
      go_wp2_with fail
      refine (Tryz.Builder_String_any gb gb ((ds ++ 112 :: itoa x)) _ HB4.out (by omega)).mono ?_
      rintro e w5 ⟨rfl, hb5⟩
      go_wp2_with fail
      go_ret2
      refine ⟨?_, hbw.trans (hb5.mono (by omega))⟩
      rw [HR.out]
      simp
    · go_wp2_with fail
      generalize w2.alloc (.cells #[.pointer none, .slice none 0 0] 82) = W2 at *
      generalize w2.heap.size = gb at *
      refine (writeByte_any gb gb [] 45 _ HB.out (by simp) (by omega)).mono ?_
      rintro e w3 ⟨rfl, hB3, hb3⟩
      have k3 := vd.blk.below hb3 (by omega)
      have HB2 : Hid (Lib.IsBuilder 82 5 gb gb [.int .u8 45] w3) := .inr hB3
      replace hbw := hbw.trans (hb3.mono (by omega))
      have hsz5 : gb + 1 ≤ w3.heap.size := Nat.le_trans hsz2 hb3.size
      clear hB3 hb3 s0 s1 s2 HB hsz2
      obtain ⟨s0, s1, s2⟩ := k3.cells3
      go_wp2_with fail
      refine (itoa_any x _ (by omega) (by omega) (HT.out.next hbw)).mono ?_
      rintro e w6 ⟨rfl, hb6⟩
      have HB3 : Hid (Lib.IsBuilder 82 5 gb gb [.int .u8 45] w6) := isBuilder_next HB2.out hb6
      replace hbw := bnext hbw hb6
      have hsz3 : gb + 1 ≤ w6.heap.size := Nat.le_trans hsz5 hb6.size
      clear hb6 s0 s1 s2 HB2 hsz5 k3
      have hc1 := cat_mk ds [112]
      have hc2 := cat_mk (ds ++ [112]) (itoa x)
      go_wp2_with fail
      refine (writeString_any gb gb [.int .u8 45] ⟨(ds ++ 112 :: itoa x).toArray⟩ _ HB3.out (by simp [ByteArray.size]; omega) (by omega)).mono ?_
      rintro e w4 ⟨rfl, hB4, hb4⟩
      have HB4 : Hid (Lib.IsBuilder 82 5 gb gb (Lib.byteCells (45 :: (ds ++ 112 :: itoa x))) w4) := by
        refine .inr ?_
        rw [strCells_mk] at hB4
        exact hB4
      have hsz4 : gb + 1 ≤ w4.heap.size := Nat.le_trans hsz3 hb4.size
      replace hbw := hbw.trans (hb4.mono (by omega))
      clear hB4 hb4 hc1 hc2
      go_wp2_with fail
      refine (Tryz.Builder_String_any gb gb (45 :: (ds ++ 112 :: itoa x)) _ HB4.out (by omega)).mono ?_
      rintro e w5 ⟨rfl, hb5⟩
      go_wp2_with fail
      go_ret2
      refine ⟨?_, hbw.trans (hb5.mono (by omega))⟩
      rw [HR.out]
      simp

end Go.Proofs.YtekajoifgdpmlaaGreatDoor

/-! The reference: small, Decimal, integer, Text: what each call computes. -/
namespace Go.Proofs.YtekajoifgdpmlaaGreatDoor
open Go.RowKit Pl Go.Shelf
open Go.Lib (decDigits itoa)

set_option maxHeartbeats 2000000 in
theorem rsmall_any (A : Option Addr) (n c : Nat) (l : List Nat) (w : World) (h : SL w A n c l) (hn : n ≤ 100000) :
    Calls Tryz.prog 188 #[.slice A n c, .int .u64 10] w fun e w' => ∃ A1 n1 c1, e = .returned (.tuple #[.slice A1 n1 c1, .int .u64 ((val l % 10 : Nat) : Int)]) ∧ SL w' A1 n1 c1 (digs (val l / 10)) ∧ Below w.heap.size w w' := by
  have hcap := h.cap
  have HL := Lib.hid h.len
  go_enter Tryz.func188, Tryz.ntmps188
  go_wp2_with (at_make; refine wpList_mk rfl (.tmp 11) (.tmp 11) _ 60 rfl u32_info Tryz.underlying23 .i64 .i64 _ _ n n rfl rfl (by omega) (by omega) (Nat.le_refl _) (by omega) ?_; intro w1 hr1 hb1 hs1)
  go_loopw [7, 8] (fun rv i wr => ∃ j r : Nat, j ≤ n ∧ i = .int .i64 ((j : Int) - 1) ∧ rv = .int .u64 (r : Int) ∧ r < 10 ∧ Hid (r = val (l.drop j) % 10) ∧ Row wr w.heap.size 60 (downN n j (val (l.drop j) / 10)) ∧ Below w.heap.size w wr) (fun _ i _ => (intOf i + 1).toNat)
  case atStart =>
    refine ⟨n, 0, Nat.le_refl _, rfl, rfl, by omega, ?_, ?_, hb1⟩
    · unfold Hid; rw [List.drop_of_length_le (by rw [HL.out]; omega)]; rfl
    · rw [downN_all]; exact hr1
  case round =>
    obtain ⟨j, r, hj, rfl, rfl, hrd, HR, hr, hb⟩ := hrel
    by_cases h0 : j = 0
    · subst h0
      rw [downN_zero, List.drop_zero] at hr
      have hlt := val_lt l h.lt
      rw [HL.out] at hlt
      have hsl := hr.sl (limbs_digN _ _) (digN_length _ _) (by omega)
      have HV := Lib.hid (val_digN_of_lt (Nat.lt_of_le_of_lt (Nat.div_le_self (val l) 10) hlt))
      have hR := HR.out
      rw [List.drop_zero] at hR
      have HR2 := Lib.hid hR
      clear hR hlt HR
      generalize digN n (val l / 10) = ll at *
      go_wp2_with fail
      refine (rtrim_any _ n n ll _ hsl (by omega)).mono ?_
      rw [HV.out]
      rintro e w3 ⟨A3, n3, c3, rfl, hs3, hf3, hb3⟩
      go_wp2_with fail
      go_ret2
      exact ⟨A3, n3, c3, by rw [HR2.out]; rfl, hs3, bthen hb hb3 (Nat.le_refl _)⟩
    · obtain ⟨t, rfl⟩ : ∃ t, j = t + 1 := ⟨j - 1, by omega⟩
      rw [show ((t + 1 : Nat) : Int) - 1 = (t : Int) from by omega]
      obtain ⟨b, off, x, rfl, hxb, hx, hcell, hxlt⟩ := (h.below hb).get (k := t) (by omega)
      obtain ⟨q1, q2, q3⟩ := short_step x (val (l.drop (t + 1))) 10 (by omega) hxlt
      rw [← HR.out, ← val_drop_cons l t x hx] at q1 q2
      rw [← HR.out] at q3
      have Q1 := Lib.hid q1
      have Q2 := Lib.hid q2
      clear hx q1 q2
      have hoc := hr.cell (downN_get n t _)
      have hof := Blk.frozen hr t
      have hor : bits .or .u64 ((r : Int) * 4294967296) (x : Int) = ((r * 4294967296 + x : Nat) : Int) := by
        have := (or_low64 x r 32 hxlt (by omega)).1
        rw [show (2 : Int) ^ 32 = 4294967296 from rfl, show 2 ^ 32 * r + x = r * 4294967296 + x by omega] at this
        exact this
      obtain ⟨s, hs⟩ : ∃ s, s = r * 4294967296 + x := ⟨_, rfl⟩
      rw [← hs] at q3 hor
      have hsb : s < 42949672960 := by omega
      have HS := Lib.hid hs
      clear hs
      go_wp2_with fail
      go_roundw
      case rel =>
        have hrow := Row.set_ hr t (s / 10)
        rw [downN_step n t (s / 10) _ (by omega) q3] at hrow
        have e1 := Q1.out
        rw [← HS.out] at e1
        rw [← e1] at hrow
        refine ⟨t, s % 10, by omega, rfl, by go_num, by omega, ?_, ?_, hb.setCell (p := ⟨w.heap.size, t, none⟩) (Nat.le_refl _) _⟩
        · unfold Hid; rw [Q2.out, ← HS.out]
        · have e2 : (s : Int) / 10 % 4294967296 = ((s / 10 : Nat) : Int) := by omega
          first | exact hrow | (rw [e2]; exact hrow)
      case measure => simp [intOf]

/-- What is left of v, and the text so far. -/
structure Dcm (v u : Nat) (s : List UInt8) : Prop where
  more : 0 < u → decDigits v = decDigits u ++ s
  done : u = 0 → 0 < v → decDigits v = s
  zero : v = 0 → u = 0 ∧ s = []
theorem Dcm.step {v u : Nat} {s : List UInt8} (h : Dcm v u s) (hu : 0 < u) : Dcm v (u / 10) (UInt8.ofNat (48 + u % 10) :: s) := by
  refine ⟨fun h' => ?_, fun h' _ => ?_, fun h' => absurd (h.zero h').1 (by omega)⟩
  · rw [h.more hu, dec_big (by omega), List.append_assoc]; rfl
  · rw [h.more hu, dec_small (by omega), show u % 10 = u by omega]; rfl

theorem enc_digit {r : Nat} (h : r < 10) : Utf8.encode (48 + (r : Int)) = (⟨#[UInt8.ofNat (48 + r)]⟩ : ByteArray) := by
  have : r = 0 ∨ r = 1 ∨ r = 2 ∨ r = 3 ∨ r = 4 ∨ r = 5 ∨ r = 6 ∨ r = 7 ∨ r = 8 ∨ r = 9 := by omega
  rcases this with rfl | rfl | rfl | rfl | rfl | rfl | rfl | rfl | rfl | rfl <;> rfl

theorem enc_cat {r : Nat} (h : r < 10) (s : List UInt8) : Utf8.encode (48 + (r : Int)) ++ (⟨s.toArray⟩ : ByteArray) = ⟨(UInt8.ofNat (48 + r) :: s).toArray⟩ := by
  rw [enc_digit h]
  exact cat_mk [UInt8.ofNat (48 + r)] s

set_option maxRecDepth 100000 in
set_option maxHeartbeats 2000000 in
theorem rdecimal_any (A : Option Addr) (n c : Nat) (l : List Nat) (w : World) (h : SL w A n c l) (hn : n ≤ 100000) :
    Calls Tryz.prog 142 #[.slice A n c] w fun e w' => e = .returned (.string ⟨(decDigits (val l)).toArray⟩) ∧ Below w.heap.size w w' := by
  obtain ⟨v, hv⟩ : ∃ v, v = val l := ⟨_, rfl⟩
  have hlen : (digs (val l)).length ≤ n := by rw [← h.len]; exact digs_val_len l h.lt
  have hdl := dec_len_limbs l h.lt
  rw [h.len] at hdl
  rw [← hv] at hlen hdl ⊢
  have HDL : Hid ((decDigits v).length ≤ 3200001) := by unfold Hid; omega
  have HV := Lib.hid hv
  clear hv hdl
  go_enter Tryz.func142, Tryz.ntmps142
  go_wp2_with fail
  refine (rtrim_any A n c l _ h (by omega)).mono ?_
  rw [← HV.out]
  rintro e w1 ⟨A1, n1, c1, rfl, hs1, hf1, hb1⟩
  have hn1 : n1 ≤ 100000 := by rw [← hs1.len]; omega
  clear hf1 hlen
  go_wp2_with fail
  have HD : Hid (Dcm v v []) := ⟨fun _ => by simp, fun h1 h2 => absurd h2 (by omega), fun h => ⟨h, rfl⟩⟩
  go_loopg [0, 3] v (fun u a p wr => ∃ (A' : Option Addr) (n' c' : Nat) (s : List UInt8), a = .slice A' n' c' ∧ p = .string ⟨s.toArray⟩ ∧ SL wr A' n' c' (digs u) ∧ n' ≤ 100000 ∧ Hid (Dcm v u s) ∧ Below w.heap.size w wr)
  case atStart => exact ⟨A1, n1, c1, [], rfl, rfl, hs1, hn1, HD, hb1⟩
  case round =>
    obtain ⟨A', n', c', s, rfl, rfl, hs, hn', HX, hb⟩ := hrel
    have hn0 : n' = 0 ↔ gk = 0 := by
      rw [← hs.len]
      constructor
      · intro h
        rcases Nat.eq_zero_or_pos gk with h' | h'
        · exact h'
        · rw [digs_pos _ h'] at h; simp at h
      · rintro rfl; rfl
    by_cases hz : gk = 0
    · subst hz
      obtain rfl : n' = 0 := hn0.2 rfl
      by_cases hv0 : v = 0
      · obtain ⟨_, rfl⟩ := HX.out.zero hv0
        have HE : Hid (decDigits v = [48]) := by unfold Hid; rw [hv0]; exact dec_small (by omega)
        clear hn0 HX HD hv0
        go_wp2_with fail
        go_ret
        exact ⟨by rw [HE.out]; rfl, hb⟩
      · have hd := HX.out.done rfl (by omega)
        have hne : s ≠ [] := by
          intro h
          have := dec_pos v
          rw [hd, h] at this
          simp at this
        have HE := Lib.hid hd
        have hem : s.isEmpty = false := by simpa using hne
        clear hd hn0 HX HD
        go_wp2_with fail
        go_ret
        exact ⟨by rw [HE.out]; rfl, hb⟩
    · have hn1' : ¬ n' = 0 := fun h => hz (hn0.1 h)
      have hd1 : decide (0 < (n' : Int)) = true := by simp; omega
      clear hn0
      go_wp2_with fail
      refine (rsmall_any A' n' c' (digs gk) _ hs hn').mono ?_
      rw [val_digs]
      rintro e w2 ⟨A2, n2, c2, rfl, hs2, hb2⟩
      have HS := Lib.hid (HX.out.step (by omega))
      have hr10 : gk % 10 < 10 := Nat.mod_lt _ (by omega)
      have hn2 : n2 ≤ 100000 := by
        rw [← hs2.len]
        have : (digs (gk / 10)).length ≤ n' := digs_length_lt _ _ (by
          have := lt_digs_length gk
          rw [hs.len] at this
          exact Nat.lt_of_le_of_lt (Nat.div_le_self _ _) this)
        omega
      generalize hr : gk % 10 = r at *
      generalize hq : gk / 10 = q at *
      have HQ := Lib.hid hq
      clear hr hq
      have hsz : (Utf8.encode (48 + (r : Int))).size = 1 := by rw [enc_digit hr10]; rfl
      have hsl : s.length ≤ 3200001 := by
        have h1 := HX.out.more (by omega)
        have h2 := HDL.out
        rw [h1, List.length_append] at h2
        omega
      clear HX
      go_wp2_with fail
      go_roundg q
      case measure => have := HQ.out; omega
      case rel => exact ⟨A2, n2, c2, _, rfl, by rw [enc_cat hr10 s], hs2, hn2, HS, bthen hb hb2 (Nat.le_refl _)⟩

set_option maxHeartbeats 1000000 in
theorem rinteger_any (x : Int) (w : World) (h1 : -16384 ≤ x) (h2 : x ≤ 16384) :
    Calls Tryz.prog 189 #[.int .i64 x] w fun e w' => e = .returned (.string ⟨(itoa x).toArray⟩) ∧ Below w.heap.size w w' := by
  by_cases hneg : x < 0
  · obtain ⟨k, rfl⟩ : ∃ k : Nat, x = -(k : Int) := ⟨x.natAbs, by omega⟩
    have hs := SL.oneAt w 60 (k : Int) k w.heap.size rfl (by omega) rfl
    have hI : itoa (-(k : Int)) = 45 :: decDigits k := by unfold itoa; rw [if_pos hneg]; simp
    have HI := Lib.hid hI
    clear hI
    have hz : (0 : Int) - -(k : Int) = (k : Int) := by omega
    have hdl := dec_len (k := 4) (u := k) (by omega)
    go_enter Tryz.func189, Tryz.ntmps189
    go_wp2_with fail
    refine (rdecimal_any _ 1 1 [k] _ hs (by omega)).mono ?_
    rw [val_single]
    rintro e w1 ⟨rfl, hb1⟩
    go_wp2_with fail
    go_ret
    exact ⟨by rw [HI.out]; exact congrArg (fun b : ByteArray => Ending.returned (.string b)) (cat_mk [45] (decDigits k)), bnext (ballo _ _) hb1⟩
  · obtain ⟨k, rfl⟩ := Int.eq_ofNat_of_zero_le (show 0 ≤ x by omega)
    have hs := SL.oneAt w 60 (k : Int) k w.heap.size rfl (by omega) rfl
    have HI : Hid (itoa (k : Int) = decDigits k) := by unfold Hid itoa; rw [if_neg hneg]; simp
    go_enter Tryz.func189, Tryz.ntmps189
    go_wp2_with fail
    refine (rdecimal_any _ 1 1 [k] _ hs (by omega)).mono ?_
    rw [val_single]
    rintro e w1 ⟨rfl, hb1⟩
    go_wp2_with fail
    go_ret
    exact ⟨by rw [HI.out]; rfl, bnext (ballo _ _) hb1⟩

end Go.Proofs.YtekajoifgdpmlaaGreatDoor

/-! The reference's Text: what the call computes. (Printed by gen_t8.py.) -/
namespace Go.Proofs.YtekajoifgdpmlaaGreatDoor
open Go.RowKit Pl Go.Shelf
open Go.Lib (decDigits itoa)

set_option maxRecDepth 100000 in
set_option maxHeartbeats 4000000 in
theorem rtext_any (dn : Bool) (dA : Option Addr) (ds dc : Nat) (dl : List Nat) (de : Int) (w : World) (hd : SL w dA ds dc dl) (hv : vld ⟨dn, dl, de⟩ = true) :
    Calls Tryz.prog 143 #[.agg #[.bool dn, .slice dA ds dc, .int .i64 de]] w fun e w' => e = .returned (.string ⟨(textD ⟨dn, dl, de⟩).toArray⟩) ∧ Below w.heap.size w w' := by
  have hbw := ballo w (.cells #[.bool dn, .slice dA ds dc, .int .i64 de] 25)
  have vd := Var.new w dn de hd
  have hds : ds ≤ 256 := by rw [← hd.len]; exact vld_short hv
  have hx := vld_exp hv
  dsimp only at hx
  obtain ⟨hx1, hx2⟩ := hx
  have HLim := Lib.hid hd.lt
  by_cases h0 : ds = 0
  · have hl := hd.empty h0
    subst h0
    have HR : Hid (textD ⟨dn, dl, de⟩ = [48]) := by unfold Hid textD; rw [if_pos hl]
    rw [HR.out]
    clear hl hv
    go_enter Tryz.func143, Tryz.ntmps143
    obtain ⟨s0, s1, s2⟩ := vd.cells
    go_wp2_with fail
    go_ret
    exact ⟨rfl, hbw⟩
  have h0' : ((ds : Int) == 0) = false := by simp; omega
  have hlne := (ne_nil_iff hd).2 h0
  have HR : Hid (textD ⟨dn, dl, de⟩ = (if dn then [45] else []) ++ (decDigits (val dl) ++ [112] ++ itoa de)) := by unfold Hid textD; rw [if_neg hlne]
  have hdl : (decDigits (val dl)).length ≤ 8193 := by have := dec_len_limbs dl HLim.out; rw [hd.len] at this; omega
  have hil := itoa_len hx1 hx2
  generalize hS : textD ⟨dn, dl, de⟩ = S at *
  clear hS hlne hv
  have HD1 : Hid (∀ W A n c, SL W A n c dl → n ≤ 100000 → Calls Tryz.prog 142 #[.slice A n c] W fun e w' => e = .returned (.string ⟨(decDigits (val dl)).toArray⟩) ∧ Below W.heap.size W w') := fun W A n c h hn => rdecimal_any A n c dl W h hn
  have HI1 : Hid (∀ W, Calls Tryz.prog 189 #[.int .i64 de] W fun e w' => e = .returned (.string ⟨(itoa de).toArray⟩) ∧ Below W.heap.size W w') := fun W => rinteger_any de W hx1 hx2
  generalize decDigits (val dl) = dd at *
  generalize itoa de = ii at *
  have hk1 : ¬ 9223372036854775807 < dd.length + 1 := by omega
  have hk2 : ¬ 9223372036854775807 < dd.length + 1 + ii.length := by omega
  have hc1 := cat_mk dd [112]
  have hc2 := cat_mk (dd ++ [112]) ii
  go_enter Tryz.func143, Tryz.ntmps143
  obtain ⟨s0, s1, s2⟩ := vd.cells
  go_wp2_with fail
  clear s0 s1 s2
  generalize w.alloc (.cells #[.bool dn, .slice dA ds dc, .int .i64 de] 25) = W0 at *
  have HK : Hid (∀ V, Below W0.heap.size W0 V → (fun V => (V.cell? ⟨w.heap.size, 0, none⟩ = some (.bool dn) ∧ V.cell? ⟨w.heap.size, 1, none⟩ = some (.slice dA ds dc) ∧ V.cell? ⟨w.heap.size, 2, none⟩ = some (.int .i64 de)) ∧ Below W0.heap.size W0 V) V) := fun V hV => ⟨vd.keep V hV, hV⟩
  have hB := bdrew W0
  refine wp_region_held_drew (S := (fun V => (V.cell? ⟨w.heap.size, 0, none⟩ = some (.bool dn) ∧ V.cell? ⟨w.heap.size, 1, none⟩ = some (.slice dA ds dc) ∧ V.cell? ⟨w.heap.size, 2, none⟩ = some (.int .i64 de)) ∧ Below W0.heap.size W0 V)) (by kernel_rfl) (HK.out _ hB) (fun hH => ?_)
  refine wpAnyH_take (i := 0) (oi := ⟨_, _, _, _, _, _⟩) (v := ?_) rfl (by kernel_rfl) (by kernel_rfl) (by kernel_rfl) (fun _ _ _ h => h) (Or.inl ⟨by rfl, ?_⟩) hH ?_
  rotate_left
  · (intro w hSw; (try dsimp only at hSw); go_simp; try (with_reducible rfl))
  simp only [Act.put, List.setIfInBounds_toArray, List.set_cons_zero, List.set_cons_succ]
  refine wpAnyH_take (i := 1) (oi := ⟨_, _, _, _, _, _⟩) (v := ?_) rfl (by kernel_rfl) (by kernel_rfl) (by kernel_rfl) (fun _ _ _ h => h) (Or.inl ⟨by rfl, ?_⟩) hH ?_
  rotate_left
  · (intro w hSw; (try dsimp only at hSw); go_simp; try (with_reducible rfl))
  simp only [Act.put, List.setIfInBounds_toArray, List.set_cons_zero, List.set_cons_succ]
  refine wpAnyH_take (i := 4) (oi := ⟨_, _, _, _, _, _⟩) (v := ?_) rfl (by kernel_rfl) (by kernel_rfl) (by kernel_rfl) (fun _ _ _ h => h) (Or.inl ⟨by rfl, ?_⟩) hH ?_
  rotate_left
  · (intro w hSw; (try dsimp only at hSw); go_simp; try (with_reducible rfl))
  simp only [Act.put, List.setIfInBounds_toArray, List.set_cons_zero, List.set_cons_succ]
  refine wpAnyH_take (i := 5) (oi := ⟨_, _, _, _, _, _⟩) (v := ?_) rfl (by kernel_rfl) (by kernel_rfl) (by kernel_rfl) (fun _ _ _ h => h) (Or.inl ⟨by rfl, ?_⟩) hH ?_
  rotate_left
  · (intro w hSw; (try dsimp only at hSw); go_simp; try (with_reducible rfl))
  simp only [Act.put, List.setIfInBounds_toArray, List.set_cons_zero, List.set_cons_succ]
  refine wpAnyH_ready (rs := [2]) (by kernel_rfl) (by simp) ?_
  refine AllReadyH.cons (o := ⟨_, _, _, _, _, _⟩) rfl (fun K hK => ?_) AllReadyH.nil
  go_simp
  refine (HD1.out _ _ _ _ (vd.sl.below hB) (by omega)).mono ?_
  rintro e w1 ⟨rfl, hc⟩
  replace hB := bnext hB hc
  clear hc
  go_wp2_with fail
  refine hK.out _ _ (HK.out _ hB) (fun hH => ?_)
  clear hK K
  refine wpAnyH_take (i := 3) (oi := ⟨_, _, _, _, _, _⟩) (v := ?_) rfl (by kernel_rfl) (by kernel_rfl) (by kernel_rfl) (fun _ _ _ h => h) (Or.inl ⟨by rfl, ?_⟩) hH ?_
  rotate_left
  · (intro w hSw; (try dsimp only at hSw); go_simp; try (with_reducible rfl))
  simp only [Act.put, List.setIfInBounds_toArray, List.set_cons_zero, List.set_cons_succ]
  refine wpAnyH_ready (rs := [6]) (by kernel_rfl) (by simp) ?_
  refine AllReadyH.cons (o := ⟨_, _, _, _, _, _⟩) rfl (fun K hK => ?_) AllReadyH.nil
  go_simp
  refine (HI1.out _).mono ?_
  rintro e w2 ⟨rfl, hc⟩
  replace hB := bnext hB hc
  clear hc
  go_wp2_with fail
  refine hK.out _ _ (HK.out _ hB) (fun hH => ?_)
  clear hK K
  refine wpAnyH_take (i := 7) (oi := ⟨_, _, _, _, _, _⟩) (v := ?_) rfl (by kernel_rfl) (by kernel_rfl) (by kernel_rfl) (fun _ _ _ h => h) (Or.inl ⟨by rfl, ?_⟩) hH ?_
  rotate_left
  · (intro w hSw; (try dsimp only at hSw); go_simp; try (with_reducible rfl))
  simp only [Act.put, List.setIfInBounds_toArray, List.set_cons_zero, List.set_cons_succ]
  refine wpAnyH_take (i := 8) (oi := ⟨_, _, _, _, _, _⟩) (v := ?_) rfl (by kernel_rfl) (by kernel_rfl) (by kernel_rfl) (fun _ _ _ h => h) (Or.inl ⟨by rfl, ?_⟩) hH ?_
  rotate_left
  · (intro w hSw; (try dsimp only at hSw); go_simp; try (with_reducible rfl))
  simp only [Act.put, List.setIfInBounds_toArray, List.set_cons_zero, List.set_cons_succ]
  refine wpAnyH_done (by kernel_rfl) ?_ _
  clear hH HK
  replace vd := vd.next hB
  replace hbw := bnext hbw hB
  clear hB hc1 hc2
  obtain ⟨s0, s1, s2⟩ := vd.cells
  cases dn
  · go_wp2_with fail
    go_ret
    exact ⟨by rw [HR.out]; simp, hbw⟩
  · go_wp2_with fail
    go_ret
    exact ⟨by rw [HR.out]; simp; exact cat_mk [45] (dd ++ 112 :: ii), hbw⟩

end Go.Proofs.YtekajoifgdpmlaaGreatDoor

/-! C1 -/
namespace Go.Proofs.YtekajoifgdpmlaaGreatDoor
open Go.RowKit Pl Go.Shelf

/-- An interval, a frame, a link, a certificate: plain data. -/
structure Iv where
  lo : Dy
  hi : Dy
  all : Bool
structure Fr where
  c : List Dy
  a : List (List Dy)
  r : List Iv
structure Lk where
  h : Dy
  tube : List Iv
  e : Fr
  v : List (List Dy)
structure Ct where
  prec : Int
  order : Int
  start : Fr
  links : List Lk

/-- What holds of cells in a world holds in every world that came from it. -/
def Lasts {α : Type} (R : World → List Value → α → Prop) : Prop := ∀ W W' vs x, R W vs x → Below W.heap.size W W' → R W' vs x

/-- The slice value '.slice A n c' reads, in W, as the list xs, whose elements have k cells each, of which R says what they hold. -/
structure Sl {α : Type} (k : Nat) (R : World → List Value → α → Prop) (W : World) (A : Option Addr) (n c : Nat) (xs : List α) : Prop where
  len : xs.length = n
  cap : n ≤ c
  max : c ≤ 9223372036854775807
  at_ : 0 < n → ∃ b off, A = some ⟨b, off, none⟩ ∧ b < W.heap.size ∧ ∀ (j : Nat) (x : α), xs[j]? = some x → ∃ vs, vs.length = k ∧ R W vs x ∧ ∀ (i : Nat) (v : Value), vs[i]? = some v → W.cell? ⟨b, off + j * k + i, none⟩ = some v

section
variable {α : Type} {k : Nat} {R : World → List Value → α → Prop} {W W' : World} {A : Option Addr} {n c : Nat} {xs : List α}
theorem Sl.next (h : Sl k R W A n c xs) (hR : Lasts R) (hb : Below W.heap.size W W') : Sl k R W' A n c xs :=
  ⟨h.len, h.cap, h.max, fun hn => by
    obtain ⟨b, off, e, hlt, hc⟩ := h.at_ hn
    refine ⟨b, off, e, Nat.lt_of_lt_of_le hlt hb.size, fun j x hx => ?_⟩
    obtain ⟨vs, h1, h2, h3⟩ := hc j x hx
    exact ⟨vs, h1, hR _ _ _ _ h2 hb, fun i v hv => (hb.cell (p := ⟨b, off + j * k + i, none⟩) hlt).trans (h3 i v hv)⟩⟩
theorem Sl.nil (W : World) : Sl k R W none 0 0 [] := ⟨rfl, by omega, by omega, fun h => absurd h (by omega)⟩
theorem Sl.empty (h : Sl k R W A n c xs) (h0 : n = 0) : xs = [] := List.eq_nil_of_length_eq_zero (by rw [h.len, h0])
/-- An element at a place. -/
theorem Sl.get (h : Sl k R W A n c xs) {j : Nat} (hj : j < n) : ∃ b off x vs, A = some ⟨b, off, none⟩ ∧ b < W.heap.size ∧ xs[j]? = some x ∧ vs.length = k ∧ R W vs x ∧ ∀ (i : Nat) (v : Value), vs[i]? = some v → W.cell? ⟨b, off + j * k + i, none⟩ = some v := by
  obtain ⟨b, off, e, hb, hc⟩ := h.at_ (by omega)
  have hl : j < xs.length := by have := h.len; omega
  obtain ⟨vs, h1, h2, h3⟩ := hc j _ (List.getElem?_eq_getElem hl)
  exact ⟨b, off, xs[j], vs, e, hb, List.getElem?_eq_getElem hl, h1, h2, h3⟩
theorem Sl.get' {b off : Nat} (h : Sl k R W (some ⟨b, off, none⟩) n c xs) {j : Nat} (hj : j < n) : ∃ x vs, b < W.heap.size ∧ xs[j]? = some x ∧ vs.length = k ∧ R W vs x ∧ ∀ (i : Nat) (v : Value), vs[i]? = some v → W.cell? ⟨b, off + j * k + i, none⟩ = some v := by
  obtain ⟨b', off', x, vs, e, r⟩ := h.get hj
  injection e with e
  injection e with e1 e2
  subst e1 e2
  exact ⟨x, vs, r⟩
end

/-- A number's three cells. -/
def RD (W : World) (vs : List Value) (d : Dy) : Prop := ∃ A n c, vs = [.bool d.neg, .slice A n c, .int .i64 d.e] ∧ SL W A n c d.l
/-- An interval's seven cells. -/
def RI (W : World) (vs : List Value) (x : Iv) : Prop := ∃ A n c B m d, vs = [.bool x.lo.neg, .slice A n c, .int .i64 x.lo.e, .bool x.hi.neg, .slice B m d, .int .i64 x.hi.e, .bool x.all] ∧ SL W A n c x.lo.l ∧ SL W B m d x.hi.l
/-- A row of a matrix: one cell. -/
def RM (W : World) (vs : List Value) (l : List Dy) : Prop := ∃ A n c, vs = [.slice A n c] ∧ Sl 3 RD W A n c l
/-- A frame's three cells. -/
def RF (W : World) (vs : List Value) (f : Fr) : Prop := ∃ A n c B m d C p q, vs = [.slice A n c, .slice B m d, .slice C p q] ∧ Sl 3 RD W A n c f.c ∧ Sl 1 RM W B m d f.a ∧ Sl 7 RI W C p q f.r
/-- A link's eight cells. -/
def RL (W : World) (vs : List Value) (x : Lk) : Prop := ∃ H hn hc T tn tc A n c B m d C p q V vn vc, vs = [.bool x.h.neg, .slice H hn hc, .int .i64 x.h.e, .slice T tn tc, .slice A n c, .slice B m d, .slice C p q, .slice V vn vc] ∧
  SL W H hn hc x.h.l ∧ Sl 7 RI W T tn tc x.tube ∧ Sl 3 RD W A n c x.e.c ∧ Sl 1 RM W B m d x.e.a ∧ Sl 7 RI W C p q x.e.r ∧ Sl 1 RM W V vn vc x.v
/-- A certificate's six cells. -/
def RC (W : World) (vs : List Value) (x : Ct) : Prop := ∃ A n c B m d C p q L ln lc, vs = [.int .i64 x.prec, .int .i64 x.order, .slice A n c, .slice B m d, .slice C p q, .slice L ln lc] ∧
  Sl 3 RD W A n c x.start.c ∧ Sl 1 RM W B m d x.start.a ∧ Sl 7 RI W C p q x.start.r ∧ Sl 8 RL W L ln lc x.links

theorem lasts_RD : Lasts RD := by
  rintro W W' vs x ⟨A, n, c, e, h⟩ hb
  exact ⟨A, n, c, e, h.below hb⟩
theorem lasts_RI : Lasts RI := by
  rintro W W' vs x ⟨A, n, c, B, m, d, e, h, h'⟩ hb
  exact ⟨A, n, c, B, m, d, e, h.below hb, h'.below hb⟩
theorem lasts_RM : Lasts RM := by
  rintro W W' vs x ⟨A, n, c, e, h⟩ hb
  exact ⟨A, n, c, e, h.next lasts_RD hb⟩
theorem lasts_RF : Lasts RF := by
  rintro W W' vs x ⟨A, n, c, B, m, d, C, p, q, e, h1, h2, h3⟩ hb
  exact ⟨A, n, c, B, m, d, C, p, q, e, h1.next lasts_RD hb, h2.next lasts_RM hb, h3.next lasts_RI hb⟩
theorem lasts_RL : Lasts RL := by
  rintro W W' vs x ⟨H, hn, hc, T, tn, tc, A, n, c, B, m, d, C, p, q, V, vn, vc, e, h1, h2, h3, h4, h5, h6⟩ hb
  exact ⟨H, hn, hc, T, tn, tc, A, n, c, B, m, d, C, p, q, V, vn, vc, e, h1.below hb, h2.next lasts_RI hb, h3.next lasts_RD hb, h4.next lasts_RM hb, h5.next lasts_RI hb, h6.next lasts_RM hb⟩
theorem lasts_RC : Lasts RC := by
  rintro W W' vs x ⟨A, n, c, B, m, d, C, p, q, L, ln, lc, e, h1, h2, h3, h4⟩ hb
  exact ⟨A, n, c, B, m, d, C, p, q, L, ln, lc, e, h1.next lasts_RD hb, h2.next lasts_RM hb, h3.next lasts_RI hb, h4.next lasts_RL hb⟩

/-- A call that answers a bool and leaves what was there. -/
def Says (b : Bool) (w : World) (e : Ending) (w' : World) : Prop := e = .returned (.bool b) ∧ Below w.heap.size w w'

end Go.Proofs.YtekajoifgdpmlaaGreatDoor
