/- Bundle 16: what the laws' walks stand on: ShelfB, H2, TD, H3, H8, H9. -/
import Derived.Shelf.LaysM
import Derived.Shelf.LaysC
import Derived.Shelf.Strconv.AtoiAll
import Derived.Shelf.Strings.Split
import Derived.Shelf.Slices.Turned
import Derived.Test.YtekajoifgdpmlaaGreatDoorProg
import Derived.Test.YtekajoifgdpmlaaGreatDoorZ2
import Derived.Test.YtekajoifgdpmlaaGreatDoorZ5
import Derived.Test.YtekajoifgdpmlaaGreatDoorZ15
/-! ShelfB -/
namespace Go.Proofs
open Go.Shelf
def Tryz.lays110_ren : Go.Shelf.Ren := ⟨fun | 110 => 191 | 109 => 219 | n => n, fun | 31 => 54 | 9 => 9 | 4 => 4 | 3 => 3 | 0 => 0 | n => n, fun | n => n⟩
theorem Tryz.lays110 : Go.Proofs.Lays.n110 Tryz.prog Tryz.lays110_ren := {
  mixed := by kernel_rfl
  f109 := Tryz.func219.trans (congrArg some (by kernel_rfl))
  f110 := Tryz.func191.trans (congrArg some (by kernel_rfl))
  t0 := Tryz.underlying0
  a0 := Tryz.isAgg0
  z0 := Tryz.sizeOf0
  v0 := Tryz.zeroValue0
  t3 := Tryz.underlying3
  a3 := Tryz.isAgg3
  z3 := Tryz.sizeOf3
  v3 := Tryz.zeroValue3
  t4 := Tryz.underlying4
  a4 := Tryz.isAgg4
  z4 := Tryz.sizeOf4
  v4 := Tryz.zeroValue4
  t9 := Tryz.underlying9
  a9 := Tryz.isAgg9
  z9 := Tryz.sizeOf9
  v9 := Tryz.zeroValue9
  t31 := Tryz.underlying54
  a31 := Tryz.isAgg54
  z31 := Tryz.sizeOf54
  v31 := Tryz.zeroValue54 }
open Go.Lib in
/-- slices.Contains at []string: "Contains reports whether v is present in s.": IT RETURNS 'Lib.containsS (the elements) v', which is true just where v is among them ('Lib.containsS_iff'); the world is as it was. ITS CALLEE slices.Index IS MET BY ITS OWN CONTRACT OFF THE SHELF (lay that first): no loop is walked here. (LAID: no walk: one application.) -/
theorem Tryz.slices_Contains_string (b off n c : Nat) (zs : List ByteArray) (x : ByteArray) (w : World) (hz : n ≤ zs.length) (hbig : n ≤ 9223372036854775807) (hc : ∀ j, j < zs.length → w.cell? ⟨b, off + j, none⟩ = some (.string (zs.getD j ByteArray.empty))) :
    Calls Tryz.prog 191 #[.slice (some ⟨b, off, none⟩) n c, .string x] w fun e w' => e = .returned (.bool (Lib.containsS (zs.take n) x)) ∧ w' = w := Any.slices_Contains_string Tryz.lays110 b off n c zs x w hz hbig hc
end Go.Proofs

/-! H2 -/
namespace Go.Proofs.YtekajoifgdpmlaaGreatDoor
open Go.RowKit Pl Go.Shelf
open Go.Lib (decDigits itoa)

theorem indexN_yes (a b : List UInt8) (ha : ∀ c ∈ a, c ≠ 10) : Lib.indexByte (a ++ 10 :: b) 10 = (a.length : Int) := by
  induction a with
  | nil => rfl
  | cons c a ih =>
    have h1 := ih (fun x hx => ha x (by simp [hx]))
    have h2 := ha c (by simp)
    show (if (c == 10) = true then (0 : Int) else if (Lib.indexByte (a ++ 10 :: b) 10 == -1) = true then -1 else Lib.indexByte (a ++ 10 :: b) 10 + 1) = _
    rw [if_neg (by simpa using h2), h1, if_neg (by simp)]
    simp
theorem indexN_no (a : List UInt8) (ha : ∀ c ∈ a, c ≠ 10) : Lib.indexByte a 10 = -1 := by
  induction a with
  | nil => rfl
  | cons c a ih =>
    have h1 := ih (fun x hx => ha x (by simp [hx]))
    have h2 := ha c (by simp)
    show (if (c == 10) = true then (0 : Int) else if (Lib.indexByte a 10 == -1) = true then -1 else Lib.indexByte a 10 + 1) = _
    rw [if_neg (by simpa using h2), h1]
    rfl

set_option maxRecDepth 100000 in
set_option maxHeartbeats 1000000 in
theorem cutInN_yes (a b : List UInt8) (w : World) (hs : a.length + b.length ≤ 1000000) (ha : ∀ c ∈ a, c ≠ 10) :
    Calls Tryz.prog 101 #[.string ⟨(a ++ 10 :: b).toArray⟩, .string ⟨#[10]⟩] w fun e w' => e = .returned (.tuple #[.string ⟨a.toArray⟩, .string ⟨b.toArray⟩, .bool true]) ∧ Below w.heap.size w w' := by
  have HP : Hid (Lib.indexByte (⟨(a ++ 10 :: b).toArray⟩ : ByteArray).data.toList 10 = (a.length : Int)) := indexN_yes a b ha
  obtain ⟨l, hl⟩ : ∃ l, l = a ++ 10 :: b := ⟨_, rfl⟩
  have hlen : l.length = a.length + b.length + 1 := by rw [hl]; simp; omega
  have he1 : (⟨l.toArray⟩ : ByteArray).extract 0 a.length = ⟨a.toArray⟩ := by
    rw [ext_mk, hl]; simp
  have he2 : (⟨l.toArray⟩ : ByteArray).extract (a.length + 1) l.length = ⟨b.toArray⟩ := by
    rw [ext_mk, List.take_of_length_le (Nat.le_refl _), hl]
    rw [show a ++ 10 :: b = (a ++ [10]) ++ b by simp, List.drop_left' (by simp)]
  rw [← hl] at HP ⊢
  have HE1 := Lib.hid he1
  have HE2 := Lib.hid he2
  clear he1 he2 ha hl
  have h1 : a.length ≤ l.length := by omega
  have h2 : a.length + 1 ≤ l.length := by omega
  have h3 : l.length ≤ 1000001 := by omega
  clear hlen
  have hw1 : IntKind.i64.wrap ((a.length : Int) + 1) = (a.length : Int) + 1 := IntWalk.i64_in _ (by omega)
  have hn1 : ((a.length : Int) + 1).toNat = a.length + 1 := by omega
  have hi0 : (0 : Int) ≤ (a.length : Int) := by omega
  have hi1 : (a.length : Int) ≤ (l.length : Int) := by omega
  have hi2 : (0 : Int) ≤ (a.length : Int) + 1 := by omega
  have hi3 : (a.length : Int) + 1 ≤ (l.length : Int) := by omega
  go_enter Tryz.func101, Tryz.ntmps101
  go_wp2_with fail
  refine (Tryz.stringslite_Index_one _ _ _).mono ?_
  rw [HP.out]
  rintro e w' ⟨rfl, rfl⟩
  go_wp2_with fail
  refine wp_region_held_drew (S := fun _ => True) (by kernel_rfl) trivial (fun hH => ?_)
  refine wpAnyH_take (i := 0) (oi := ⟨_, _, _, _, _, _⟩) (v := ?_) rfl (by kernel_rfl) (by kernel_rfl) (by kernel_rfl) (fun _ _ _ h => h) (Or.inl ⟨by rfl, ?_⟩) hH ?_
  rotate_left
  · (intro w hSw; (try dsimp only at hSw); go_simp; try (with_reducible rfl))
  simp only [Act.put, List.setIfInBounds_toArray, List.set_cons_zero, List.set_cons_succ]
  refine wpAnyH_take (i := 1) (oi := ⟨_, _, _, _, _, _⟩) (v := ?_) rfl (by kernel_rfl) (by kernel_rfl) (by kernel_rfl) (fun _ _ _ h => h) (Or.inl ⟨by rfl, ?_⟩) hH ?_
  rotate_left
  · (intro w hSw; (try dsimp only at hSw); go_simp; try (with_reducible rfl))
  simp only [Act.put, List.setIfInBounds_toArray, List.set_cons_zero, List.set_cons_succ]
  refine wpAnyH_take (i := 2) (oi := ⟨_, _, _, _, _, _⟩) (v := ?_) rfl (by kernel_rfl) (by kernel_rfl) (by kernel_rfl) (fun _ _ _ h => h) (Or.inl ⟨by rfl, ?_⟩) hH ?_
  rotate_left
  · (intro w hSw; (try dsimp only at hSw); go_simp; try (with_reducible rfl))
  simp only [Act.put, List.setIfInBounds_toArray, List.set_cons_zero, List.set_cons_succ]
  refine wpAnyH_take (i := 3) (oi := ⟨_, _, _, _, _, _⟩) (v := ?_) rfl (by kernel_rfl) (by kernel_rfl) (by kernel_rfl) (fun _ _ _ h => h) (Or.inl ⟨by rfl, ?_⟩) hH ?_
  rotate_left
  · (intro w hSw; (try dsimp only at hSw); go_simp; try (with_reducible rfl))
  simp only [Act.put, List.setIfInBounds_toArray, List.set_cons_zero, List.set_cons_succ]
  refine wpAnyH_take (i := 4) (oi := ⟨_, _, _, _, _, _⟩) (v := ?_) rfl (by kernel_rfl) (by kernel_rfl) (by kernel_rfl) (fun _ _ _ h => h) (Or.inl ⟨by rfl, ?_⟩) hH ?_
  rotate_left
  · (intro w hSw; (try dsimp only at hSw); go_simp; try (with_reducible rfl))
  simp only [Act.put, List.setIfInBounds_toArray, List.set_cons_zero, List.set_cons_succ]
  refine wpAnyH_take (i := 5) (oi := ⟨_, _, _, _, _, _⟩) (v := ?_) rfl (by kernel_rfl) (by kernel_rfl) (by kernel_rfl) (fun _ _ _ h => h) (Or.inl ⟨by rfl, ?_⟩) hH ?_
  rotate_left
  · (intro w hSw; (try dsimp only at hSw); go_simp; try (with_reducible rfl))
  simp only [Act.put, List.setIfInBounds_toArray, List.set_cons_zero, List.set_cons_succ]
  refine wpAnyH_take (i := 6) (oi := ⟨_, _, _, _, _, _⟩) (v := ?_) rfl (by kernel_rfl) (by kernel_rfl) (by kernel_rfl) (fun _ _ _ h => h) (Or.inl ⟨by rfl, ?_⟩) hH ?_
  rotate_left
  · (intro w hSw; (try dsimp only at hSw); go_simp; try (with_reducible rfl))
  simp only [Act.put, List.setIfInBounds_toArray, List.set_cons_zero, List.set_cons_succ]
  refine wpAnyH_take (i := 7) (oi := ⟨_, _, _, _, _, _⟩) (v := ?_) rfl (by kernel_rfl) (by kernel_rfl) (by kernel_rfl) (fun _ _ _ h => h) (Or.inl ⟨by rfl, ?_⟩) hH ?_
  rotate_left
  · (intro w hSw; (try dsimp only at hSw); go_simp; try (with_reducible rfl))
  simp only [Act.put, List.setIfInBounds_toArray, List.set_cons_zero, List.set_cons_succ]
  refine wpAnyH_take (i := 8) (oi := ⟨_, _, _, _, _, _⟩) (v := ?_) rfl (by kernel_rfl) (by kernel_rfl) (by kernel_rfl) (fun _ _ _ h => h) (Or.inl ⟨by rfl, ?_⟩) hH ?_
  rotate_left
  · (intro w hSw; (try dsimp only at hSw); go_simp; try (with_reducible rfl))
  simp only [Act.put, List.setIfInBounds_toArray, List.set_cons_zero, List.set_cons_succ]
  refine wpAnyH_take (i := 9) (oi := ⟨_, _, _, _, _, _⟩) (v := ?_) rfl (by kernel_rfl) (by kernel_rfl) (by kernel_rfl) (fun _ _ _ h => h) (Or.inl ⟨by rfl, ?_⟩) hH ?_
  rotate_left
  · (intro w hSw; (try dsimp only at hSw); go_simp; try (with_reducible rfl))
  simp only [Act.put, List.setIfInBounds_toArray, List.set_cons_zero, List.set_cons_succ]
  refine wpAnyH_take (i := 10) (oi := ⟨_, _, _, _, _, _⟩) (v := ?_) rfl (by kernel_rfl) (by kernel_rfl) (by kernel_rfl) (fun _ _ _ h => h) (Or.inl ⟨by rfl, ?_⟩) hH ?_
  rotate_left
  · (intro w hSw; (try dsimp only at hSw); go_simp; try (with_reducible rfl))
  simp only [Act.put, List.setIfInBounds_toArray, List.set_cons_zero, List.set_cons_succ]
  refine wpAnyH_take (i := 11) (oi := ⟨_, _, _, _, _, _⟩) (v := ?_) rfl (by kernel_rfl) (by kernel_rfl) (by kernel_rfl) (fun _ _ _ h => h) (Or.inl ⟨by rfl, ?_⟩) hH ?_
  rotate_left
  · (intro w hSw; (try dsimp only at hSw); go_simp; try (with_reducible rfl))
  simp only [Act.put, List.setIfInBounds_toArray, List.set_cons_zero, List.set_cons_succ]
  refine wpAnyH_done (by kernel_rfl) ?_ _
  go_wp2_with fail
  go_ret3
  exact ⟨ret3 (congrArg Value.string HE1.out) (congrArg Value.string HE2.out) rfl, below_drewN (Below.refl _ _) 1⟩

set_option maxRecDepth 100000 in
set_option maxHeartbeats 1000000 in
theorem cutInN_no (a : List UInt8) (w : World) (ha : ∀ c ∈ a, c ≠ 10) :
    Calls Tryz.prog 101 #[.string ⟨a.toArray⟩, .string ⟨#[10]⟩] w fun e w' => e = .returned (.tuple #[.string ⟨a.toArray⟩, .string ⟨#[]⟩, .bool false]) ∧ Below w.heap.size w w' := by
  have HP : Hid (Lib.indexByte (⟨a.toArray⟩ : ByteArray).data.toList 10 = -1) := indexN_no a ha
  clear ha
  go_enter Tryz.func101, Tryz.ntmps101
  go_wp2_with fail
  refine (Tryz.stringslite_Index_one _ _ _).mono ?_
  rw [HP.out]
  rintro e w' ⟨rfl, rfl⟩
  go_wp2_with fail
  go_ret3
  exact ⟨rfl, Below.refl _ _⟩

set_option maxRecDepth 100000 in
set_option maxHeartbeats 1000000 in
theorem cutN_yes (a b : List UInt8) (w : World) (hs : a.length + b.length ≤ 1000000) (ha : ∀ c ∈ a, c ≠ 10) :
    Calls Tryz.prog 31 #[.string ⟨(a ++ 10 :: b).toArray⟩, .string ⟨#[10]⟩] w fun e w' => e = .returned (.tuple #[.string ⟨a.toArray⟩, .string ⟨b.toArray⟩, .bool true]) ∧ Below w.heap.size w w' := by
  have IN := Lib.hid (cutInN_yes a b w hs ha)
  clear ha
  go_enter Tryz.func31, Tryz.ntmps31
  go_wp2_with fail
  refine IN.out.mono ?_
  rintro e w' ⟨rfl, hb⟩
  go_wp2_with fail
  go_ret3
  exact ⟨rfl, hb⟩
set_option maxRecDepth 100000 in
set_option maxHeartbeats 1000000 in
theorem cutN_no (a : List UInt8) (w : World) (ha : ∀ c ∈ a, c ≠ 10) :
    Calls Tryz.prog 31 #[.string ⟨a.toArray⟩, .string ⟨#[10]⟩] w fun e w' => e = .returned (.tuple #[.string ⟨a.toArray⟩, .string ⟨#[]⟩, .bool false]) ∧ Below w.heap.size w w' := by
  have IN := Lib.hid (cutInN_no a w ha)
  clear ha
  go_enter Tryz.func31, Tryz.ntmps31
  go_wp2_with fail
  refine IN.out.mono ?_
  rintro e w' ⟨rfl, hb⟩
  go_wp2_with fail
  go_ret3
  exact ⟨rfl, hb⟩


theorem count_no (c : UInt8) (a : List UInt8) (h : ∀ x ∈ a, x ≠ c) : a.count c = 0 := List.count_eq_zero.2 (fun hm => h c hm rfl)
theorem indexC_yes (c : UInt8) (a b : List UInt8) (ha : ∀ x ∈ a, x ≠ c) : Lib.indexByte (a ++ c :: b) c = (a.length : Int) := by
  induction a with
  | nil => show (if (c == c) = true then (0 : Int) else _) = _; simp
  | cons x a ih =>
    have h1 := ih (fun x hx => ha x (by simp [hx]))
    have h2 := ha x (by simp)
    show (if (x == c) = true then (0 : Int) else if (Lib.indexByte (a ++ c :: b) c == -1) = true then -1 else Lib.indexByte (a ++ c :: b) c + 1) = _
    rw [if_neg (by simpa using h2), h1, if_neg (by simp)]
    simp
theorem splitK_C (c : UInt8) : ∀ (k : Nat) (s : List UInt8), s.length ≤ k → Lib.splitK [c] 0 (s.count c) s = splitC c s := by
  intro k
  induction k with
  | zero => intro s hs; have : s = [] := List.eq_nil_of_length_eq_zero (by omega); subst this; rfl
  | succ k ih =>
    intro s hs
    cases h : cutAt c s with
    | none =>
      have hn := cutAt_no h
      rw [count_no c s hn, split_no hn]
      rfl
    | some p =>
      obtain ⟨a, b⟩ := p
      obtain ⟨rfl, hn⟩ := cutAt_some h
      have hc : (a ++ c :: b).count c = b.count c + 1 := by rw [List.count_append, count_no c a hn, List.count_cons_self]; omega
      have hix : Lib.index (a ++ c :: b) [c] = (a.length : Int) := by rw [Lib.index_one]; exact indexC_yes c a b hn
      have hl : b.length ≤ k := by simp at hs; omega
      rw [hc, Lib.splitK, hix, if_neg (by simp), split_cons hn]
      have e1 : ((a.length : Int).toNat + 0) = a.length := by omega
      have e2 : ((a.length : Int).toNat + [c].length) = a.length + 1 := by simp
      rw [e1, e2, List.take_left' rfl, show a ++ c :: b = (a ++ [c]) ++ b by simp, List.drop_left' (by simp), ih b hl]
/-- The parts as strings. -/
def strs (l : List (List UInt8)) : List ByteArray := l.map (fun p => ⟨p.toArray⟩)
theorem mk_toList (b : ByteArray) : (⟨b.data.toList.toArray⟩ : ByteArray) = b := by cases b; simp
theorem splitB_C (c : UInt8) (s : List UInt8) : Lib.splitB ⟨#[c]⟩ 0 (Lib.countB ⟨s.toArray⟩ ⟨#[c]⟩) ⟨s.toArray⟩ = strs (splitC c s) := by
  have h1 : Lib.countB ⟨s.toArray⟩ ⟨#[c]⟩ = s.count c := by show Lib.count s [c] = _; exact Lib.count_one c s
  have h2 := Lib.splitB_data ⟨#[c]⟩ 0 (s.count c) ⟨s.toArray⟩
  have h3 : (Lib.splitB ⟨#[c]⟩ 0 (s.count c) ⟨s.toArray⟩).map (·.data.toList) = splitC c s := h2.trans (splitK_C c _ s (Nat.le_refl _))
  rw [h1, ← h3]
  unfold strs
  rw [List.map_map]
  conv => lhs; rw [← List.map_id (Lib.splitB ⟨#[c]⟩ 0 (s.count c) ⟨s.toArray⟩)]
  apply List.map_congr_left
  intro b _
  exact (mk_toList b).symm
theorem countB_C (c : UInt8) (s : List UInt8) : Lib.countB ⟨s.toArray⟩ ⟨#[c]⟩ + 1 = (splitC c s).length := by
  have h := Lib.splitB_all ⟨#[c]⟩ (by simp [ByteArray.size]) 0 _ ⟨s.toArray⟩ rfl
  rw [splitB_C] at h
  rw [← h]; simp [strs]
theorem split_any (s : List UInt8) (m : Int) (w : World) (hs : s.length ≤ 1000000) (hm : w.cell? ⟨0, 0, none⟩ = some (.int .i64 m)) :
    Calls Tryz.prog 190 #[.string ⟨s.toArray⟩, .string ⟨#[32]⟩] w fun e w' =>
      e = .returned (.slice (some ⟨w.heap.size, 0, none⟩) (splitC 32 s).length (splitC 32 s).length) ∧ w' = w.alloc (.cells ((strs (splitC 32 s)).map Value.string).toArray 9) := by
  have h := Tryz.strings_Split ⟨s.toArray⟩ ⟨#[32]⟩ m w (by simp [ByteArray.size]; omega) hm (by simp [ByteArray.size])
  rw [splitB_C, countB_C] at h
  exact h
theorem contains_empty (l : List (List UInt8)) : Lib.containsS (strs l) ⟨#[]⟩ = decide ([] ∈ l) := by
  rw [Bool.eq_iff_iff, Lib.containsS_iff, decide_eq_true_iff]
  unfold strs
  rw [List.mem_map]
  constructor
  · rintro ⟨p, hp, e⟩
    have : p = [] := by injection e with e; simpa using e
    rwa [← this]
  · exact fun h => ⟨[], h, rfl⟩
/-- Atoi of Itoa. -/
theorem parse_snoc : ∀ (l : List UInt8) (acc u : Nat) (x : UInt8), Lib.parseUint10 acc l = .ok u → Lib.parseUint10 acc (l ++ [x]) = Lib.parseUint10 u [x] := by
  intro l
  induction l with
  | nil => intro acc u x h; simp only [Lib.parseUint10] at h; injection h with h; rw [h]; rfl
  | cons y l ih =>
    intro acc u x h
    rw [List.cons_append]
    rw [Lib.parseUint10] at h ⊢
    split at h
    · rename_i h1
      rw [if_pos h1]
      split at h
      · cases h
      · rename_i h2
        rw [if_neg h2]
        split at h
        · cases h
        · rename_i h3
          rw [if_neg h3]
          exact ih _ _ _ h
    · cases h
theorem dig_nat {d : Nat} (h : d < 10) : (UInt8.ofNat (48 + d)).toNat = 48 + d := by
  rw [UInt8.toNat_ofNat']; omega
theorem parse_dec : ∀ (n u : Nat), u ≤ n → u ≤ 1000000 → Lib.parseUint10 0 (decDigits u) = .ok u := by
  intro n
  induction n with
  | zero => intro u hu _; have : u = 0 := by omega
            subst this; rw [Lib.decDigits]; rfl
  | succ n ih =>
    intro u hu hm
    rw [Lib.decDigits]
    by_cases h : u < 10
    · rw [dif_pos h, Lib.parseUint10, dig_nat h, if_pos (by omega), if_neg (by omega), if_neg (by omega)]
      show Lib.NumEnd.ok _ = _
      congr 1
      omega
    · rw [dif_neg h, parse_snoc _ 0 (u / 10) _ (ih (u / 10) (by omega) (by omega)), Lib.parseUint10, dig_nat (Nat.mod_lt _ (by omega)), if_pos (by omega), if_neg (by omega), if_neg (by omega)]
      show Lib.NumEnd.ok _ = _
      congr 1
      omega
theorem dec_front (u : Nat) : ∃ c r, decDigits u = c :: r ∧ 48 ≤ c.toNat ∧ c.toNat ≤ 57 := by
  have key : ∀ n u, u ≤ n → ∃ c r, decDigits u = c :: r ∧ 48 ≤ c.toNat ∧ c.toNat ≤ 57 := by
    intro n
    induction n with
    | zero => intro u hu; have : u = 0 := by omega
              subst this; rw [Lib.decDigits]; exact ⟨_, _, rfl, by decide, by decide⟩
    | succ n ih =>
      intro u hu
      rw [Lib.decDigits]
      by_cases h : u < 10
      · rw [dif_pos h]; exact ⟨_, _, rfl, by rw [dig_nat h]; omega, by rw [dig_nat h]; omega⟩
      · rw [dif_neg h]
        obtain ⟨c, r, e, h1, h2⟩ := ih (u / 10) (by omega)
        rw [e]
        exact ⟨c, _, rfl, h1, h2⟩
  exact key u u (Nat.le_refl _)
theorem atoi_itoa (u : Nat) (h : u ≤ 1000000) : Lib.atoiAll (itoa (u : Int)) = .ok (u : Int) := by
  have hp := parse_dec u u (Nat.le_refl _) h
  obtain ⟨c, r, e, h1, h2⟩ := dec_front u
  have hi : itoa (u : Int) = decDigits u := by unfold Lib.itoa; rw [if_neg (by omega)]; simp
  rw [hi]
  rw [e] at hp ⊢
  have n1 : ¬ c.toNat = 43 := by omega
  have n2 : ¬ c.toNat = 45 := by omega
  have e0 : Lib.parseMag (c :: r) = .ok u := by unfold Lib.parseMag; rw [if_neg (by simp)]; exact hp
  rw [Lib.atoiAll_plain c r n1 n2, e0]
  have h3 : ¬ 9223372036854775808 ≤ u := by omega
  simp [Lib.signless, h3]

end Go.Proofs.YtekajoifgdpmlaaGreatDoor

/-! TD -/
/-! The reference's Parse at the other texts; every text is of one of four kinds. -/
namespace Go.Proofs.YtekajoifgdpmlaaGreatDoor
open Go.RowKit Pl Go.Shelf

/-- A list is free of 'p', or it is parted at the first one. -/
theorem first_p (T : List UInt8) : (∀ c ∈ T, c ≠ 112) ∨ ∃ m R, T = m ++ 112 :: R ∧ ∀ c ∈ m, c ≠ 112 := by
  induction T with
  | nil => exact .inl (by simp)
  | cons c T ih =>
    by_cases hc : c = 112
    · subst hc
      exact .inr ⟨[], T, rfl, by simp⟩
    · rcases ih with h | ⟨m, R, rfl, h⟩
      · exact .inl (by simpa [hc] using h)
      · exact .inr ⟨c :: m, R, rfl, by simpa [hc] using h⟩
theorem cut_sign (S : List UInt8) : ∃ (neg : Bool) (T : List UInt8), S = (if neg then [45] else []) ++ T ∧ (neg = false → T.head? ≠ some 45) := by
  cases S with
  | nil => exact ⟨false, [], rfl, fun _ => by simp⟩
  | cons c T =>
    by_cases hc : c = 45
    · subst hc
      exact ⟨true, T, rfl, fun h => by cases h⟩
    · exact ⟨false, c :: T, rfl, fun _ => by simpa using hc⟩
theorem text_kinds (S : List UInt8) : (∃ neg T, NoP S neg T) ∨ ∃ neg m mi u, Parts S neg m mi u := by
  obtain ⟨neg, T, hS, hs⟩ := cut_sign S
  rcases first_p T with h | ⟨m, R, rfl, h⟩
  · exact .inl ⟨neg, T, hS, h, hs⟩
  · obtain ⟨mi, u, rfl, hu⟩ := cut_sign R
    exact .inr ⟨neg, m, mi, u, hS, h, hs, hu⟩
theorem limbs_nil : Limbs [] := by intro x hx; cases hx
theorem limbs_canon (neg : Bool) (v : Nat) (e : Int) : Limbs (canonD neg v e).l := by
  unfold canonD
  split
  · exact limbs_nil
  · exact limbs_digs _
theorem vld_check (neg : Bool) (v : Nat) (e : Int) : Limbs (checkD neg v e).1.l ∧ vld (checkD neg v e).1 = true ∧ ((checkD neg v e).2 = 0 ∨ (checkD neg v e).1 = zeroD) := by
  rw [← chk_canon]
  unfold chk
  split
  · rename_i h
    refine ⟨?_, h, .inl rfl⟩
    exact limbs_canon _ _ _
  · exact ⟨limbs_nil, vld_zero, .inr rfl⟩
end Go.Proofs.YtekajoifgdpmlaaGreatDoor

/-! The law DyadicParses: its walk. -/
namespace Go.Proofs.YtekajoifgdpmlaaGreatDoor
open Go.RowKit Pl Go.Shelf

end Go.Proofs.YtekajoifgdpmlaaGreatDoor

/-! H3 -/
namespace Go.Proofs.YtekajoifgdpmlaaGreatDoor
open Go.RowKit Pl Go.Shelf
open Go.Lib (decDigits itoa)

theorem nop_parse {S T : List UInt8} {neg : Bool} (h : NoP S neg T) (hl : S.length ≤ 1250) (h0 : ¬ S = [48]) : parseD S = (zeroD, 3) := by
  unfold parseD
  rw [if_neg (by omega), if_neg h0]
  have e1 : signT S = (neg, T) := by rw [h.eq]; exact signT_mk h.sgn
  rw [e1]
  simp only []
  rw [cutAt_none h.nop]
theorem parse_any (S : List UInt8) (w : World) (hs : S.length ≤ 1000000) (ht : Tabs w) : Calls Tryz.prog 10 #[.string ⟨S.toArray⟩] w (RetE (parseD S).1 (parseD S).2 w) := by
  by_cases hl : 1250 < S.length
  · have e : parseD S = (zeroD, 3) := by unfold parseD; rw [if_pos hl]
    rw [e]
    exact parse_long S w hl hs
  by_cases h0 : S = [48]
  · subst h0
    exact parse_zero w
  rcases text_kinds S with ⟨neg, T, h⟩ | ⟨neg, m, mi, u, h⟩
  · rw [nop_parse h (by omega) h0]
    exact parse_nop h w (by omega) h0
  · rw [parts_parse h (by omega)]
    exact parse_parts h w (by omega) ht
theorem parse_sound (S : List UInt8) : ((parseD S).2 = 0 → textD (parseD S).1 = S) ∧ Limbs (parseD S).1.l ∧ vld (parseD S).1 = true ∧ ((parseD S).2 = 0 ∨ (parseD S).2 = 3 ∨ (parseD S).2 = 9) := by
  by_cases hl : 1250 < S.length
  · have e : parseD S = (zeroD, 3) := by unfold parseD; rw [if_pos hl]
    rw [e]
    exact ⟨(fun h => by cases h), limbs_nil, vld_zero, .inr (.inl rfl)⟩
  by_cases h0 : S = [48]
  · subst h0
    exact ⟨fun _ => rfl, limbs_nil, vld_zero, .inl rfl⟩
  rcases text_kinds S with ⟨neg, T, h⟩ | ⟨neg, m, mi, u, h⟩
  · rw [nop_parse h (by omega) h0]
    exact ⟨(fun h => by cases h), limbs_nil, vld_zero, .inr (.inl rfl)⟩
  · rw [parts_parse h (by omega)]
    refine ⟨fun e => parts_text h (by rw [← e]), ?_⟩
    unfold partsD
    split
    · have hv := vld_check neg (numL m) (expo mi u)
      refine ⟨hv.1, hv.2.1, ?_⟩
      unfold checkD
      split <;> simp
    · exact ⟨limbs_nil, vld_zero, .inr (.inl rfl)⟩
theorem parse_text {d : Dy} (hL : Limbs d.l) (hv : vld d = true) : parseD (textD d) = (d, 0) := by
  by_cases hl : d.l = []
  · obtain ⟨neg, l, e⟩ := d
    simp only at hl
    subst hl
    rw [vld_nil] at hv
    simp at hv
    obtain ⟨rfl, rfl⟩ := hv
    rfl
  · rw [parts_parse (text_parts hl) (text_len hv)]
    exact text_ok hL hv hl

/-- What a reading ends with: a value, the text that is left, and the number of lines that were read; or a place and an error. -/
inductive Out (α : Type) where
  | ok (v : α) (s : List UInt8) (l : Nat)
  | bad (k c e : Int)
def Out.bind {α β : Type} (o : Out α) (f : α → List UInt8 → Nat → Out β) : Out β :=
  match o with
  | .ok v s l => f v s l
  | .bad k c e => .bad k c e
theorem bind_ok {α β : Type} (v : α) (s : List UInt8) (l : Nat) (f : α → List UInt8 → Nat → Out β) : (Out.ok v s l).bind f = f v s l := rfl
theorem bind_bad {α β : Type} (k c e : Int) (f : α → List UInt8 → Nat → Out β) : (Out.bad k c e).bind f = .bad k c e := rfl
theorem bind_bind {α β γ : Type} (o : Out α) (f : α → List UInt8 → Nat → Out β) (g : β → List UInt8 → Nat → Out γ) : (o.bind f).bind g = o.bind (fun v s l => (f v s l).bind g) := by cases o <;> rfl

def goodP (word : List UInt8) (n : Nat) (p : List (List UInt8)) : Bool := decide (p.head? = some word) && decide (p.length = n + 1) && !decide ([] ∈ p)
/-- The next line's parts. -/
def nextP (word : List UInt8) (n : Nat) (s : List UInt8) (l : Nat) : Out (List (List UInt8)) :=
  match cutAt 10 s with
  | none => .bad 0 0 4
  | some (a, r) => if goodP word n (splitC 32 a) = true then .ok (splitC 32 a).tail r (l + 1) else .bad (l + 1 : Int) 1 3
def intP (t : List UInt8) (lo hi : Int) : Option Int :=
  match Lib.atoiAll t with
  | .ok n => if itoa n = t ∧ lo ≤ n ∧ n ≤ hi then some n else none
  | _ => none
def intR (t : List UInt8) (lo hi : Int) (s : List UInt8) (l : Nat) : Out Int :=
  match intP t lo hi with
  | some n => .ok n s l
  | none => .bad (l : Int) 1 3
def parseL : List (List UInt8) → List Dy ⊕ Int
  | [] => .inl []
  | t :: r => if (parseD t).2 = 0 then match parseL r with
      | .inl ds => .inl ((parseD t).1 :: ds)
      | .inr e => .inr e
    else .inr (parseD t).2
def toNums (p : List (List UInt8)) (s : List UInt8) (l : Nat) : Out (List Dy) :=
  match parseL p with
  | .inl ds => .ok ds s l
  | .inr e => .bad (l : Int) 1 e
def numsP (word : List UInt8) (n : Nat) (s : List UInt8) (l : Nat) : Out (List Dy) := (nextP word n s l).bind toNums
def pairs : List Dy → List Iv
  | a :: b :: r => ⟨a, b, false⟩ :: pairs r
  | _ => []
def ivsP (word : List UInt8) (n : Nat) (s : List UInt8) (l : Nat) : Out (List Iv) := (numsP word (2 * n) s l).bind fun ds s l => .ok (pairs ds) s l
def rowsP (word : List UInt8) (n : Nat) : Nat → List UInt8 → Nat → Out (List (List Dy))
  | 0, s, l => .ok [] s l
  | k + 1, s, l => (numsP word n s l).bind fun d s l => (rowsP word n k s l).bind fun r s l => .ok (d :: r) s l
def setP (n : Nat) (s : List UInt8) (l : Nat) : Out Fr :=
  (numsP [99] n s l).bind fun c s l => (rowsP [97] n n s l).bind fun a s l => (ivsP [114] n s l).bind fun r s l => .ok ⟨c, a, r⟩ s l
def linkP (n : Nat) (s : List UInt8) (l : Nat) : Out Lk :=
  (numsP stepW 1 s l).bind fun h s l => (ivsP tubeW n s l).bind fun t s l => (setP n s l).bind fun e s l => (rowsP [118] n n s l).bind fun v s l => .ok ⟨h.getD 0 zeroD, t, e, v⟩ s l
def linksP (n : Nat) : Nat → List UInt8 → Nat → Out (List Lk)
  | 0, s, l => .ok [] s l
  | k + 1, s, l => (linkP n s l).bind fun d s l => (linksP n k s l).bind fun r s l => .ok (d :: r) s l
def certP (s : List UInt8) (l : Nat) : Out Ct :=
  (nextP certW 4 s l).bind fun p s l => (intR (p.getD 0 []) 8 256 s l).bind fun prec s l => (intR (p.getD 1 []) 1 15 s l).bind fun order s l => (intR (p.getD 2 []) 1 4 s l).bind fun n s l =>
    (intR (p.getD 3 []) 0 1000 s l).bind fun k s l => (setP n.toNat s l).bind fun st s l => (linksP n.toNat k.toNat s l).bind fun ls s l => (nextP [101, 110, 100] 0 s l).bind fun _ s l => .ok ⟨prec, order, st, ls⟩ s l
def zeroC : Ct := ⟨0, 0, ⟨[], [], []⟩, []⟩
/-- What Decode returns: a certificate, a place, an error. -/
def decP (s : List UInt8) : Ct × Int × Int × Int :=
  if 65536 < s.length then (zeroC, 0, 0, 5) else match certP s 0 with
  | .bad k c e => (zeroC, k, c, e)
  | .ok x r l => if r = [] then (if ctV x = true then (x, 0, 0, 0) else (zeroC, 0, 0, 1)) else (zeroC, (l + 1 : Int), 1, 3)

end Go.Proofs.YtekajoifgdpmlaaGreatDoor

/-! H8 -/
namespace Go.Proofs.YtekajoifgdpmlaaGreatDoor
open Go.RowKit Pl Go.Shelf
open Go.Lib (decDigits itoa)

theorem join_flat (word : List UInt8) (p : List (List UInt8)) : joinC 32 (word :: p) = word ++ p.flatMap (fun x => 32 :: x) := by
  induction p generalizing word with
  | nil => simp [joinC]
  | cons q p ih => rw [joinC, ih q]; simp
theorem part_len : ∀ (p : List (List UInt8)), ∀ x ∈ p, x.length ≤ (p.flatMap (fun x => 32 :: x)).length := by
  intro p
  induction p with
  | nil => intro x hx; cases hx
  | cons q p ih =>
    intro x hx
    simp only [List.flatMap_cons, List.length_append, List.length_cons]
    rcases List.mem_cons.1 hx with rfl | hx
    · omega
    · have := ih x hx; omega
/-- A line that was read. -/
theorem next_spec {word : List UInt8} {n : Nat} {s : List UInt8} {l : Nat} {p : List (List UInt8)} {r : List UInt8} {l' : Nat} (h : nextP word n s l = .ok p r l') :
    s = (word ++ p.flatMap (fun x => 32 :: x) ++ [10]) ++ r ∧ p.length = n ∧ l' = l + 1 := by
  unfold nextP at h
  cases hc : cutAt 10 s with
  | none => rw [hc] at h; cases h
  | some q =>
    obtain ⟨a, r'⟩ := q
    rw [hc] at h
    obtain ⟨rfl, hn⟩ := cutAt_some hc
    simp only [] at h
    split at h
    · rename_i hg
      injection h with h1 h2 h3
      subst h1 h2 h3
      unfold goodP at hg
      simp only [Bool.and_eq_true, decide_eq_true_eq] at hg
      obtain ⟨⟨g1, g2⟩, g3⟩ := hg
      cases hp : splitC 32 a with
      | nil => exact absurd hp (splitC_ne _ _)
      | cons p0 pt =>
        rw [hp] at g1 g2
        simp at g1 g2
        subst g1
        refine ⟨?_, g2, rfl⟩
        have hj := join_split 32 a
        rw [hp, join_flat] at hj
        simp only [List.tail_cons]
        conv => lhs; rw [← hj]
        simp
    · cases h
theorem next_lens {word : List UInt8} {n : Nat} {s : List UInt8} {l : Nat} {p : List (List UInt8)} {r : List UInt8} {l' : Nat} (h : nextP word n s l = .ok p r l') : l' + r.length ≤ l + s.length ∧ ∀ x ∈ p, x.length ≤ s.length := by
  obtain ⟨e, _, e2⟩ := next_spec h
  have hl := congrArg List.length e
  simp only [List.length_append, List.length_cons, List.length_nil] at hl
  refine ⟨by omega, fun x hx => ?_⟩
  have := part_len p x hx
  omega
/-- A number that was read. -/
def Gd (d : Dy) : Prop := Limbs d.l ∧ vld d = true
theorem parseL_spec : ∀ {p : List (List UInt8)} {ds : List Dy}, parseL p = .inl ds → p = ds.map textD ∧ ∀ d ∈ ds, Gd d := by
  intro p
  induction p with
  | nil => intro ds h; injection h with h; subst h; exact ⟨rfl, by simp⟩
  | cons t p ih =>
    intro ds h
    rw [parseL] at h
    split at h
    · rename_i h0
      have hs := parse_sound t
      split at h
      · rename_i r hr
        injection h with h
        subst h
        obtain ⟨e, hg⟩ := ih hr
        refine ⟨by rw [List.map_cons, hs.1 h0, ← e], fun d hd => ?_⟩
        rcases List.mem_cons.1 hd with rfl | hd
        · exact ⟨hs.2.1, hs.2.2.1⟩
        · exact hg d hd
      · cases h
    · cases h
theorem bind_eq {α β : Type} {o : Out α} {f : α → List UInt8 → Nat → Out β} {v : β} {r : List UInt8} {l : Nat} (h : o.bind f = .ok v r l) : ∃ u s k, o = .ok u s k ∧ f u s k = .ok v r l := by
  cases o with
  | ok u s k => exact ⟨u, s, k, rfl, h⟩
  | bad a b c => cases h
theorem nums_spec {word : List UInt8} {n : Nat} {s : List UInt8} {l : Nat} {ds : List Dy} {r : List UInt8} {l' : Nat} (h : numsP word n s l = .ok ds r l') :
    s = lineT word ds ++ r ∧ ds.length = n ∧ (∀ d ∈ ds, Gd d) ∧ l' = l + 1 := by
  obtain ⟨p, s1, l1, h1, h2⟩ := bind_eq h
  obtain ⟨e1, e2, e3⟩ := next_spec h1
  unfold toNums at h2
  cases hp : parseL p with
  | inr e => rw [hp] at h2; cases h2
  | inl q =>
    rw [hp] at h2
    injection h2 with a1 a2 a3
    subst a1 a2 a3
    obtain ⟨e, hg⟩ := parseL_spec hp
    subst e
    refine ⟨?_, by simpa using e2, hg, e3⟩
    rw [e1]
    unfold lineT numsT
    rw [List.flatMap_map]
theorem line_pos (word : List UInt8) (ds : List Dy) : 1 ≤ (lineT word ds).length := by unfold lineT; simp; omega
theorem nums_lens {word : List UInt8} {n : Nat} {s : List UInt8} {l : Nat} {ds : List Dy} {r : List UInt8} {l' : Nat} (h : numsP word n s l = .ok ds r l') : l' + r.length ≤ l + s.length := by
  obtain ⟨e, _, _, e2⟩ := nums_spec h
  have := congrArg List.length e
  have h1 := line_pos word ds
  simp only [List.length_append] at this
  omega
theorem pairs_spec : ∀ (n : Nat) (ds : List Dy), ds.length = 2 * n → (∀ d ∈ ds, Gd d) → endsL (pairs ds) = ds ∧ (pairs ds).length = n ∧ ∀ x ∈ pairs ds, x.all = false ∧ Gd x.lo ∧ Gd x.hi := by
  intro n
  induction n with
  | zero => intro ds h _; have : ds = [] := List.eq_nil_of_length_eq_zero (by omega); subst this; exact ⟨rfl, rfl, by intro x hx; cases hx⟩
  | succ n ih =>
    intro ds h hg
    match ds, h with
    | a :: b :: r, h =>
      obtain ⟨h1, h2, h3⟩ := ih r (by simp at h; omega) (fun d hd => hg d (by simp [hd]))
      refine ⟨?_, by rw [pairs, List.length_cons, h2], fun x hx => ?_⟩
      · rw [pairs]
        unfold endsL at h1 ⊢
        rw [List.flatMap_cons, h1]
        rfl
      · rw [pairs] at hx
        rcases List.mem_cons.1 hx with rfl | hx
        · exact ⟨rfl, hg a (by simp), hg b (by simp)⟩
        · exact h3 x hx
theorem ivs_spec {word : List UInt8} {n : Nat} {s : List UInt8} {l : Nat} {xs : List Iv} {r : List UInt8} {l' : Nat} (h : ivsP word n s l = .ok xs r l') :
    s = lineT word (endsL xs) ++ r ∧ xs.length = n ∧ (∀ x ∈ xs, x.all = false ∧ Gd x.lo ∧ Gd x.hi) ∧ l' = l + 1 := by
  obtain ⟨ds, s1, l1, h1, h2⟩ := bind_eq h
  obtain ⟨e1, e2, e3, e4⟩ := nums_spec h1
  injection h2 with a1 a2 a3
  subst a1 a2 a3
  obtain ⟨p1, p2, p3⟩ := pairs_spec n ds e2 e3
  exact ⟨by rw [p1]; exact e1, p2, p3, e4⟩
theorem rows_spec {word : List UInt8} {n : Nat} : ∀ {k : Nat} {s : List UInt8} {l : Nat} {m : List (List Dy)} {r : List UInt8} {l' : Nat}, rowsP word n k s l = .ok m r l' →
    s = rowsT word m ++ r ∧ m.length = k ∧ (∀ x ∈ m, x.length = n ∧ ∀ d ∈ x, Gd d) ∧ l' = l + k := by
  intro k
  induction k with
  | zero =>
    intro s l m r l' h
    injection h with a1 a2 a3
    subst a1 a2 a3
    exact ⟨rfl, rfl, (by intro x hx; cases hx), rfl⟩
  | succ k ih =>
    intro s l m r l' h
    obtain ⟨d, s1, l1, h1, h2⟩ := bind_eq h
    obtain ⟨q, s2, l2, h3, h4⟩ := bind_eq h2
    injection h4 with a1 a2 a3
    subst a1 a2 a3
    obtain ⟨e1, e2, e3, e4⟩ := nums_spec h1
    obtain ⟨f1, f2, f3, f4⟩ := ih h3
    refine ⟨?_, by rw [List.length_cons, f2], fun x hx => ?_, by omega⟩
    · rw [e1, f1]
      unfold rowsT
      rw [List.flatMap_cons, List.append_assoc]
    · rcases List.mem_cons.1 hx with rfl | hx
      · exact ⟨e2, e3⟩
      · exact f3 x hx
/-- A frame that was read. -/
structure GdF (n : Nat) (f : Fr) : Prop where
  c : f.c.length = n ∧ ∀ d ∈ f.c, Gd d
  a : f.a.length = n ∧ ∀ x ∈ f.a, x.length = n ∧ ∀ d ∈ x, Gd d
  r : f.r.length = n ∧ ∀ x ∈ f.r, x.all = false ∧ Gd x.lo ∧ Gd x.hi
theorem set_spec {n : Nat} {s : List UInt8} {l : Nat} {f : Fr} {r : List UInt8} {l' : Nat} (h : setP n s l = .ok f r l') : s = setT f ++ r ∧ GdF n f ∧ l' = l + (n + 2) := by
  obtain ⟨c, s1, l1, h1, h2⟩ := bind_eq h
  obtain ⟨a, s2, l2, h3, h4⟩ := bind_eq h2
  obtain ⟨b, s3, l3, h5, h6⟩ := bind_eq h4
  injection h6 with a1 a2 a3
  subst a1 a2 a3
  obtain ⟨e1, e2, e3, e4⟩ := nums_spec h1
  obtain ⟨f1, f2, f3, f4⟩ := rows_spec h3
  obtain ⟨g1, g2, g3, g4⟩ := ivs_spec h5
  refine ⟨?_, ⟨⟨e2, e3⟩, ⟨f2, f3⟩, ⟨g2, g3⟩⟩, by omega⟩
  rw [e1, f1, g1]
  simp [setT]
/-- A link that was read. -/
structure GdL (n : Nat) (x : Lk) : Prop where
  h : Gd x.h
  t : x.tube.length = n ∧ ∀ y ∈ x.tube, y.all = false ∧ Gd y.lo ∧ Gd y.hi
  e : GdF n x.e
  v : x.v.length = n ∧ ∀ y ∈ x.v, y.length = n ∧ ∀ d ∈ y, Gd d
theorem link_spec {n : Nat} {s : List UInt8} {l : Nat} {f : Lk} {r : List UInt8} {l' : Nat} (h : linkP n s l = .ok f r l') : s = linkT f ++ r ∧ GdL n f ∧ l' = l + (2 * n + 4) := by
  obtain ⟨c, s1, l1, h1, h2⟩ := bind_eq h
  obtain ⟨a, s2, l2, h3, h4⟩ := bind_eq h2
  obtain ⟨b, s3, l3, h5, h6⟩ := bind_eq h4
  obtain ⟨v, s4, l4, h7, h8⟩ := bind_eq h6
  injection h8 with a1 a2 a3
  subst a1 a2 a3
  obtain ⟨e1, e2, e3, e4⟩ := nums_spec h1
  obtain ⟨f1, f2, f3, f4⟩ := ivs_spec h3
  obtain ⟨g1, g2, g4⟩ := set_spec h5
  obtain ⟨i1, i2, i3, i4⟩ := rows_spec h7
  match c, e2, e1, e3 with
  | [d], _, e1, e3 =>
    refine ⟨?_, ⟨e3 d (by simp), ⟨f2, f3⟩, g2, ⟨i2, i3⟩⟩, by omega⟩
    rw [e1, f1, g1, i1]
    simp [linkT]
theorem links_spec {n : Nat} : ∀ {k : Nat} {s : List UInt8} {l : Nat} {m : List Lk} {r : List UInt8} {l' : Nat}, linksP n k s l = .ok m r l' →
    s = linksT m ++ r ∧ m.length = k ∧ (∀ x ∈ m, GdL n x) ∧ l' = l + k * (2 * n + 4) := by
  intro k
  induction k with
  | zero =>
    intro s l m r l' h
    injection h with a1 a2 a3
    subst a1 a2 a3
    exact ⟨rfl, rfl, (by intro x hx; cases hx), by omega⟩
  | succ k ih =>
    intro s l m r l' h
    obtain ⟨d, s1, l1, h1, h2⟩ := bind_eq h
    obtain ⟨q, s2, l2, h3, h4⟩ := bind_eq h2
    injection h4 with a1 a2 a3
    subst a1 a2 a3
    obtain ⟨e1, e2, e4⟩ := link_spec h1
    obtain ⟨f1, f2, f3, f4⟩ := ih h3
    refine ⟨?_, by rw [List.length_cons, f2], fun x hx => ?_, by rw [Nat.succ_mul]; omega⟩
    · rw [e1, f1]
      unfold linksT
      rw [List.flatMap_cons, List.append_assoc]
    · rcases List.mem_cons.1 hx with rfl | hx
      · exact e2
      · exact f3 x hx
theorem int_spec {t : List UInt8} {lo hi : Int} {s : List UInt8} {l : Nat} {v : Int} {r : List UInt8} {l' : Nat} (h : intR t lo hi s l = .ok v r l') : itoa v = t ∧ lo ≤ v ∧ v ≤ hi ∧ r = s ∧ l' = l := by
  unfold intR at h
  cases hp : intP t lo hi with
  | none => rw [hp] at h; cases h
  | some n =>
    rw [hp] at h
    injection h with a1 a2 a3
    subst a1 a2 a3
    unfold intP at hp
    split at hp
    · split at hp
      · rename_i hc
        injection hp with hp
        subst hp
        exact ⟨hc.1, hc.2.1, hc.2.2, rfl, rfl⟩
      · cases hp
    · cases hp
/-- A certificate that was read. -/
structure GdC (x : Ct) : Prop where
  s : GdF x.start.c.length x.start
  l : ∀ y ∈ x.links, GdL x.start.c.length y
theorem cert_spec {s : List UInt8} {l : Nat} {x : Ct} {r : List UInt8} {l' : Nat} (h : certP s l = .ok x r l') : s = textC x ++ r ∧ GdC x := by
  obtain ⟨p, s1, l1, h1, h2⟩ := bind_eq h
  obtain ⟨v0, s2, l2, h3, h4⟩ := bind_eq h2
  obtain ⟨v1, s3, l3, h5, h6⟩ := bind_eq h4
  obtain ⟨v2, s4, l4, h7, h8⟩ := bind_eq h6
  obtain ⟨v3, s5, l5, h9, h10⟩ := bind_eq h8
  obtain ⟨st, s6, l6, h11, h12⟩ := bind_eq h10
  obtain ⟨ls, s7, l7, h13, h14⟩ := bind_eq h12
  obtain ⟨q, s8, l8, h15, h16⟩ := bind_eq h14
  injection h16 with a1 a2 a3
  subst a1 a2 a3
  obtain ⟨e1, e2, _⟩ := next_spec h1
  obtain ⟨i1, _, _, rfl, rfl⟩ := int_spec h3
  obtain ⟨i2, _, _, rfl, rfl⟩ := int_spec h5
  obtain ⟨i3, b1, b2, rfl, rfl⟩ := int_spec h7
  obtain ⟨i4, b3, b4, rfl, rfl⟩ := int_spec h9
  obtain ⟨g1, g2, _⟩ := set_spec h11
  obtain ⟨k1, k2, k3, _⟩ := links_spec h13
  obtain ⟨n1, n2, _⟩ := next_spec h15
  have hq : q = [] := List.eq_nil_of_length_eq_zero n2
  subst hq
  have hn : st.c.length = v2.toNat := g2.c.1
  have hn2 : ((st.c.length : Nat) : Int) = v2 := by rw [hn]; omega
  have hk2 : ((ls.length : Nat) : Int) = v3 := by rw [k2]; omega
  match p, e2, e1, i1, i2, i3, i4 with
  | [t0, t1, t2, t3], _, e1, i1, i2, i3, i4 =>
    simp only [List.getD_cons_zero, List.getD_cons_succ] at i1 i2 i3 i4
    refine ⟨?_, ⟨by rw [hn]; exact g2, by rw [hn]; exact k3⟩⟩
    rw [e1, g1, k1, n1]
    unfold textC headT intsT headN
    simp only [hn2, hk2, List.flatMap_cons, List.flatMap_nil, i1, i2, i3, i4]
    simp [endW]

end Go.Proofs.YtekajoifgdpmlaaGreatDoor

/-! H9 -/
namespace Go.Proofs.YtekajoifgdpmlaaGreatDoor
open Go.RowKit Pl Go.Shelf
open Go.Lib (decDigits itoa)

/-- A part of a line: not empty, without a space or a newline. -/
def Pt (t : List UInt8) : Prop := t ≠ [] ∧ ∀ x ∈ t, x ≠ 10 ∧ x ≠ 32
theorem next_mk {word : List UInt8} {p : List (List UInt8)} {r : List UInt8} {l : Nat} (hw : Pt word) (hp : ∀ t ∈ p, Pt t) : nextP word p.length ((word ++ p.flatMap (fun x => 32 :: x) ++ [10]) ++ r) l = .ok p r (l + 1) := by
  have hall : ∀ t ∈ word :: p, Pt t := by
    intro t ht
    rcases List.mem_cons.1 ht with rfl | ht
    · exact hw
    · exact hp t ht
  have h10 : ∀ x ∈ joinC 32 (word :: p), x ≠ 10 := by
    rw [join_flat]
    intro x hx
    rcases List.mem_append.1 hx with hx | hx
    · exact (hw.2 x hx).1
    · obtain ⟨t, ht, hx⟩ := List.mem_flatMap.1 hx
      rcases List.mem_cons.1 hx with rfl | hx
      · decide
      · exact ((hp t ht).2 x hx).1
  have hs : splitC 32 (joinC 32 (word :: p)) = word :: p := split_join (by simp) (fun t ht x hx => ((hall t ht).2 x hx).2)
  have e : (word ++ p.flatMap (fun x => 32 :: x) ++ [10]) ++ r = joinC 32 (word :: p) ++ 10 :: r := by rw [join_flat]; simp
  unfold nextP
  rw [e, cutAt_mk h10]
  simp only []
  rw [hs]
  have hne : [] ∉ word :: p := fun hm => (hall [] hm).1 rfl
  have hg : goodP word p.length (word :: p) = true := by
    unfold goodP
    rw [decide_eq_false hne]
    simp
  rw [if_pos hg]
  rfl
theorem dig_pt {l : List UInt8} (h : l.all isDig = true) : ∀ x ∈ l, x ≠ 10 ∧ x ≠ 32 := by
  intro x hx
  have := List.all_eq_true.1 h x hx
  simp [isDig] at this
  constructor <;> intro e <;> subst e <;> simp at this
theorem itoa_pt (z : Int) : ∀ x ∈ itoa z, x ≠ 10 ∧ x ≠ 32 := by
  intro x hx
  unfold Lib.itoa at hx
  split at hx
  · rcases List.mem_cons.1 hx with rfl | hx
    · decide
    · exact dig_pt (dec_all _) x hx
  · exact dig_pt (dec_all _) x hx
theorem dec_ne (u : Nat) : decDigits u ≠ [] := by
  obtain ⟨c, r, e, _⟩ := dec_front u
  rw [e]; simp
theorem itoa_Pt (z : Int) : Pt (itoa z) := by
  refine ⟨?_, itoa_pt z⟩
  unfold Lib.itoa
  split
  · simp
  · exact dec_ne _
theorem text_Pt (d : Dy) : Pt (textD d) := by
  unfold textD
  split
  · exact ⟨by simp, by intro x hx; simp at hx; subst hx; decide⟩
  · refine ⟨by simp, fun x hx => ?_⟩
    rcases List.mem_append.1 hx with hx | hx
    · split at hx
      · simp at hx; subst hx; decide
      · cases hx
    · rcases List.mem_append.1 hx with hx | hx
      · rcases List.mem_append.1 hx with hx | hx
        · exact dig_pt (dec_all _) x hx
        · simp at hx; subst hx; decide
      · exact itoa_pt _ x hx
theorem parseL_mk : ∀ {ds : List Dy}, (∀ d ∈ ds, Gd d) → parseL (ds.map textD) = .inl ds := by
  intro ds
  induction ds with
  | nil => intro _; rfl
  | cons d ds ih =>
    intro h
    have hd := h d (by simp)
    rw [List.map_cons, parseL, parse_text hd.1 hd.2, ih (fun x hx => h x (by simp [hx]))]
    rfl
theorem nums_mk {word : List UInt8} {ds : List Dy} {r : List UInt8} {l : Nat} (hw : Pt word) (h : ∀ d ∈ ds, Gd d) : numsP word ds.length (lineT word ds ++ r) l = .ok ds r (l + 1) := by
  have hn := next_mk (p := ds.map textD) (r := r) (l := l) hw (fun t ht => by obtain ⟨d, _, rfl⟩ := List.mem_map.1 ht; exact text_Pt d)
  rw [List.length_map, List.flatMap_map] at hn
  unfold numsP lineT numsT
  rw [hn, bind_ok]
  unfold toNums
  rw [parseL_mk h]
theorem pairs_ends : ∀ {xs : List Iv}, (∀ x ∈ xs, x.all = false) → pairs (endsL xs) = xs := by
  intro xs
  induction xs with
  | nil => intro _; rfl
  | cons x xs ih =>
    intro h
    have hx := h x (by simp)
    show ⟨x.lo, x.hi, false⟩ :: pairs (endsL xs) = _
    rw [ih (fun y hy => h y (by simp [hy]))]
    cases x
    simp_all
theorem ivs_mk {word : List UInt8} {xs : List Iv} {r : List UInt8} {l : Nat} (hw : Pt word) (h : ∀ x ∈ xs, x.all = false ∧ Gd x.lo ∧ Gd x.hi) : ivsP word xs.length (lineT word (endsL xs) ++ r) l = .ok xs r (l + 1) := by
  have hn := nums_mk (word := word) (ds := endsL xs) (r := r) (l := l) hw (fun d hd => by
    obtain ⟨x, hx, hd⟩ := List.mem_flatMap.1 hd
    simp at hd
    rcases hd with rfl | rfl
    · exact (h x hx).2.1
    · exact (h x hx).2.2)
  rw [endsL_len] at hn
  unfold ivsP
  rw [hn, bind_ok, pairs_ends (fun x hx => (h x hx).1)]
theorem rows_mk {word : List UInt8} {n : Nat} (hw : Pt word) : ∀ {m : List (List Dy)} {r : List UInt8} {l : Nat}, (∀ x ∈ m, x.length = n ∧ ∀ d ∈ x, Gd d) → rowsP word n m.length (rowsT word m ++ r) l = .ok m r (l + m.length) := by
  intro m
  induction m with
  | nil => intro r l _; rfl
  | cons d m ih =>
    intro r l h
    have hd := h d (by simp)
    have e : rowsT word (d :: m) ++ r = lineT word d ++ (rowsT word m ++ r) := by unfold rowsT; rw [List.flatMap_cons, List.append_assoc]
    have hn := nums_mk (word := word) (ds := d) (r := rowsT word m ++ r) (l := l) hw hd.2
    rw [hd.1] at hn
    rw [List.length_cons, rowsP, e, hn, bind_ok, ih (fun x hx => h x (by simp [hx])), bind_ok]
    congr 1
    omega
theorem pt_of {t : List UInt8} (h : (!t.isEmpty && t.all (fun x => x != 10 && x != 32)) = true) : Pt t := by
  simp at h
  exact ⟨h.1, fun x hx => h.2 x hx⟩
theorem set_mk {n : Nat} {f : Fr} {r : List UInt8} {l : Nat} (h : GdF n f) : setP n (setT f ++ r) l = .ok f r (l + (n + 2)) := by
  have h1 := nums_mk (word := [99]) (r := rowsT [97] f.a ++ (lineT [114] (endsL f.r) ++ r)) (l := l) (pt_of rfl) h.c.2
  have h2 := rows_mk (word := [97]) (n := n) (pt_of rfl) (r := lineT [114] (endsL f.r) ++ r) (l := l + 1) h.a.2
  have h3 := ivs_mk (word := [114]) (r := r) (l := l + 1 + f.a.length) (pt_of rfl) h.r.2
  rw [h.c.1] at h1
  rw [h.a.1] at h2 h3
  rw [h.r.1] at h3
  have e : setT f ++ r = lineT [99] f.c ++ (rowsT [97] f.a ++ (lineT [114] (endsL f.r) ++ r)) := by unfold setT; simp
  unfold setP
  rw [e, h1, bind_ok, h2, bind_ok, h3, bind_ok]
  congr 1
  omega
theorem link_mk {n : Nat} {x : Lk} {r : List UInt8} {l : Nat} (h : GdL n x) : linkP n (linkT x ++ r) l = .ok x r (l + (2 * n + 4)) := by
  have h1 := nums_mk (word := stepW) (ds := [x.h]) (r := lineT tubeW (endsL x.tube) ++ (setT x.e ++ (rowsT [118] x.v ++ r))) (l := l) (pt_of rfl) (by intro d hd; simp at hd; subst hd; exact h.h)
  have h2 := ivs_mk (word := tubeW) (r := setT x.e ++ (rowsT [118] x.v ++ r)) (l := l + 1) (pt_of rfl) h.t.2
  have h3 := set_mk (r := rowsT [118] x.v ++ r) (l := l + 1 + 1) h.e
  have h4 := rows_mk (word := [118]) (n := n) (pt_of rfl) (r := r) (l := l + 1 + 1 + (n + 2)) h.v.2
  rw [h.t.1] at h2
  rw [h.v.1] at h4
  have e : linkT x ++ r = lineT stepW [x.h] ++ (lineT tubeW (endsL x.tube) ++ (setT x.e ++ (rowsT [118] x.v ++ r))) := by unfold linkT; simp
  unfold linkP
  rw [e]
  have h1' : numsP stepW 1 (lineT stepW [x.h] ++ (lineT tubeW (endsL x.tube) ++ (setT x.e ++ (rowsT [118] x.v ++ r)))) l = _ := h1
  rw [h1', bind_ok, h2, bind_ok, h3, bind_ok, h4, bind_ok]
  congr 1
  omega
theorem links_mk {n : Nat} : ∀ {m : List Lk} {r : List UInt8} {l : Nat}, (∀ x ∈ m, GdL n x) → linksP n m.length (linksT m ++ r) l = .ok m r (l + m.length * (2 * n + 4)) := by
  intro m
  induction m with
  | nil => intro r l _; show _ = Out.ok [] r _; simp [linksP, linksT]
  | cons d m ih =>
    intro r l h
    have e : linksT (d :: m) ++ r = linkT d ++ (linksT m ++ r) := by unfold linksT; rw [List.flatMap_cons, List.append_assoc]
    rw [List.length_cons, linksP, e, link_mk (h d (by simp)), bind_ok, ih (fun x hx => h x (by simp [hx])), bind_ok]
    congr 1
    generalize 2 * n + 4 = t
    rw [Nat.succ_mul]
    omega
theorem int_mk {z : Int} {lo hi : Int} {s : List UInt8} {l : Nat} (h0 : 0 ≤ lo) (h1 : lo ≤ z) (h2 : z ≤ hi) (h3 : hi ≤ 1000) : intR (itoa z) lo hi s l = .ok z s l := by
  obtain ⟨u, rfl⟩ : ∃ u : Nat, z = (u : Int) := ⟨z.toNat, by omega⟩
  have ha := atoi_itoa u (by omega)
  have hp : intP (itoa (u : Int)) lo hi = some (u : Int) := by
    unfold intP
    rw [ha]
    simp only []
    rw [if_pos ⟨trivial, h1, h2⟩]
  unfold intR
  rw [hp]
theorem iv_gd {x : Iv} (hL : LmI x) (hv : ivV x = true) (ha : x.all = false) : Gd x.lo ∧ Gd x.hi := by
  unfold ivV at hv
  rw [ha] at hv
  simp only [Bool.false_eq_true, if_false, Bool.and_eq_true] at hv
  exact ⟨⟨hL.1, hv.1.1⟩, ⟨hL.2, hv.1.2⟩⟩
theorem fr_gd {f : Fr} (hL : LmF f) (hv : frV f = true) : GdF f.c.length f := by
  obtain ⟨a1, a2, a3⟩ := frV_all hv
  unfold frV at hv
  simp only [Bool.and_eq_true, decide_eq_true_eq] at hv
  obtain ⟨⟨⟨⟨⟨⟨v1, v2⟩, v3⟩, v4⟩, v5⟩, v6⟩, v7⟩ := hv
  refine ⟨⟨rfl, fun d hd => ⟨hL.c d hd, a1 d hd⟩⟩, ⟨v3, fun x hx => ⟨?_, fun d hd => ⟨hL.a x hx d hd, a2 x hx d hd⟩⟩⟩, ⟨v4, fun x hx => ⟨(a3 x hx).2, iv_gd (hL.r x hx) (a3 x hx).1 (a3 x hx).2⟩⟩⟩
  have := any_not v6 x hx
  rw [Bool.or_eq_false_iff] at this
  simpa using this.1
theorem lk_gd {N : Nat} {x : Lk} (hL : LmL x) (hv : lkV N x = true) : GdL N x := by
  unfold lkV at hv
  simp only [Bool.and_eq_true, decide_eq_true_eq] at hv
  obtain ⟨⟨⟨⟨⟨⟨v1, v2⟩, v3⟩, v4⟩, v5⟩, v6⟩, v7⟩ := hv
  have hq := sqV_all v7
  unfold sqV at v7
  simp only [Bool.and_eq_true, decide_eq_true_eq] at v7
  refine ⟨⟨hL.h, v1⟩, ⟨v4, fun y hy => ⟨(boxV_all v3 y hy).2, iv_gd (hL.t y hy) (boxV_all v3 y hy).1 (boxV_all v3 y hy).2⟩⟩, by rw [← v6]; exact fr_gd hL.e v5, ⟨v7.1, fun y hy => ⟨?_, fun d hd => ⟨hL.v y hy d hd, hq y hy d hd⟩⟩⟩⟩
  have := any_not v7.2 y hy
  rw [Bool.or_eq_false_iff] at this
  simpa using this.1
theorem cert_mk {x : Ct} (hv : ctV x = true) (hL : LmC x) (l : Nat) : ∃ l', certP (textC x) l = .ok x [] l' := by
  obtain ⟨v1, v2, v3, v4, v5, v6, v7, v8, v9, v10⟩ := ctV_parts hv
  have h1 := next_mk (word := certW) (p := [itoa x.prec, itoa x.order, itoa (x.start.c.length : Int), itoa (x.links.length : Int)]) (r := setT x.start ++ (linksT x.links ++ endW)) (l := l) (pt_of rfl) (by
    intro t ht
    simp only [List.mem_cons, List.not_mem_nil, or_false] at ht
    rcases ht with rfl | rfl | rfl | rfl <;> exact itoa_Pt _)
  have h2 := set_mk (r := linksT x.links ++ endW) (l := l + 1) (fr_gd hL.s v1)
  have h3 := links_mk (n := x.start.c.length) (r := endW) (l := l + 1 + (x.start.c.length + 2)) (fun y hy => lk_gd (hL.l y hy) (v3 y hy))
  have h4 := next_mk (word := [101, 110, 100]) (p := []) (r := []) (l := l + 1 + (x.start.c.length + 2) + x.links.length * (2 * x.start.c.length + 4)) (pt_of rfl) (by intro t ht; cases ht)
  have e : textC x = (certW ++ [itoa x.prec, itoa x.order, itoa (x.start.c.length : Int), itoa (x.links.length : Int)].flatMap (fun x => 32 :: x) ++ [10]) ++ (setT x.start ++ (linksT x.links ++ endW)) := by
    unfold textC headT intsT headN
    simp
  refine ⟨l + 1 + (x.start.c.length + 2) + x.links.length * (2 * x.start.c.length + 4) + 1, ?_⟩
  unfold certP
  rw [e]
  have h1' : nextP certW 4 ((certW ++ [itoa x.prec, itoa x.order, itoa (x.start.c.length : Int), itoa (x.links.length : Int)].flatMap (fun x => 32 :: x) ++ [10]) ++ (setT x.start ++ (linksT x.links ++ endW))) l = _ := h1
  have h4' : nextP [101, 110, 100] 0 endW (l + 1 + (x.start.c.length + 2) + x.links.length * (2 * x.start.c.length + 4)) = _ := h4
  rw [h1', bind_ok]
  simp only [List.getD_cons_zero, List.getD_cons_succ]
  rw [int_mk (by omega) v4 v5 (by omega), bind_ok, int_mk (by omega) v6 v7 (by omega), bind_ok, int_mk (by omega) (by omega) (by omega) (by omega), bind_ok, int_mk (by omega) (by omega) (by omega) (by omega), bind_ok]
  rw [Int.toNat_natCast, Int.toNat_natCast, h2, bind_ok, h3, bind_ok, h4', bind_ok]
/-- A valid certificate is read back from its text. -/
theorem dec_text {x : Ct} (hv : ctV x = true) (hL : LmC x) (hl : (textC x).length ≤ 65536) : decP (textC x) = (x, 0, 0, 0) := by
  obtain ⟨l', h⟩ := cert_mk hv hL 0
  unfold decP
  rw [if_neg (by omega), h]
  simp [hv]

end Go.Proofs.YtekajoifgdpmlaaGreatDoor
