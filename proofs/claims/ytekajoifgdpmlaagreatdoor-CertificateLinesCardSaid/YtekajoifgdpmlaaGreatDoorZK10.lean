/- The lines of a certificate's text: how many there are, what SplitAfter makes of them, what Join makes of some of them. -/
import Derived.Lib.Join
import Derived.Test.YtekajoifgdpmlaaGreatDoorZ1
import Derived.Test.YtekajoifgdpmlaaGreatDoorZ2
import Derived.Test.YtekajoifgdpmlaaGreatDoorZ3
import Derived.Test.YtekajoifgdpmlaaGreatDoorZ4
import Derived.Test.YtekajoifgdpmlaaGreatDoorZ5
import Derived.Test.YtekajoifgdpmlaaGreatDoorZ6
import Derived.Test.YtekajoifgdpmlaaGreatDoorZ7
import Derived.Test.YtekajoifgdpmlaaGreatDoorZ8
import Derived.Test.YtekajoifgdpmlaaGreatDoorZ9
import Derived.Test.YtekajoifgdpmlaaGreatDoorZ10
import Derived.Test.YtekajoifgdpmlaaGreatDoorZ11
import Derived.Test.YtekajoifgdpmlaaGreatDoorZ12
import Derived.Test.YtekajoifgdpmlaaGreatDoorZ13
import Derived.Test.YtekajoifgdpmlaaGreatDoorZ14
import Derived.Test.YtekajoifgdpmlaaGreatDoorZ15
import Derived.Test.YtekajoifgdpmlaaGreatDoorZ16
import Derived.Test.YtekajoifgdpmlaaGreatDoorZ17
import Derived.Test.YtekajoifgdpmlaaGreatDoorZ18
import Derived.Test.YtekajoifgdpmlaaGreatDoorZ19
import Derived.Test.YtekajoifgdpmlaaGreatDoorZ20
import Derived.Test.YtekajoifgdpmlaaGreatDoorZ21
import Derived.Test.YtekajoifgdpmlaaGreatDoorZ22
import Derived.Test.YtekajoifgdpmlaaGreatDoorZX11
namespace Go.Proofs.YtekajoifgdpmlaaGreatDoor
open Go.RowKit Pl Go.Shelf
open Go.Lib (decDigits itoa)

/-- A line: it ends in a newline, and has no other. -/
def IsLn (l : List UInt8) : Prop := ∃ a : List UInt8, l = a ++ [10] ∧ ∀ c ∈ a, c ≠ 10
/-- The text S is just the lines ls. -/
structure Lns (ls : List (List UInt8)) (S : List UInt8) : Prop where
  eq : S = ls.flatten
  each : ∀ l ∈ ls, IsLn l
/-- The text S has m lines. -/
def LnM (m : Nat) (S : List UInt8) : Prop := ∃ ls, Lns ls S ∧ ls.length = m
theorem LnM.app {m n : Nat} {S R : List UInt8} (h : LnM m S) (k : LnM n R) : LnM (m + n) (S ++ R) := by
  obtain ⟨ls, ⟨e, f⟩, rfl⟩ := h
  obtain ⟨rs, ⟨e', f'⟩, rfl⟩ := k
  refine ⟨ls ++ rs, ⟨by rw [e, e']; simp, fun l hl => ?_⟩, by simp⟩
  rcases List.mem_append.1 hl with h | h
  · exact f l h
  · exact f' l h
theorem LnM.one {S : List UInt8} (h : IsLn S) : LnM 1 S := ⟨[S], ⟨by simp, by simpa using h⟩, rfl⟩
theorem numsT_no (l : List Dy) : ∀ c ∈ numsT l, c ≠ 10 := by
  intro c hc
  unfold numsT at hc
  obtain ⟨d, _, hd⟩ := List.mem_flatMap.1 hc
  rcases List.mem_cons.1 hd with rfl | hd
  · decide
  · exact ((text_Pt d).2 c hd).1
theorem line_ln {word : List UInt8} (hw : ∀ c ∈ word, c ≠ 10) (l : List Dy) : LnM 1 (lineT word l) :=
  LnM.one ⟨word ++ numsT l, rfl, fun c hc => by
    rcases List.mem_append.1 hc with h | h
    · exact hw c h
    · exact numsT_no l c h⟩
theorem rows_ln {word : List UInt8} (hw : ∀ c ∈ word, c ≠ 10) : ∀ (m : List (List Dy)), LnM m.length (rowsT word m) := by
  intro m
  induction m with
  | nil => exact ⟨[], ⟨rfl, by simp⟩, rfl⟩
  | cons r m ih =>
    have := (line_ln hw r).app ih
    rw [List.length_cons, Nat.add_comm]
    exact this
theorem set_ln {n : Nat} {f : Fr} (h : GdF n f) : LnM (2 + n) (setT f) := by
  have := ((line_ln (word := [99]) (by decide) f.c).app (rows_ln (word := [97]) (by decide) f.a)).app (line_ln (word := [114]) (by decide) (endsL f.r))
  rw [h.a.1] at this
  rw [show 2 + n = 1 + n + 1 by omega]
  exact this
theorem link_ln {n : Nat} {x : Lk} (h : GdL n x) : LnM (4 + 2 * n) (linkT x) := by
  have := (((line_ln (word := stepW) (by decide) [x.h]).app (line_ln (word := tubeW) (by decide) (endsL x.tube))).app (set_ln h.e)).app (rows_ln (word := [118]) (by decide) x.v)
  rw [h.v.1] at this
  rw [show 4 + 2 * n = 1 + 1 + (2 + n) + n by omega]
  exact this
theorem links_ln {n : Nat} : ∀ (l : List Lk), (∀ x ∈ l, GdL n x) → LnM (l.length * (4 + 2 * n)) (linksT l) := by
  intro l
  induction l with
  | nil => intro _; rw [show ([] : List Lk).length * (4 + 2 * n) = 0 by simp]; exact ⟨[], ⟨rfl, by simp⟩, rfl⟩
  | cons x l ih =>
    intro h
    have := (link_ln (h x (by simp))).app (ih (fun y hy => h y (by simp [hy])))
    rw [List.length_cons, Nat.succ_mul, Nat.add_comm]
    exact this
theorem head_ln (x : Ct) : LnM 1 (headT x) :=
  LnM.one ⟨certW ++ intsT (headN x), rfl, fun c hc => by
    rcases List.mem_append.1 hc with hc | hc
    · exact (show ∀ c ∈ certW, c ≠ 10 by decide) c hc
    · unfold intsT at hc
      obtain ⟨z, _, hd⟩ := List.mem_flatMap.1 hc
      rcases List.mem_cons.1 hd with rfl | hd
      · decide
      · exact ((itoa_Pt z).2 c hd).1⟩
theorem ct_gd {x : Ct} (hv : ctV x = true) (hL : LmC x) : GdC x := by
  obtain ⟨v1, v2, v3, _⟩ := ctV_parts hv
  exact ⟨fr_gd hL.s v1, fun y hy => lk_gd (hL.l y hy) (v3 y hy)⟩
/-- All but the last line. -/
theorem text_ln {x : Ct} (hv : ctV x = true) (hL : LmC x) : ∃ ls T, textC x = T ++ endW ∧ Lns ls T ∧ ls.length = 1 + (2 + x.start.c.length) + x.links.length * (4 + 2 * x.start.c.length) := by
  have hg := ct_gd hv hL
  obtain ⟨ls, h1, h2⟩ := ((head_ln x).app (set_ln hg.s)).app (links_ln x.links hg.l)
  exact ⟨ls, _, rfl, h1, h2⟩

/-- SplitAfter of lines. -/
theorem splitK_ln : ∀ (ls : List (List UInt8)), (∀ l ∈ ls, IsLn l) → (ls.flatten.count 10 = ls.length) ∧ Lib.splitK [10] 1 ls.length ls.flatten = ls ++ [[]] := by
  intro ls
  induction ls with
  | nil => intro _; exact ⟨rfl, rfl⟩
  | cons l ls ih =>
    intro h
    obtain ⟨a, rfl, ha⟩ := h l (by simp)
    obtain ⟨h1, h2⟩ := ih (fun l hl => h l (by simp [hl]))
    have hc : ((a ++ [10]) :: ls).flatten = a ++ 10 :: ls.flatten := by simp
    refine ⟨?_, ?_⟩
    · rw [hc, List.count_append, count_no 10 a ha, List.count_cons_self, h1, List.length_cons]; omega
    · have hix : Lib.index (a ++ 10 :: ls.flatten) [10] = (a.length : Int) := by rw [Lib.index_one]; exact indexC_yes 10 a _ ha
      rw [hc, List.length_cons, Lib.splitK, hix, if_neg (by simp)]
      have e1 : ((a.length : Int).toNat + 1) = a.length + 1 := by omega
      have e2 : ((a.length : Int).toNat + [(10 : UInt8)].length) = a.length + 1 := by simp
      rw [e1, e2, show a ++ 10 :: ls.flatten = (a ++ [10]) ++ ls.flatten by simp, List.drop_left' (by simp), List.take_left' (by simp), h2]
      rfl
theorem splitA (ls : List (List UInt8)) (h : ∀ l ∈ ls, IsLn l) : Lib.splitB ⟨#[10]⟩ 1 (Lib.countB ⟨ls.flatten.toArray⟩ ⟨#[10]⟩) ⟨ls.flatten.toArray⟩ = strs (ls ++ [[]]) ∧ Lib.countB ⟨ls.flatten.toArray⟩ ⟨#[10]⟩ = ls.length := by
  obtain ⟨k1, k2⟩ := splitK_ln ls h
  have h1 : Lib.countB ⟨ls.flatten.toArray⟩ ⟨#[10]⟩ = ls.length := by
    rw [← k1]
    show Lib.count ls.flatten [10] = _
    exact Lib.count_one 10 ls.flatten
  refine ⟨?_, h1⟩
  have h2 := Lib.splitB_data ⟨#[10]⟩ 1 ls.length ⟨ls.flatten.toArray⟩
  have h3 : (Lib.splitB ⟨#[10]⟩ 1 ls.length ⟨ls.flatten.toArray⟩).map (·.data.toList) = ls ++ [[]] := h2.trans k2
  rw [h1, ← h3]
  unfold strs
  rw [List.map_map]
  conv => lhs; rw [← List.map_id (Lib.splitB ⟨#[10]⟩ 1 ls.length ⟨ls.flatten.toArray⟩)]
  apply List.map_congr_left
  intro b _
  exact (mk_toList b).symm
theorem inter_flat : ∀ (l : List (List UInt8)), List.intercalate [] l = l.flatten := by
  intro l
  unfold List.intercalate
  induction l with
  | nil => rfl
  | cons x l ih =>
    cases l with
    | nil => simp
    | cons y l => simp at ih ⊢; exact ih
theorem join_strs (l : List (List UInt8)) : Lib.join ((strs l).map (·.data.toList)) [] = l.flatten := by
  unfold strs Lib.join
  rw [inter_flat, List.map_map]
  congr 1
  conv => rhs; rw [← List.map_id l]
  apply List.map_congr_left
  intro b _
  simp
/-- Some of the lines: what is left is not empty. -/
theorem cut_ln {x : Ct} {ls : List (List UInt8)} {T : List UInt8} (hv : ctV x = true) (hL : LmC x) (hl : (textC x).length ≤ 65536) (e : textC x = T ++ endW) (h : Lns ls T) (j : Nat) : decP (ls.take j).flatten = (zeroC, 0, 0, 4) := by
  refine dec_cut (A := (ls.take j).flatten) (B := (ls.drop j).flatten ++ endW) hv hL hl ?_ ?_ (by simp [endW])
  · rw [e, h.eq, ← List.append_assoc, ← List.flatten_append, List.take_append_drop]
  · cases hr : (ls.take j).reverse with
    | nil => left; have : ls.take j = [] := by simpa using hr
             rw [this]; rfl
    | cons y t =>
      right
      have hr' : ls.take j = t.reverse ++ [y] := by rw [← List.reverse_reverse (ls.take j), hr]; simp
      obtain ⟨a, rfl, _⟩ := h.each y (List.mem_of_mem_take (i := j) (by rw [hr']; simp))
      refine ⟨t.reverse.flatten ++ a, ?_⟩
      rw [hr']; simp

end Go.Proofs.YtekajoifgdpmlaaGreatDoor
