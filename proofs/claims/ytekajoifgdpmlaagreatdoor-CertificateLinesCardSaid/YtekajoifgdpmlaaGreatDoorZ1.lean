/- Bundle 1: what the laws' walks stand on: Math, Words. -/
import Derived.WalkKit
import Derived.WalkSpells
import Derived.WalkLawsBesides
import Derived.Lib.Hide
import Derived.Deep.Draws
import Derived.Maps.AppendAt
import Derived.Deep.AppendLies
/-! Math -/
namespace Go.Proofs.YtekajoifgdpmlaaGreatDoor.Pl

/-- The number of some limbs. -/
def val : List Nat → Nat
  | [] => 0
  | x :: l => x + 4294967296 * val l

def digsF : Nat → Nat → List Nat
  | 0, _ => []
  | f + 1, n => if n = 0 then [] else n % 4294967296 :: digsF f (n / 4294967296)
/-- The limbs of a number, without zeros at the top. -/
def digs (n : Nat) : List Nat := digsF n n

def Limbs (l : List Nat) : Prop := ∀ x ∈ l, x < 4294967296

theorem digsF_enough (f g n : Nat) (hf : n ≤ f) (hg : n ≤ g) : digsF f n = digsF g n := by
  induction f generalizing g n with
  | zero => obtain rfl : n = 0 := by omega
            cases g <;> simp [digsF]
  | succ f ih =>
    cases g with
    | zero => obtain rfl : n = 0 := by omega
              simp [digsF]
    | succ g =>
      simp only [digsF]
      split
      · rfl
      · rw [ih g (n / 4294967296) (by omega) (by omega)]

theorem digs_zero : digs 0 = [] := rfl
theorem digs_pos (n : Nat) (h : 0 < n) : digs n = n % 4294967296 :: digs (n / 4294967296) := by
  unfold digs
  obtain ⟨k, rfl⟩ : ∃ k, n = k + 1 := ⟨n - 1, by omega⟩
  rw [show digsF (k + 1) (k + 1) = if k + 1 = 0 then [] else (k + 1) % 4294967296 :: digsF k ((k + 1) / 4294967296) from rfl, if_neg (by omega)]
  rw [digsF_enough k ((k + 1) / 4294967296) ((k + 1) / 4294967296) (by omega) (by omega)]

theorem val_digs (n : Nat) : val (digs n) = n := by
  induction n using Nat.strongRecOn with
  | ind n ih =>
    by_cases h : 0 < n
    · rw [digs_pos n h, val, ih (n / 4294967296) (by omega)]; omega
    · obtain rfl : n = 0 := by omega
      rfl

theorem limbs_digs (n : Nat) : Limbs (digs n) := by
  induction n using Nat.strongRecOn with
  | ind n ih =>
    by_cases h : 0 < n
    · rw [digs_pos n h]
      intro x hx
      rcases List.mem_cons.1 hx with rfl | hx
      · omega
      · exact ih (n / 4294967296) (by omega) x hx
    · obtain rfl : n = 0 := by omega
      intro x hx; simp [digs_zero] at hx

theorem digs_cons (x v : Nat) (hx : x < 4294967296) (h : 0 < x + 4294967296 * v) : digs (x + 4294967296 * v) = x :: digs v := by
  rw [digs_pos _ h]
  congr 1
  · omega
  · congr 1; omega

theorem Limbs.tail {x : Nat} {l : List Nat} (h : Limbs (x :: l)) : Limbs l := fun y hy => h y (List.mem_cons_of_mem _ hy)
theorem Limbs.head {x : Nat} {l : List Nat} (h : Limbs (x :: l)) : x < 4294967296 := h x (List.mem_cons_self ..)
theorem Limbs.take {l : List Nat} (h : Limbs l) (k : Nat) : Limbs (l.take k) := fun x hx => h x (List.mem_of_mem_take hx)
theorem Limbs.drop {l : List Nat} (h : Limbs l) (k : Nat) : Limbs (l.drop k) := fun x hx => h x (List.mem_of_mem_drop hx)
theorem Limbs.append {l m : List Nat} (h : Limbs l) (h' : Limbs m) : Limbs (l ++ m) := fun x hx => (List.mem_append.1 hx).elim (h x) (h' x)
theorem Limbs.nil : Limbs [] := fun x hx => by cases hx
theorem Limbs.single {x : Nat} (h : x < 4294967296) : Limbs [x] := fun y hy => by rw [List.mem_singleton.1 hy]; exact h
theorem Limbs.get {l : List Nat} (h : Limbs l) {i x : Nat} (hi : l[i]? = some x) : x < 4294967296 := h x (List.mem_of_getElem? hi)

theorem val_append (l m : List Nat) : val (l ++ m) = val l + 4294967296 ^ l.length * val m := by
  induction l with
  | nil => simp [val]
  | cons x l ih =>
    rw [List.cons_append, val, ih, val, List.length_cons, Nat.pow_succ, Nat.mul_add, Nat.mul_comm (4294967296 ^ l.length) 4294967296, Nat.mul_assoc]
    omega
theorem val_single (x : Nat) : val [x] = x := by simp [val]
theorem val_snoc (l : List Nat) (x : Nat) : val (l ++ [x]) = val l + 4294967296 ^ l.length * x := by rw [val_append, val_single]
theorem val_take_succ (l : List Nat) (k x : Nat) (h : l[k]? = some x) : val (l.take (k + 1)) = val (l.take k) + 4294967296 ^ k * x := by
  have hk : k < l.length := by
    rcases Nat.lt_or_ge k l.length with h' | h'
    · exact h'
    · rw [List.getElem?_eq_none h'] at h; cases h
  have hx : l[k] = x := by rw [List.getElem?_eq_getElem hk] at h; injection h
  rw [List.take_succ_eq_append_getElem hk, val_snoc, hx, List.length_take, Nat.min_eq_left (by omega)]
theorem val_take_drop (l : List Nat) (k : Nat) : val l = val (l.take k) + 4294967296 ^ (l.take k).length * val (l.drop k) := by
  rw [← val_append, List.take_append_drop]
theorem val_lt (l : List Nat) (h : Limbs l) : val l < 4294967296 ^ l.length := by
  induction l with
  | nil => simp [val]
  | cons x l ih =>
    have := ih h.tail
    have hx := h.head
    rw [val, List.length_cons, Nat.pow_succ]
    omega
theorem val_zero_of {l : List Nat} (h : ∀ x ∈ l, x = 0) : val l = 0 := by
  induction l with
  | nil => rfl
  | cons x l ih => rw [val, ih (fun y hy => h y (List.mem_cons_of_mem _ hy)), h x (List.mem_cons_self ..)]

/-- Limbs without a zero at the top. -/
def Trim (l : List Nat) : Prop := l.getLast? ≠ some 0

theorem digs_val (l : List Nat) (h : Limbs l) (ht : Trim l) : digs (val l) = l := by
  induction l with
  | nil => rfl
  | cons x l ih =>
    have hx := h.head
    cases l with
    | nil =>
      have h0 : x ≠ 0 := by
        rintro rfl
        exact ht rfl
      rw [val, digs_cons x _ hx (by omega)]; rfl
    | cons y l =>
      have ht' : Trim (y :: l) := by
        unfold Trim at ht ⊢
        rwa [List.getLast?_cons_cons] at ht
      have e := ih h.tail ht'
      have hp : 0 < val (y :: l) := by
        rcases Nat.eq_zero_or_pos (val (y :: l)) with h0 | h0
        · rw [h0] at e; cases e
        · exact h0
      rw [val, digs_cons x _ hx (by omega), e]

theorem trim_digs (n : Nat) : Trim (digs n) := by
  induction n using Nat.strongRecOn with
  | ind n ih =>
    by_cases h : 0 < n
    · rw [digs_pos n h]
      unfold Trim
      by_cases h2 : 0 < n / 4294967296
      · have := ih (n / 4294967296) (by omega)
        rw [digs_pos _ h2] at this ⊢
        unfold Trim at this
        rwa [List.getLast?_cons_cons]
      · have h0 : n / 4294967296 = 0 := by omega
        rw [h0, digs_zero]
        simp
        omega
    · obtain rfl : n = 0 := by omega
      simp [Trim, digs_zero]

theorem digs_inj {a b : Nat} (h : digs a = digs b) : a = b := by rw [← val_digs a, ← val_digs b, h]

theorem digs_length_lt (n k : Nat) (h : n < 4294967296 ^ k) : (digs n).length ≤ k := by
  induction k generalizing n with
  | zero => obtain rfl : n = 0 := by simp at h; omega
            simp [digs_zero]
  | succ k ih =>
    by_cases hp : 0 < n
    · rw [digs_pos n hp, List.length_cons]
      have := ih (n / 4294967296) (by rw [Nat.pow_succ] at h; omega)
      omega
    · obtain rfl : n = 0 := by omega
      simp [digs_zero]
theorem lt_digs_length (n : Nat) : n < 4294967296 ^ (digs n).length := by
  have := val_lt (digs n) (limbs_digs n)
  rwa [val_digs] at this
theorem le_digs_length (n : Nat) (h : 0 < n) : 4294967296 ^ ((digs n).length - 1) ≤ n := by
  induction n using Nat.strongRecOn with
  | ind n ih =>
    rw [digs_pos n h, List.length_cons, Nat.add_sub_cancel]
    by_cases h2 : 0 < n / 4294967296
    · have := ih (n / 4294967296) (by omega) h2
      have hl : 0 < (digs (n / 4294967296)).length := by rw [digs_pos _ h2]; simp
      obtain ⟨k, hk⟩ : ∃ k, (digs (n / 4294967296)).length = k + 1 := ⟨_ - 1, (Nat.succ_pred_eq_of_pos hl).symm⟩
      rw [hk] at this ⊢
      simp only [Nat.add_sub_cancel] at this
      rw [Nat.pow_succ]; omega
    · have h0 : n / 4294967296 = 0 := by omega
      rw [h0, digs_zero]; simp; omega

theorem digs_val_len (l : List Nat) (h : Limbs l) : (digs (val l)).length ≤ l.length := digs_length_lt _ _ (val_lt l h)

/-- What a loop that drops zeros at the top leaves. -/
theorem take_trim (l : List Nat) (h : Limbs l) (k : Nat) (hk : k ≤ l.length) (hz : ∀ j, k ≤ j → j < l.length → l[j]? = some 0) (he : k = 0 ∨ l[k - 1]? ≠ some 0) : l.take k = digs (val l) := by
  have hd : val (l.drop k) = 0 := val_zero_of (by
    intro x hx
    obtain ⟨i, hi, rfl⟩ := List.mem_iff_getElem.1 hx
    have hi' : k + i < l.length := by rw [List.length_drop] at hi; omega
    have := hz (k + i) (by omega) hi'
    rw [List.getElem?_eq_getElem hi'] at this
    rw [List.getElem_drop]
    injection this)
  have hv : val l = val (l.take k) := by rw [val_take_drop l k, hd]; omega
  rw [hv, digs_val _ (h.take k)]
  unfold Trim
  rcases he with rfl | he
  · simp
  · by_cases h0 : k = 0
    · subst h0; simp
    · rw [List.getLast?_eq_getElem?, List.length_take, Nat.min_eq_left hk, List.getElem?_take_of_lt (by omega)]
      exact he
/-- The limbs of a list are its first ones, and zeros behind them. -/
theorem digs_take (l : List Nat) (h : Limbs l) : l.take (digs (val l)).length = digs (val l) := by
  suffices H : ∀ n, n ≤ l.length → (∀ j, n ≤ j → j < l.length → l[j]? = some 0) → ∃ k, k ≤ l.length ∧ (∀ j, k ≤ j → j < l.length → l[j]? = some 0) ∧ (k = 0 ∨ l[k - 1]? ≠ some 0) by
    obtain ⟨k, hk, hz, he⟩ := H l.length (Nat.le_refl _) (fun j h1 h2 => absurd h2 (by omega))
    have e := take_trim l h k hk hz he
    have : (digs (val l)).length = k := by rw [← e, List.length_take, Nat.min_eq_left hk]
    rw [this, e]
  intro n
  induction n with
  | zero => intro hn hz; exact ⟨0, hn, hz, .inl rfl⟩
  | succ n ih =>
    intro hn hz
    by_cases hl : l[n]? = some 0
    · exact ih (by omega) (fun j h1 h2 => by
        rcases Nat.eq_or_lt_of_le h1 with rfl | h1
        · exact hl
        · exact hz j h1 h2)
    · exact ⟨n + 1, hn, hz, .inr hl⟩

/-- The number of the bits of a number. -/
def blen (n : Nat) : Nat := if n = 0 then 0 else n.log2 + 1

theorem blen_zero : blen 0 = 0 := rfl
theorem lt_blen (n : Nat) : n < 2 ^ blen n := by
  unfold blen
  split
  · omega
  · exact Nat.lt_log2_self
theorem le_blen (n : Nat) (h : 0 < n) : 2 ^ (blen n - 1) ≤ n := by
  unfold blen
  rw [if_neg (by omega), Nat.add_sub_cancel]
  exact Nat.log2_self_le (by omega)
theorem blen_pos (n : Nat) (h : 0 < n) : 0 < blen n := by unfold blen; rw [if_neg (by omega)]; omega
theorem pow2_lt {a b : Nat} (h : 2 ^ a < 2 ^ b) : a < b := (Nat.pow_lt_pow_iff_right (by omega)).1 h
theorem blen_le_of (n k : Nat) (h : n < 2 ^ k) : blen n ≤ k := by
  rcases Nat.eq_zero_or_pos n with rfl | h0
  · simp [blen]
  · have h1 := le_blen n h0
    have h2 := blen_pos n h0
    have := pow2_lt (Nat.lt_of_le_of_lt h1 h)
    omega
theorem lt_blen_of (n k : Nat) (h : 2 ^ k ≤ n) : k < blen n := pow2_lt (Nat.lt_of_le_of_lt h (lt_blen n))
theorem blen_eq (n k : Nat) (h1 : 2 ^ k ≤ n) (h2 : n < 2 ^ (k + 1)) : blen n = k + 1 := by
  have := blen_le_of n (k + 1) h2
  have := lt_blen_of n k h1
  omega
theorem base_pow (k : Nat) : 4294967296 ^ k = 2 ^ (32 * k) := by rw [Nat.pow_mul]
theorem blen_mul_pow (n k : Nat) (h : 0 < n) : blen (n * 2 ^ k) = blen n + k := by
  have h1 := le_blen n h
  have h2 := lt_blen n
  have h3 := blen_pos n h
  obtain ⟨b, hb⟩ : ∃ b, blen n = b + 1 := ⟨blen n - 1, by omega⟩
  rw [hb] at h1 h2 ⊢
  rw [Nat.add_sub_cancel] at h1
  have := blen_eq (n * 2 ^ k) (b + k) (by rw [Nat.pow_add]; exact Nat.mul_le_mul_right _ h1) (by
    rw [show b + k + 1 = b + 1 + k from by omega, Nat.pow_add]; exact Nat.mul_lt_mul_of_pos_right h2 (Nat.two_pow_pos k))
  omega

/-- The bits of trimmed limbs, by the top one. -/
theorem blen_top (l : List Nat) (h : Limbs l) (k x b : Nat) (hl : l.length = k + 1) (hx : l[k]? = some x) (h1 : 2 ^ b ≤ x) (h2 : x < 2 ^ (b + 1)) : blen (val l) = 32 * k + (b + 1) := by
  have e : val l = val (l.take k) + 4294967296 ^ k * x := by
    have := val_take_succ l k x hx
    rwa [List.take_of_length_le (by omega)] at this
  have hlt : val (l.take k) < 4294967296 ^ k := by
    have := val_lt (l.take k) (h.take k)
    rwa [List.length_take, Nat.min_eq_left (by omega)] at this
  rw [e]
  rw [base_pow] at hlt ⊢
  have := blen_eq (val (l.take k) + 2 ^ (32 * k) * x) (32 * k + b) (by
    rw [Nat.pow_add]
    have := Nat.mul_le_mul_left (2 ^ (32 * k)) h1
    omega) (by
    rw [show 32 * k + b + 1 = 32 * k + (b + 1) from by omega, Nat.pow_add]
    have : 2 ^ (32 * k) * (x + 1) ≤ 2 ^ (32 * k) * 2 ^ (b + 1) := Nat.mul_le_mul_left _ h2
    rw [Nat.mul_add] at this
    omega)
  omega

/-- How two numbers compare. -/
def cmpN (x y : Nat) : Int := if x < y then -1 else if y < x then 1 else 0

theorem lt_of_digs_len {x y : Nat} (h : (digs x).length < (digs y).length) : x < y := by
  rcases Nat.lt_or_ge x y with h' | h'
  · exact h'
  · have := digs_length_lt y (digs x).length (Nat.lt_of_le_of_lt h' (lt_digs_length x))
    omega
theorem val_lt_of_top {l m : List Nat} (hl : Limbs l) {k x y : Nat} (hlen : l.length = m.length) (hd : l.drop (k + 1) = m.drop (k + 1)) (hx : l[k]? = some x) (hy : m[k]? = some y) (hxy : x < y) : val l < val m := by
  have hk : k < l.length := by
    rcases Nat.lt_or_ge k l.length with h' | h'
    · exact h'
    · rw [List.getElem?_eq_none h'] at hx; cases hx
  have e1 := val_take_succ l k x hx
  have e2 := val_take_succ m k y hy
  have hlt := val_lt (l.take k) (hl.take k)
  rw [List.length_take, Nat.min_eq_left (by omega)] at hlt
  rw [val_take_drop l (k + 1), val_take_drop m (k + 1), hd, List.length_take, List.length_take, hlen, e1, e2]
  have : 4294967296 ^ k * (x + 1) ≤ 4294967296 ^ k * y := Nat.mul_le_mul_left _ hxy
  rw [Nat.mul_add] at this
  omega
theorem cmpN_lt {x y : Nat} (h : x < y) : cmpN x y = -1 := by simp [cmpN, h]
theorem cmpN_gt {x y : Nat} (h : y < x) : cmpN x y = 1 := by unfold cmpN; rw [if_neg (by omega), if_pos h]
theorem cmpN_eq {x y : Nat} (h : x = y) : cmpN x y = 0 := by unfold cmpN; rw [if_neg (by omega), if_neg (by omega)]

end Go.Proofs.YtekajoifgdpmlaaGreatDoor.Pl

/-! Words -/
namespace Go.Proofs.YtekajoifgdpmlaaGreatDoor
open Go.RowKit Pl

theorem add_of_add (a : Addr) (i j : Nat) : (a.add i).add j = a.add (i + j) := by
  unfold Addr.add
  by_cases hi : i = 0 <;> by_cases hj : j = 0 <;> simp [hi, hj, Nat.add_assoc]
theorem add_mk (g i : Nat) : (⟨g, 0, none⟩ : Addr).add i = ⟨g, i, none⟩ := by
  unfold Addr.add
  split
  · subst_vars; rfl
  · simp

/-- A cell of a row of uint32. -/
def u32 (x : Nat) : Value := .int .u32 (x : Int)

theorem below_drewN {B : Nat} {a w : World} (h : Below B a w) (n : Nat) : Below B a (w.drewN n) := ⟨h.os, h.tape, h.output, h.size, h.block⟩
theorem bcell {B : Nat} {W w1 : World} (hb : Below B W w1) : (∀ b o, b < B → w1.cell? ⟨b, o, none⟩ = W.cell? ⟨b, o, none⟩) ∧ (∀ b o, b < B → w1.frozen? ⟨b, o, none⟩ = W.frozen? ⟨b, o, none⟩) :=
  ⟨fun b o h => hb.cell (p := ⟨b, o, none⟩) h, fun b o h => hb.frozen (p := ⟨b, o, none⟩) h⟩
/-- From the world of a call to its caller's: a callee that leaves what was there. -/
theorem bthen {B : Nat} {a b c : World} (h : Below B a b) (k : Below b.heap.size b c) (hB : B ≤ a.heap.size) : Below B a c := h.trans (k.mono (Nat.le_trans hB h.size))

theorem ballo (w : World) (o : Obj) : Below w.heap.size w (w.alloc o) := (Below.refl _ _).alloc (Nat.le_refl _) _
theorem bnext {a b c : World} (h : Below a.heap.size a b) (k : Below b.heap.size b c) : Below a.heap.size a c := h.trans (k.mono h.size)

/-- The slice value '.slice A n c' reads, in w, as the limbs l. -/
structure SL (w : World) (A : Option Addr) (n c : Nat) (l : List Nat) : Prop where
  len : l.length = n
  cap : n ≤ c
  max : c ≤ 9223372036854775807
  lt : Limbs l
  at_ : 0 < n → ∃ b off, A = some ⟨b, off, none⟩ ∧ b < w.heap.size ∧ ∀ (j x : Nat), l[j]? = some x → w.cell? ⟨b, off + j, none⟩ = some (.int .u32 (x : Int))

/-- The slice lies in a block that is not older than B (or has no element). -/
def Fresh (B : Nat) (A : Option Addr) (n : Nat) : Prop := 0 < n → ∃ ad, A = some ad ∧ B ≤ ad.block

section
variable {w w' : World} {A : Option Addr} {n c : Nat} {l : List Nat}
theorem SL.get (h : SL w A n c l) {k : Nat} (hk : k < n) : ∃ (b off x : Nat), A = some ⟨b, off, none⟩ ∧ b < w.heap.size ∧ l[k]? = some x ∧ w.cell? ⟨b, off + k, none⟩ = some (.int .u32 (x : Int)) ∧ x < 4294967296 := by
  obtain ⟨b, off, e, hb, hc⟩ := h.at_ (by omega)
  have hl : k < l.length := by have := h.len; omega
  exact ⟨b, off, l[k], e, hb, List.getElem?_eq_getElem hl, hc k _ (List.getElem?_eq_getElem hl), h.lt _ (List.getElem_mem hl)⟩
/-- The same under a known address. -/
theorem SL.get' {b off : Nat} (h : SL w (some ⟨b, off, none⟩) n c l) {k : Nat} (hk : k < n) : ∃ (x : Nat), b < w.heap.size ∧ l[k]? = some x ∧ w.cell? ⟨b, off + k, none⟩ = some (.int .u32 (x : Int)) ∧ x < 4294967296 := by
  obtain ⟨b', off', x, e, r⟩ := h.get hk
  injection e with e
  injection e with e1 e2
  subst e1 e2
  exact ⟨x, r⟩
theorem SL.keep (h : SL w A n c l) (hs : w.heap.size ≤ w'.heap.size) (hk : ∀ p : Addr, p.block < w.heap.size → w'.cell? p = w.cell? p) : SL w' A n c l :=
  ⟨h.len, h.cap, h.max, h.lt, fun hn => by
    obtain ⟨b, off, e, hb, hc⟩ := h.at_ hn
    exact ⟨b, off, e, by omega, fun j u hu => (hk _ hb).trans (hc j u hu)⟩⟩
theorem SL.below (h : SL w A n c l) (hb : Below w.heap.size w w') : SL w' A n c l := h.keep hb.size fun _ hp => hb.cell hp
theorem SL.alloc (h : SL w A n c l) (o : Obj) : SL (w.alloc o) A n c l := h.below ((Below.refl _ _).alloc (Nat.le_refl _) _)
theorem SL.drew (h : SL w A n c l) : SL w.drew A n c l := ⟨h.len, h.cap, h.max, h.lt, h.at_⟩
theorem SL.drewN (h : SL w A n c l) (k : Nat) : SL (w.drewN k) A n c l := ⟨h.len, h.cap, h.max, h.lt, h.at_⟩
theorem SL.take (h : SL w A n c l) {k : Nat} (hk : k ≤ n) : SL w A k c (l.take k) :=
  ⟨by rw [List.length_take, h.len]; omega, by have := h.cap; omega, h.max, h.lt.take k, fun hn => by
    obtain ⟨b, off, e, hb, hc⟩ := h.at_ (by omega)
    refine ⟨b, off, e, hb, fun j x hx => hc j x ?_⟩
    by_cases hj : j < k
    · rwa [List.getElem?_take_of_lt hj] at hx
    · rw [List.getElem?_take_eq_none (by omega)] at hx; cases hx⟩
theorem SL.trim (h : SL w A n c l) : SL w A (digs (val l)).length c (digs (val l)) := by
  have h1 := digs_val_len l h.lt
  have h2 := h.len
  have := h.take (k := (digs (val l)).length) (by omega)
  rwa [digs_take l h.lt] at this
theorem SL.clip (h : SL w A n c l) : SL w A n n l := ⟨h.len, Nat.le_refl _, by have := h.cap; have := h.max; omega, h.lt, h.at_⟩
theorem SL.nil (w : World) : SL w none 0 0 [] := ⟨rfl, by omega, by omega, Limbs.nil, fun h => absurd h (by omega)⟩
/-- A cut 's[k:]' with an element left. -/
theorem SL.drop {b off : Nat} (h : SL w (some ⟨b, off, none⟩) n c l) {k : Nat} (hk : k ≤ n) : SL w (some ⟨b, off + k, none⟩) (n - k) (c - k) (l.drop k) := by
  have hc := h.cap
  refine ⟨by rw [List.length_drop, h.len], by omega, by have := h.max; omega, h.lt.drop k, fun hn => ?_⟩
  obtain ⟨b', off', e, hb, hcell⟩ := h.at_ (by omega)
  injection e with e
  injection e with e1 e2
  subst e1 e2
  refine ⟨_, _, rfl, hb, fun j u hu => ?_⟩
  rw [Nat.add_assoc]
  exact hcell _ u (by rw [← hu, List.getElem?_drop])
theorem SL.empty (h : SL w A n c l) (h0 : n = 0) : l = [] := List.eq_nil_of_length_eq_zero (by rw [h.len, h0])
theorem SL.one (w : World) (t : TypeId) (x : Nat) (hx : x < 4294967296) : SL (w.alloc (.cells #[.int .u32 (x : Int)] t)) (some ⟨w.heap.size, 0, none⟩) 1 1 [x] :=
  ⟨rfl, by omega, by omega, Limbs.single hx, fun _ => ⟨_, _, rfl, by simp, fun j y hy => by
    rcases j with _ | j
    · simp at hy; subst hy; simp
    · simp at hy⟩⟩
theorem SL.oneI (w : World) (t : TypeId) (z : Int) (x : Nat) (hz : z = (x : Int)) (hx : x < 4294967296) : SL (w.alloc (.cells #[.int .u32 z] t)) (some ⟨w.heap.size, 0, none⟩) 1 1 [x] := by
  subst hz; exact SL.one w t x hx
theorem Fresh.mono {B B' : Nat} (h : Fresh B A n) (hB : B' ≤ B) : Fresh B' A n := fun hn => by
  obtain ⟨ad, e, hb⟩ := h hn
  exact ⟨ad, e, by omega⟩
theorem Fresh.less {B m : Nat} (h : Fresh B A n) (hm : m ≤ n) : Fresh B A m := fun hn => h (by omega)
theorem Fresh.zero {B : Nat} : Fresh B A 0 := fun h => absurd h (by omega)
end

/-- Block g is just the cells cs of element type t, none frozen. -/
def Blk (w : World) (g : Nat) (t : TypeId) (cs : Array Value) : Prop := w.heap[g]? = some (.cells cs t (0, 0))
section
variable {w w' : World} {g : Nat} {t : TypeId} {cs : Array Value}
theorem Blk.lt (h : Blk w g t cs) : g < w.heap.size := by
  rcases Nat.lt_or_ge g w.heap.size with hlt | hge
  · exact hlt
  · unfold Blk at h; rw [Array.getElem?_eq_none hge] at h; cases h
theorem Blk.cell (h : Blk w g t cs) (i : Nat) : w.cell? ⟨g, i, none⟩ = cs[i]? := by
  unfold Blk at h
  simp [World.cell?, h]
theorem Blk.frozen (h : Blk w g t cs) (i : Nat) : w.frozen? ⟨g, i, none⟩ = false := by
  unfold Blk at h
  simp [World.frozen?, h]
theorem Blk.new (w : World) (t : TypeId) (cs : Array Value) : Blk (w.alloc (.cells cs t)) w.heap.size t cs := heap_alloc_new w _
theorem Blk.drew (h : Blk w g t cs) : Blk w.drew g t cs := h
theorem Blk.drewN (h : Blk w g t cs) (n : Nat) : Blk (w.drewN n) g t cs := h
theorem Blk.alloc (h : Blk w g t cs) (o : Obj) : Blk (w.alloc o) g t cs := (Below.heap_alloc w o g h.lt).trans h
theorem Blk.set_ (h : Blk w g t cs) (i : Nat) (u : Value) : Blk (w.setCell ⟨g, i, none⟩ u) g t (cs.setIfInBounds i u) := by
  unfold Blk at h ⊢
  simp [World.setCell, Array.getElem?_modify, h]
theorem Blk.far (h : Blk w g t cs) {p : Addr} (hp : g ≠ p.block) (u : Value) : Blk (w.setCell p u) g t cs := (Below.heap_setCell w p u g hp).trans h
theorem Blk.below {B : Nat} (h : Blk w g t cs) (hb : Below B w w') (hg : g < B) : Blk w' g t cs := (hb.block g hg).trans h
end

/-- Block g is a row of the limbs l. -/
def Row (w : World) (g : Nat) (t : TypeId) (l : List Nat) : Prop := Blk w g t (l.map u32).toArray
section
variable {w w' : World} {g : Nat} {t : TypeId} {l : List Nat}
theorem Row.cell (h : Row w g t l) {i x : Nat} (hi : l[i]? = some x) : w.cell? ⟨g, i, none⟩ = some (.int .u32 (x : Int)) := by
  rw [Blk.cell h i]; simp [hi, u32]
theorem Row.set_ (h : Row w g t l) (i x : Nat) : Row (w.setCell ⟨g, i, none⟩ (.int .u32 (x : Int))) g t (l.set i x) := by
  have := Blk.set_ h i (u32 x)
  unfold Row
  rw [show (List.map u32 (l.set i x)).toArray = (l.map u32).toArray.setIfInBounds i (u32 x) from by simp [List.map_set]]
  exact this
theorem Row.sl (h : Row w g t l) (hl : Limbs l) {n : Nat} (hn : l.length = n) (hm : n ≤ 9223372036854775807) : SL w (some ⟨g, 0, none⟩) n n l :=
  ⟨hn, Nat.le_refl _, hm, hl, fun _ => ⟨_, _, rfl, Blk.lt h, fun j x hx => by rw [Nat.zero_add]; exact h.cell hx⟩⟩
end

/-- A row of limbs that the call owns, or nil. -/
def Own (w : World) (base : Nat) (t : TypeId) (v : Value) (l : List Nat) : Prop := w.ownsRow base t 1 v l.length (l.map u32)
section
variable {w w' : World} {base : Nat} {t : TypeId} {v : Value} {l : List Nat}
theorem Own.sl (h : Own w base t v l) (hl : Limbs l) : ∃ A c, v = .slice A l.length c ∧ SL w A l.length c l ∧ Fresh base A l.length := by
  rcases h.2 with ⟨rfl, h0⟩ | ⟨g, cap, cur, rfl, hb, hh, hn, hc, hs, hx⟩
  · have : l = [] := List.eq_nil_of_length_eq_zero h0
    subst this
    exact ⟨none, 0, rfl, SL.nil _, Fresh.zero⟩
  · refine ⟨_, _, rfl, ⟨rfl, hn, by simpa [maxLen] using hc, hl, fun _ => ⟨_, _, rfl, Blk.lt hh, fun j x hx' => ?_⟩⟩, fun _ => ⟨_, rfl, hb⟩⟩
    rw [Nat.zero_add, Blk.cell hh j]
    have hj : j < l.length := by
      rcases Nat.lt_or_ge j l.length with h' | h'
      · exact h'
      · rw [List.getElem?_eq_none h'] at hx'; cases hx'
    have e : (cur.toList.take (l.length * 1))[j]? = (l.map u32)[j]? := by rw [hx]
    rw [List.getElem?_take_of_lt (by omega)] at e
    rw [← Array.getElem?_toList, e]
    simp [hx', u32]
theorem Own.nil (w : World) (base : Nat) (t : TypeId) : Own w base t (.slice none 0 0) [] := ⟨rfl, .inl ⟨rfl, rfl⟩⟩
theorem Own.alloc (h : Own w base t v l) (o : Obj) : Own (w.alloc o) base t v l := World.ownsRow.alloc h o
theorem Own.drew (h : Own w base t v l) : Own w.drew base t v l := h
theorem Own.keep (h : Own w base t v l) {B : Nat} (hb : Below B w w') (hB : ∀ g, v.ownBlock = some g → g < B) : Own w' base t v l := by
  refine ⟨h.1, ?_⟩
  rcases h.2 with ⟨rfl, h0⟩ | ⟨g, cap, cur, rfl, hb', hh, r⟩
  · exact .inl ⟨rfl, h0⟩
  · exact .inr ⟨g, cap, cur, rfl, hb', (hb.block g (hB g rfl)).trans hh, r⟩
theorem Own.lt (h : Own w base t v l) : ∀ g, v.ownBlock = some g → g < w.heap.size ∧ base ≤ g := by
  intro g hg
  rcases h.2 with ⟨rfl, _⟩ | ⟨g', cap, cur, rfl, hb', hh, _⟩
  · cases hg
  · injection hg with hg
    subst hg
    exact ⟨Blk.lt hh, hb'⟩
theorem Own.row {g : Nat} (h : Row w g t l) (hb : base ≤ g) (hm : l.length ≤ 9223372036854775807) : Own w base t (.slice (some ⟨g, 0, none⟩) l.length l.length) l :=
  ⟨by simp, .inr ⟨g, l.length, _, rfl, hb, h, Nat.le_refl _, by simpa [maxLen] using hm, by simp, by rw [Nat.mul_one, List.take_of_length_le (by simp)]⟩⟩
end

section
variable {P : Program}
/-- append onto a row of limbs that the call owns. -/
theorem wpList_app {w : World} {ops : Array Oper} {rest : List Oper} {o : Oper} {a : Act} {Q : Exit → Act → World → Prop} (hgd : o.guard = none) (s x : Operand) (t : TypeId)
    (ho : o.op = .call { callee := .builtin .append, args := #[s, x], argTypes := #[t, t] })
    (e : TypeId) (hinfo : (P.info? e).map (fun i => (i.zero, i.size, i.bytes)) = some (some (.int .u32 0), 1, 4)) (ht : P.underlying t = some (.slice e))
    (base : Nat) (v : Value) (l : List Nat) (hs : a.eval s = v) (hown : Own w base e v l)
    (A : Option Addr) (m c : Nat) (news : List Nat) (hx : a.eval x = .slice A m c) (hr : SL w A m c news) (hlen : l.length + m ≤ 1099511627776) (hbase : base ≤ w.heap.size)
    (h : ∀ v' w', Own w' base e v' (l ++ news) → Below base w w' → wpList P ops Q rest (a.put o.dst v') w') : wpList P ops Q (o :: rest) a w := by
  obtain ⟨i, hi, hz, hsize, hby⟩ := info_parts hinfo
  have fin : ∀ v' w', w'.ownsRow base e 1 v' (l.length + m) (l.map u32 ++ news.map u32) → w.grownBy w' v.ownBlock → wpList P ops Q rest (a.put o.dst v') w' := by
    intro v' w' h1 h2
    refine h v' w' ?_ ((Below.refl _ _).grown h2 hbase (fun k hk => (hown.lt k hk).2))
    unfold Own
    rw [List.length_append, hr.len, List.map_append]
    exact h1
  rcases A with _ | ad
  · have hm : m = 0 := by
      rcases Nat.eq_zero_or_pos m with h0 | h0
      · exact h0
      · obtain ⟨_, _, h, _⟩ := hr.at_ h0
        cases h
    subst hm
    have hn : news = [] := hr.empty rfl
    subst hn
    refine wpList_plain hgd fun K hK => ?_
    have hrun : (Builtin.append_ #[t, t] o.type #[v, .slice none 0 c]).run P w = .ok v w := by
      rcases hown.2 with ⟨rfl, _⟩ | ⟨g, cap, cur, rfl, _, _, hnc, _⟩
      · simp [Builtin.append_, run_underlying ht, sizeOf, typeInfo, hi, Builtin.lenOf, Builtin.firstCells]
      · simp [Builtin.append_, run_underlying ht, sizeOf, typeInfo, hi, Builtin.lenOf, Builtin.firstCells, hnc, storeCells]
    unfold Oper.wp execOp
    simp only [ho, resolve, invoke, builtin, Sem.run_bind, Sem.run_pure, Result.andThen_ok, List.map_toArray, List.map_cons, List.map_nil, hs, hx, hrun]
    exact hK _ _ (fin v w (by unfold Own at hown; simpa using hown) (World.grownBy.refl w _))
  · have hcells : ∀ j u, (news.map u32)[j]? = some u → w.cell? (ad.add j) = some u := by
      intro j u hu
      rw [List.getElem?_map] at hu
      cases hx' : news[j]? with
      | none => rw [hx'] at hu; cases hu
      | some y =>
        rw [hx'] at hu
        have hj : 0 < m := by
          rw [← hr.len]
          rcases Nat.lt_or_ge j news.length with h' | h'
          · omega
          · rw [List.getElem?_eq_none h'] at hx'; cases hx'
        obtain ⟨b', off', e', _, hc⟩ := hr.at_ hj
        injection e' with e'
        subst e'
        rw [show (Addr.add ⟨b', off', none⟩ j) = ⟨b', off' + j, none⟩ from by unfold Addr.add; split <;> simp [*], hc j y hx']
        simpa [u32] using hu
    exact wpList_append_own _ hgd s x t ho base e i (.int .u32 0) 1 4 ht hi hz hsize hby rfl (by omega) v l.length (l.map u32) hs hown ad m c (news.map u32) hx (by simp [hr.len]) hcells
      (by intro u hu; obtain ⟨y, _, rfl⟩ := List.mem_map.1 hu; rfl) (by simp only [maxLen]; omega) (by omega) hbase (fun v' w' h1 h2 _ => fin v' w' h1 h2)
end


theorem madeCells_u32 (n : Nat) : madeCells (Value.int .u32 0).cells (n * 1) = ((List.replicate n 0).map u32).toArray := by
  apply Array.ext_getElem?
  intro i
  simp only [madeCells, Nat.mul_one, List.map_replicate, List.getElem?_toArray, Array.getElem?_map, Value.cells]
  by_cases h : i < n
  · simp [h, u32, Nat.mod_one]
  · simp [h]

section
variable {P : Program} {w : World} {ops : Array Oper} {rest : List Oper} {o : Oper} {a : Act} {Q : Exit → Act → World → Prop}
/-- make of limbs. -/
theorem wpList_mk (hg : o.guard = none) (l c : Operand) (t e : TypeId) (hop : o.op = Op.makeSlice t l c)
    (hinfo : (P.info? e).map (fun i => (i.zero, i.size, i.bytes)) = some (some (.int .u32 0), 1, 4)) (ht : P.underlying t = some (.slice e))
    (kl kc : IntKind) (L C : Int) (n m : Nat) (hl : a.eval l = .int kl L) (hc : a.eval c = .int kc C) (hL : L = (n : Int)) (hC : C = (m : Int)) (hnm : n ≤ m) (hm : m ≤ 1099511627776)
    (hK : ∀ w1, Row w1 w.heap.size e (List.replicate m 0) → Below w.heap.size w w1 → w1.heap.size = w.heap.size + 1 → wpList P ops Q rest (a.put o.dst (.slice (some ⟨w.heap.size, 0, none⟩) n m)) w1) :
    wpList P ops Q (o :: rest) a w := by
  obtain ⟨i, hi, hz, hsize, hby⟩ := info_parts hinfo
  refine wpList_plain hg fun K hK' => ?_
  have hrun := run_make (P := P) w t e i (.int .u32 0) ht hi hz kl kc (n : Int) (m : Int) (by omega) (by omega) (by rw [hby]; omega) (by omega)
  simp only [Int.toNat_natCast, hsize, madeCells_u32] at hrun
  unfold Oper.wp execOp
  simp only [hop, hl, hc, hL, hC, Sem.run_bind, Sem.run_pure, Result.andThen_ok, hrun]
  refine hK' _ _ (hK _ (Blk.new _ _ _) ((Below.refl _ _).alloc (Nat.le_refl _) _) (by simp))
end

theorem Own.made {w : World} {g base : Nat} {t : TypeId} {n m : Nat} (h : Row w g t (List.replicate m 0)) (hb : base ≤ g) (hnm : n ≤ m) (hm : m ≤ 9223372036854775807) :
    Own w base t (.slice (some ⟨g, 0, none⟩) n m) (List.replicate n 0) := by
  refine ⟨by simp, .inr ⟨g, m, _, ?_, hb, h, ?_, by simpa [maxLen] using hm, by simp, ?_⟩⟩
  · rw [List.length_replicate]
  · rw [List.length_replicate]; exact hnm
  · rw [List.length_replicate, Nat.mul_one]
    simp [List.take_replicate, Nat.min_eq_left hnm]

end Go.Proofs.YtekajoifgdpmlaaGreatDoor
