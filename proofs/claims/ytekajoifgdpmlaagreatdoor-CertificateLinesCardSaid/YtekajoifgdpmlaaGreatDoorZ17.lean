/- Bundle 17: what the laws' walks stand on: HA, HB, H4, H5. -/
import Derived.Test.YtekajoifgdpmlaaGreatDoorZ16
/-! HA -/
namespace Go.Proofs.YtekajoifgdpmlaaGreatDoor
open Go.RowKit Pl Go.Shelf
open Go.Lib (decDigits itoa)

/-- What is wrong has an error number, and its column is 0 or 1. -/
def BadOk {α : Type} (o : Out α) : Prop := ∀ k c e, o = .bad k c e → e ≠ 0 ∧ (c = 0 ∨ c = 1)
theorem badOk_ok {α : Type} (v : α) (s : List UInt8) (l : Nat) : BadOk (Out.ok v s l) := fun _ _ _ h => by cases h
theorem badOk_bind {α β : Type} {o : Out α} {f : α → List UInt8 → Nat → Out β} (h : BadOk o) (hf : ∀ v s l, BadOk (f v s l)) : BadOk (o.bind f) := by
  cases o with
  | ok v s l => exact hf v s l
  | bad k c e => intro k' c' e' hh; injection hh with h1 h2 h3; subst h1 h2 h3; exact h _ _ _ rfl
theorem badOk_next (word : List UInt8) (n : Nat) (s : List UInt8) (l : Nat) : BadOk (nextP word n s l) := by
  intro k c e h
  unfold nextP at h
  split at h
  · injection h with h1 h2 h3; subst h2 h3; exact ⟨by decide, .inl rfl⟩
  · split at h
    · cases h
    · injection h with h1 h2 h3; subst h2 h3; exact ⟨by decide, .inr rfl⟩
theorem badOk_int (t : List UInt8) (lo hi : Int) (s : List UInt8) (l : Nat) : BadOk (intR t lo hi s l) := by
  intro k c e h
  unfold intR at h
  split at h
  · cases h
  · injection h with h1 h2 h3; subst h2 h3; exact ⟨by decide, .inr rfl⟩
theorem parseL_err : ∀ {p : List (List UInt8)} {e : Int}, parseL p = .inr e → e ≠ 0 := by
  intro p
  induction p with
  | nil => intro e h; cases h
  | cons t p ih =>
    intro e h
    rw [parseL] at h
    split at h
    · split at h
      · cases h
      · rename_i hr; injection h with h; subst h; exact ih hr
    · rename_i hne; injection h with h; subst h; exact hne
theorem badOk_nums (word : List UInt8) (n : Nat) (s : List UInt8) (l : Nat) : BadOk (numsP word n s l) := badOk_bind (badOk_next _ _ _ _) (fun p s l k c e h => by
  unfold toNums at h
  split at h
  · cases h
  · rename_i hr; injection h with h1 h2 h3; subst h2 h3; exact ⟨parseL_err hr, .inr rfl⟩)
theorem badOk_ivs (word : List UInt8) (n : Nat) (s : List UInt8) (l : Nat) : BadOk (ivsP word n s l) := badOk_bind (badOk_nums _ _ _ _) (fun _ _ _ => badOk_ok _ _ _)
theorem badOk_rows (word : List UInt8) (n : Nat) : ∀ (k : Nat) (s : List UInt8) (l : Nat), BadOk (rowsP word n k s l) := by
  intro k
  induction k with
  | zero => intro s l; exact badOk_ok _ _ _
  | succ k ih => intro s l; exact badOk_bind (badOk_nums _ _ _ _) (fun _ s l => badOk_bind (ih s l) (fun _ _ _ => badOk_ok _ _ _))
theorem badOk_set (n : Nat) (s : List UInt8) (l : Nat) : BadOk (setP n s l) := badOk_bind (badOk_nums _ _ _ _) (fun _ _ _ => badOk_bind (badOk_rows _ _ _ _ _) (fun _ _ _ => badOk_bind (badOk_ivs _ _ _ _) (fun _ _ _ => badOk_ok _ _ _)))
theorem badOk_link (n : Nat) (s : List UInt8) (l : Nat) : BadOk (linkP n s l) := badOk_bind (badOk_nums _ _ _ _) (fun _ _ _ => badOk_bind (badOk_ivs _ _ _ _) (fun _ _ _ => badOk_bind (badOk_set _ _ _) (fun _ _ _ => badOk_bind (badOk_rows _ _ _ _ _) (fun _ _ _ => badOk_ok _ _ _))))
theorem badOk_links (n : Nat) : ∀ (k : Nat) (s : List UInt8) (l : Nat), BadOk (linksP n k s l) := by
  intro k
  induction k with
  | zero => intro s l; exact badOk_ok _ _ _
  | succ k ih => intro s l; exact badOk_bind (badOk_link _ _ _) (fun _ s l => badOk_bind (ih s l) (fun _ _ _ => badOk_ok _ _ _))
theorem badOk_cert (s : List UInt8) (l : Nat) : BadOk (certP s l) :=
  badOk_bind (badOk_next _ _ _ _) (fun _ _ _ => badOk_bind (badOk_int _ _ _ _ _) (fun _ _ _ => badOk_bind (badOk_int _ _ _ _ _) (fun _ _ _ => badOk_bind (badOk_int _ _ _ _ _) (fun _ _ _ => badOk_bind (badOk_int _ _ _ _ _) (fun _ _ _ => badOk_bind (badOk_set _ _ _) (fun _ _ _ => badOk_bind (badOk_links _ _ _ _) (fun _ _ _ => badOk_bind (badOk_next _ _ _ _) (fun _ _ _ => badOk_ok _ _ _))))))))
/-- What Decode returns: the certificate of just this text, or nothing and an error. -/
theorem dec_cases (s : List UInt8) : ((decP s).2.2.2 = 0 ∧ (decP s).2.1 = 0 ∧ (decP s).2.2.1 = 0 ∧ ctV (decP s).1 = true ∧ textC (decP s).1 = s ∧ GdC (decP s).1 ∧ s.length ≤ 65536) ∨ ((decP s).2.2.2 ≠ 0 ∧ (decP s).1 = zeroC ∧ ((decP s).2.2.1 = 0 ∨ (decP s).2.2.1 = 1)) := by
  unfold decP
  split
  · right; exact ⟨by decide, rfl, .inl rfl⟩
  · rename_i hl
    split
    · rename_i k c e h
      obtain ⟨h1, h2⟩ := badOk_cert s 0 k c e h
      right; exact ⟨h1, rfl, h2⟩
    · rename_i x r l h
      split
      · rename_i hr
        subst hr
        split
        · rename_i hv
          obtain ⟨e1, e2⟩ := cert_spec h
          left
          exact ⟨rfl, rfl, rfl, hv, by rw [e1]; simp, e2, by omega⟩
        · right; exact ⟨by decide, rfl, .inl rfl⟩
      · right; exact ⟨show (3 : Int) ≠ 0 by decide, rfl, .inr rfl⟩
/-- Empty, or a whole number of lines. -/
def Nl (A : List UInt8) : Prop := A = [] ∨ ∃ B, A = B ++ [10]
/-- A reading of a text that begins with whole lines: it ends in them, or these lines alone end early. -/
def Pre {α : Type} (f : List UInt8 → Nat → Out α) : Prop := ∀ A B l v r l', Nl A → f (A ++ B) l = .ok v r l' → (∃ r', r = r' ++ B ∧ Nl r' ∧ f A l = .ok v r' l') ∨ (r.length < B.length ∧ f A l = .bad 0 0 4)
def Less {α : Type} (f : List UInt8 → Nat → Out α) : Prop := ∀ s l v r l', f s l = .ok v r l' → r.length ≤ s.length
theorem pre_ok {α : Type} (v : α) : Pre (fun s l => Out.ok v s l) := fun A B l v' r l' hA h => by
  injection h with h1 h2 h3
  subst h1 h2 h3
  exact .inl ⟨A, rfl, hA, rfl⟩
theorem less_ok {α : Type} (v : α) : Less (fun s l => Out.ok v s l) := fun s l v' r l' h => by
  injection h with h1 h2 h3
  subst h1 h2 h3
  exact Nat.le_refl _
theorem less_bind {α β : Type} {f : List UInt8 → Nat → Out α} {g : α → List UInt8 → Nat → Out β} (hf : Less f) (hg : ∀ v, Less (g v)) : Less (fun s l => (f s l).bind (g)) := fun s l v r l' h => by
  obtain ⟨u, s1, l1, h1, h2⟩ := bind_eq h
  exact Nat.le_trans (hg u _ _ _ _ _ h2) (hf _ _ _ _ _ h1)
theorem pre_bind {α β : Type} {f : List UInt8 → Nat → Out α} {g : α → List UInt8 → Nat → Out β} (hf : Pre f) (hg : ∀ v, Pre (g v)) (hl : ∀ v, Less (g v)) : Pre (fun s l => (f s l).bind (g)) := fun A B l v r l' hA h => by
  obtain ⟨u, s1, l1, h1, h2⟩ := bind_eq h
  rcases hf A B l u s1 l1 hA h1 with ⟨r', rfl, hr, e⟩ | ⟨hr, e⟩
  · rcases hg u r' B l1 v r l' hr h2 with ⟨q, e1, e2, e3⟩ | ⟨e1, e2⟩
    · exact .inl ⟨q, e1, e2, by show (f A l).bind g = _; rw [e]; exact e3⟩
    · exact .inr ⟨e1, by show (f A l).bind g = _; rw [e]; exact e2⟩
  · exact .inr ⟨Nat.lt_of_le_of_lt (hl u _ _ _ _ _ h2) hr, by show (f A l).bind g = _; rw [e]; rfl⟩
theorem less_next (word : List UInt8) (n : Nat) : Less (nextP word n) := fun s l v r l' h => by
  have := congrArg List.length (next_spec h).1
  simp only [List.length_append] at this
  omega
theorem nl_cut {A : List UInt8} (hA : Nl A) (hne : A ≠ []) : ∃ a r, A = a ++ 10 :: r ∧ (∀ x ∈ a, x ≠ 10) ∧ Nl r := by
  rcases hA with hA | ⟨B, rfl⟩
  · exact absurd hA hne
  cases hc : cutAt 10 (B ++ [10]) with
  | none => exact absurd rfl (cutAt_no hc 10 (by simp))
  | some q =>
    obtain ⟨a, r⟩ := q
    obtain ⟨e, hn⟩ := cutAt_some hc
    refine ⟨a, r, e, hn, ?_⟩
    cases hr : r.reverse with
    | nil => left; simpa using hr
    | cons y t =>
      right
      have hr' : r = t.reverse ++ [y] := by rw [← List.reverse_reverse r, hr]; simp
      refine ⟨t.reverse, ?_⟩
      rw [hr'] at e
      have e' : B ++ [10] = (a ++ 10 :: t.reverse) ++ [y] := by rw [e]; simp
      have h1 := (List.append_inj' e' rfl).2
      injection h1 with h1
      rw [hr', ← h1]
theorem pre_next (word : List UInt8) (n : Nat) : Pre (nextP word n) := fun A B l v r l' hA h => by
  by_cases hne : A = []
  · subst hne
    right
    refine ⟨?_, rfl⟩
    have := congrArg List.length (next_spec h).1
    simp only [List.length_append, List.length_cons, List.length_nil] at this
    omega
  · obtain ⟨a, r0, rfl, hn, hr0⟩ := nl_cut hA hne
    left
    have e : (a ++ 10 :: r0) ++ B = a ++ 10 :: (r0 ++ B) := by simp
    unfold nextP at h ⊢
    rw [e, cutAt_mk hn] at h
    rw [cutAt_mk hn]
    simp only [] at h ⊢
    split at h
    · rename_i hg
      injection h with h1 h2 h3
      subst h1 h2 h3
      exact ⟨r0, rfl, hr0, by rw [if_pos hg]⟩
    · cases h
theorem less_nums (word : List UInt8) (n : Nat) : Less (numsP word n) := fun s l v r l' h => by have := nums_spec h; have := congrArg List.length this.1; simp only [List.length_append] at this; omega
theorem pre_nums (word : List UInt8) (n : Nat) : Pre (numsP word n) := pre_bind (pre_next word n) (g := toNums)
  (fun p A B l v r l' hA h => by
    unfold toNums at h ⊢
    split at h
    · injection h with h1 h2 h3
      subst h1 h2 h3
      exact .inl ⟨A, rfl, hA, rfl⟩
    · cases h)
  (fun p s l v r l' h => by
    unfold toNums at h
    split at h
    · injection h with h1 h2 h3
      subst h1 h2 h3
      exact Nat.le_refl _
    · cases h)
theorem less_ivs (word : List UInt8) (n : Nat) : Less (ivsP word n) := less_bind (less_nums _ _) (fun _ => less_ok _)
theorem pre_ivs (word : List UInt8) (n : Nat) : Pre (ivsP word n) := pre_bind (pre_nums _ _) (fun _ => pre_ok _) (fun _ => less_ok _)
theorem less_rows (word : List UInt8) (n : Nat) : ∀ k, Less (rowsP word n k) := by
  intro k
  induction k with
  | zero => exact less_ok _
  | succ k ih => exact less_bind (less_nums _ _) (fun _ => less_bind ih (fun _ => less_ok _))
theorem pre_rows (word : List UInt8) (n : Nat) : ∀ k, Pre (rowsP word n k) := by
  intro k
  induction k with
  | zero => exact pre_ok _
  | succ k ih => exact pre_bind (pre_nums _ _) (fun _ => pre_bind ih (fun _ => pre_ok _) (fun _ => less_ok _)) (fun _ => less_bind (less_rows _ _ _) (fun _ => less_ok _))
theorem less_set (n : Nat) : Less (setP n) := less_bind (less_nums _ _) (fun _ => less_bind (less_rows _ _ _) (fun _ => less_bind (less_ivs _ _) (fun _ => less_ok _)))
theorem pre_set (n : Nat) : Pre (setP n) := pre_bind (pre_nums _ _) (fun _ => pre_bind (pre_rows _ _ _) (fun _ => pre_bind (pre_ivs _ _) (fun _ => pre_ok _) (fun _ => less_ok _)) (fun _ => less_bind (less_ivs _ _) (fun _ => less_ok _))) (fun _ => less_bind (less_rows _ _ _) (fun _ => less_bind (less_ivs _ _) (fun _ => less_ok _)))
theorem less_link (n : Nat) : Less (linkP n) := less_bind (less_nums _ _) (fun _ => less_bind (less_ivs _ _) (fun _ => less_bind (less_set _) (fun _ => less_bind (less_rows _ _ _) (fun _ => less_ok _))))
theorem pre_link (n : Nat) : Pre (linkP n) := pre_bind (pre_nums _ _) (fun _ => pre_bind (pre_ivs _ _) (fun _ => pre_bind (pre_set _) (fun _ => pre_bind (pre_rows _ _ _) (fun _ => pre_ok _) (fun _ => less_ok _)) (fun _ => less_bind (less_rows _ _ _) (fun _ => less_ok _))) (fun _ => less_bind (less_set _) (fun _ => less_bind (less_rows _ _ _) (fun _ => less_ok _)))) (fun _ => less_bind (less_ivs _ _) (fun _ => less_bind (less_set _) (fun _ => less_bind (less_rows _ _ _) (fun _ => less_ok _))))
theorem less_links (n : Nat) : ∀ k, Less (linksP n k) := by
  intro k
  induction k with
  | zero => exact less_ok _
  | succ k ih => exact less_bind (less_link _) (fun _ => less_bind ih (fun _ => less_ok _))
theorem pre_links (n : Nat) : ∀ k, Pre (linksP n k) := by
  intro k
  induction k with
  | zero => exact pre_ok _
  | succ k ih => exact pre_bind (pre_link _) (fun _ => pre_bind ih (fun _ => pre_ok _) (fun _ => less_ok _)) (fun _ => less_bind (less_links _ _) (fun _ => less_ok _))

end Go.Proofs.YtekajoifgdpmlaaGreatDoor

/-! HB -/
namespace Go.Proofs.YtekajoifgdpmlaaGreatDoor
open Go.RowKit Pl Go.Shelf

def PL {α : Type} (f : List UInt8 → Nat → Out α) : Prop := Pre f ∧ Less f
theorem pl_bind {α β : Type} {f : List UInt8 → Nat → Out α} {g : α → List UInt8 → Nat → Out β} (hf : PL f) (hg : ∀ v, PL (g v)) : PL (fun s l => (f s l).bind g) := ⟨pre_bind hf.1 (fun v => (hg v).1) (fun v => (hg v).2), less_bind hf.2 (fun v => (hg v).2)⟩
theorem pl_ok {α : Type} (v : α) : PL (fun s l => Out.ok v s l) := ⟨pre_ok v, less_ok v⟩
theorem pl_int (t : List UInt8) (lo hi : Int) : PL (intR t lo hi) := by
  constructor
  · intro A B l v r l' hA h
    unfold intR at h ⊢
    split at h
    · rename_i n hn
      injection h with h1 h2 h3
      subst h1 h2 h3
      exact .inl ⟨A, rfl, hA, rfl⟩
    · cases h
  · intro s l v r l' h
    unfold intR at h
    split at h
    · injection h with h1 h2 h3
      subst h1 h2 h3
      exact Nat.le_refl _
    · cases h
theorem pl_cert : PL certP :=
  pl_bind ⟨pre_next _ _, less_next _ _⟩ (fun _ => pl_bind (pl_int _ _ _) (fun _ => pl_bind (pl_int _ _ _) (fun _ => pl_bind (pl_int _ _ _) (fun _ => pl_bind (pl_int _ _ _) (fun _ => pl_bind ⟨pre_set _, less_set _⟩ (fun _ => pl_bind ⟨pre_links _ _, less_links _ _⟩ (fun _ => pl_bind ⟨pre_next _ _, less_next _ _⟩ (fun _ => pl_ok _))))))))
/-- A text that is cut at a line ends early. -/
theorem dec_cut {x : Ct} {A B : List UInt8} (hv : ctV x = true) (hL : LmC x) (hl : (textC x).length ≤ 65536) (e : textC x = A ++ B) (hA : Nl A) (hB : B ≠ []) : decP A = (zeroC, 0, 0, 4) := by
  obtain ⟨l', h⟩ := cert_mk hv hL 0
  rw [e] at h hl
  have hl' : ¬ 65536 < A.length := by simp at hl; omega
  rcases pl_cert.1 A B 0 x [] l' hA h with ⟨r', e1, _, _⟩ | ⟨_, h2⟩
  · have := List.append_eq_nil_iff.1 e1.symm
    exact absurd this.2 hB
  · unfold decP
    rw [if_neg hl', h2]

end Go.Proofs.YtekajoifgdpmlaaGreatDoor

/-! H4 -/
namespace Go.Proofs.YtekajoifgdpmlaaGreatDoor
open Go.RowKit Pl Go.Shelf

/-- What holds of the blocks from B on holds in every world that has them so. -/
def Ly (B : Nat) (w : World) (P : World → Prop) : Prop := ∀ W : World, w.heap.size ≤ W.heap.size → (∀ b, B ≤ b → b < w.heap.size → W.heap[b]? = w.heap[b]?) → P W
theorem Ly.here {B : Nat} {w : World} {P : World → Prop} (h : Ly B w P) : P w := h w (Nat.le_refl _) (fun _ _ _ => rfl)
theorem Ly.up {B B' : Nat} {w w' : World} {P : World → Prop} (h : Ly B w P) (hs : w.heap.size ≤ w'.heap.size) (hB : B' ≤ B) (hb : ∀ b, B ≤ b → b < w.heap.size → w'.heap[b]? = w.heap[b]?) : Ly B' w' P := fun W h1 h2 =>
  h W (Nat.le_trans hs h1) (fun b hb1 hb2 => (h2 b (Nat.le_trans hB hb1) (Nat.lt_of_lt_of_le hb2 hs)).trans (hb b hb1 hb2))
theorem Ly.imp {B : Nat} {w : World} {P Q : World → Prop} (h : Ly B w P) (hi : ∀ W, P W → Q W) : Ly B w Q := fun W h1 h2 => hi W (h W h1 h2)
theorem Ly.and {B : Nat} {w : World} {P Q : World → Prop} (h : Ly B w P) (k : Ly B w Q) : Ly B w (fun W => P W ∧ Q W) := fun W h1 h2 => ⟨h W h1 h2, k W h1 h2⟩
theorem SL.ly {B : Nat} {w : World} {A : Option Addr} {n c : Nat} {l : List Nat} (h : SL w A n c l) (hf : Fresh B A n) : Ly B w (fun W => SL W A n c l) := fun W h1 h2 =>
  ⟨h.len, h.cap, h.max, h.lt, fun hn => by
    obtain ⟨b, off, rfl, hb, hc⟩ := h.at_ hn
    obtain ⟨ad, e, hB⟩ := hf hn
    injection e with e
    subst e
    exact ⟨b, off, rfl, Nat.lt_of_lt_of_le hb h1, fun j x hx => (World.cell?_of_block (w := w) (a := ⟨b, off + j, none⟩) (h2 b hB hb)).trans (hc j x hx)⟩⟩

/-- What a function of the reader in block g leaves as it was. -/
structure KR (g : Nat) (w w' : World) : Prop where
  os : w'.os = w.os
  tape : w'.tape = w.tape
  output : w'.output = w.output
  size : w.heap.size ≤ w'.heap.size
  block : ∀ b, b < w.heap.size → b ≠ g → w'.heap[b]? = w.heap[b]?
section
variable {g : Nat} {w w' w'' : World}
theorem KR.refl (g : Nat) (w : World) : KR g w w := ⟨rfl, rfl, rfl, Nat.le_refl _, fun _ _ _ => rfl⟩
theorem KR.trans (h : KR g w w') (k : KR g w' w'') : KR g w w'' := ⟨k.os.trans h.os, k.tape.trans h.tape, k.output.trans h.output, Nat.le_trans h.size k.size, fun b hb hg => (k.block b (Nat.lt_of_lt_of_le hb h.size) hg).trans (h.block b hb hg)⟩
theorem KR.of (h : Below w.heap.size w w') : KR g w w' := ⟨h.os, h.tape, h.output, h.size, fun b hb _ => h.block b hb⟩
theorem KR.below (h : KR g w w') (hg : g ≤ w.heap.size) : Below g w w' := ⟨h.os, h.tape, h.output, h.size, fun b hb => h.block b (by omega) (by omega)⟩
theorem KR.set (i : Nat) (v : Value) : KR g w (w.setCell ⟨g, i, none⟩ v) := ⟨rfl, rfl, rfl, by simp [World.setCell], fun b _ hg => Below.heap_setCell _ _ _ _ hg⟩
theorem KR.blk {b : Nat} {t : TypeId} {cs : Array Value} (h : KR g w w') (hk : Blk w b t cs) (hg : b ≠ g) : Blk w' b t cs := (h.block b hk.lt hg).trans hk
/-- A call of the reader inside a function whose world was w at its start: blocks made since may be turned. -/
theorem KR.step (h : KR g w w') {w0 : World} (hs : w0.heap.size ≤ w.heap.size) (h1 : w''.os = w'.os) (h2 : w''.tape = w'.tape) (h3 : w''.output = w'.output) (h4 : w'.heap.size ≤ w''.heap.size) (h5 : ∀ b, b < w0.heap.size → b ≠ g → w''.heap[b]? = w'.heap[b]?) (h0 : KR g w0 w) : KR g w0 w'' :=
  ⟨h1.trans (h.os.trans h0.os), h2.trans (h.tape.trans h0.tape), h3.trans (h.output.trans h0.output), Nat.le_trans h0.size (Nat.le_trans h.size h4), fun b hb hg => (h5 b hb hg).trans ((h.block b (Nat.lt_of_lt_of_le hb hs) hg).trans (h0.block b hb hg))⟩
theorem KR.thenB (h : KR g w w') (k : Below w.heap.size w' w'') : KR g w w'' := ⟨k.os.trans h.os, k.tape.trans h.tape, k.output.trans h.output, Nat.le_trans h.size k.size, fun b hb hg => (k.block b hb).trans (h.block b hb hg)⟩
theorem KR.setNew (h : KR g w w') {b i : Nat} (hb : w.heap.size ≤ b) (v : Value) : KR g w (w'.setCell ⟨b, i, none⟩ v) :=
  ⟨h.os, h.tape, h.output, by simpa [World.setCell] using h.size, fun k hk hg => (Below.heap_setCell w' ⟨b, i, none⟩ v k (by show k ≠ b; omega)).trans (h.block k hk hg)⟩
end
theorem Ly.kr {B g : Nat} {w w' : World} {P : World → Prop} (h : Ly B w P) (k : KR g w w') (hg : g < B) : Ly B w' P := h.up k.size (Nat.le_refl _) (fun b h1 h2 => k.block b h2 (by omega))

/-- The reader in block g: the text that is left, the number of lines that were read. -/
def Rd (g : Nat) (s : List UInt8) (l : Nat) (w : World) : Prop := Blk w g 124 #[.string ⟨s.toArray⟩, .int .i64 (l : Int)]
/-- The package variables that the reader's functions look at. -/
structure Vs (W : World) : Prop where
  tabs : Tabs W
  tens : Tens W
  max : ∃ m, W.cell? ⟨0, 0, none⟩ = some (.int .i64 m)
  syn : ∃ v, W.cell? ⟨1, 0, none⟩ = some v ∧ (v = .nilIface ∨ ∃ t p, v = .iface t p)
  rng : ∃ v, W.cell? ⟨2, 0, none⟩ = some v ∧ (v = .nilIface ∨ ∃ t p, v = .iface t p)
/-- They are so, and lie below block B. -/
def Ev (B : Nat) (w : World) : Prop := ∀ W, Below B w W → Vs W
theorem Ev.next {B : Nat} {w w' : World} (h : Ev B w) (hb : Below B w w') : Ev B w' := fun W hW => h W (hb.trans hW)
theorem Ev.here {B : Nat} {w : World} (h : Ev B w) : Vs w := h w (Below.refl _ _)
/-- What a function of the reader panics with. -/
def wrongP (k c e : Int) : List PanicEntry := [{ v := .iface 120 (.agg #[.int .i64 k, .int .i64 c, .int .i64 e]), recovered := false }]
/-- What a function of the reader ends in: its value, or the panic. -/
def Reads {α : Type} (g : Nat) (o : Out α) (V : α → Value → World → Prop) (w : World) (e : Ending) (w' : World) : Prop :=
  KR g w w' ∧ match o with
  | .ok v s l => ∃ u, e = .returned u ∧ Rd g s l w' ∧ V v u w'
  | .bad k c x => e = .panicked (wrongP k c x)

/-- A list that is built by append, in a row of the call's own: its elements' cells, and where what they point at lies. -/
structure Acc {α : Type} (e : TypeId) (k : Nat) (R : World → List Value → α → Prop) (lo base : Nat) (w : World) (v : Value) (fs : List (List Value)) (xs : List α) : Prop where
  le : lo ≤ base
  own : OwnK e k w base v fs
  len : xs.length = fs.length
  each : ∀ (j : Nat) (f : List Value) (x : α), fs[j]? = some f → xs[j]? = some x → ∃ B E, lo ≤ B ∧ E ≤ w.heap.size ∧ (∀ o, v.ownBlock = some o → o < B ∨ E ≤ o) ∧ ∀ W : World, E ≤ W.heap.size → (∀ b, B ≤ b → b < E → W.heap[b]? = w.heap[b]?) → R W f x
section
variable {α : Type} {e : TypeId} {k : Nat} {R : World → List Value → α → Prop} {lo base : Nat} {w w' : World} {v : Value} {fs : List (List Value)} {xs : List α}
theorem Acc.nil (e : TypeId) (k : Nat) (R : World → List Value → α → Prop) {lo base : Nat} (hl : lo ≤ base) (w : World) : Acc e k R lo base w (.slice none 0 0) [] [] := ⟨hl, OwnK.nil _ _ _ _, rfl, fun j f x h => by simp at h⟩
theorem Acc.keep (h : Acc e k R lo base w v fs xs) (hs : w.heap.size ≤ w'.heap.size) (hb : ∀ b, lo ≤ b → b < w.heap.size → w'.heap[b]? = w.heap[b]?) : Acc e k R lo base w' v fs xs := by
  refine ⟨h.le, ⟨⟨h.own.own.1, ?_⟩, h.own.len⟩, h.len, fun j f x hf hx => ?_⟩
  · rcases h.own.own.2 with hn | ⟨g, cap, cur, hv, hbg, hg, rest⟩
    · exact .inl hn
    · exact .inr ⟨g, cap, cur, hv, hbg, (hb g (Nat.le_trans h.le hbg) (Array.getElem?_eq_some_iff.1 hg).1).trans hg, rest⟩
  · obtain ⟨B, E, h1, h2, h3, h4⟩ := h.each j f x hf hx
    exact ⟨B, E, h1, Nat.le_trans h2 hs, h3, fun W hW hbl => h4 W hW (fun b hb1 hb2 => (hbl b hb1 hb2).trans (hb b (Nat.le_trans h1 hb1) (Nat.lt_of_lt_of_le hb2 h2)))⟩
theorem Acc.ly (h : Acc e k R lo base w v fs xs) : ∃ A c, v = .slice A xs.length c ∧ Ly lo w (fun W => Sl k R W A xs.length c xs) := by
  obtain ⟨A, c, hv, _, _⟩ := h.own.form
  rw [← h.len] at hv
  refine ⟨A, c, hv, fun W h1 h2 => ?_⟩
  have h' := h.keep h1 h2
  obtain ⟨A', c', hv', hs⟩ := h'.own.sl (R := R) (xs := xs) h.len (fun j f x hf hx => by
    obtain ⟨B, E, a1, a2, a3, a4⟩ := h'.each j f x hf hx
    exact a4 W a2 (fun _ _ _ => rfl))
  rw [← h.len] at hv' hs
  rw [hv] at hv'
  injection hv' with e1 e2 e3
  subst e1 e3
  exact hs
end
/-- A slice whose elements' cells are known. -/
structure SlU {α : Type} (k : Nat) (R : World → List Value → α → Prop) (W : World) (A : Option Addr) (n c : Nat) (us : List (List Value)) (xs : List α) : Prop where
  sl : Sl k R W A n c xs
  ulen : us.length = n
  each : ∀ (j : Nat) (u : List Value) (x : α), us[j]? = some u → xs[j]? = some x → R W u x
  cell : 0 < n → ∃ b off, A = some ⟨b, off, none⟩ ∧ ∀ (j : Nat) (u : List Value), us[j]? = some u → ∀ (i : Nat) (v : Value), u[i]? = some v → W.cell? ⟨b, off + j * k + i, none⟩ = some v
theorem Acc.lyU {α : Type} {e : TypeId} {k : Nat} {R : World → List Value → α → Prop} {lo base : Nat} {w : World} {v : Value} {fs : List (List Value)} {xs : List α} (h : Acc e k R lo base w v fs xs) : ∃ A c, v = .slice A xs.length c ∧ Ly lo w (fun W => SlU k R W A xs.length c fs xs) := by
  obtain ⟨A, c, hv, hly⟩ := h.ly
  refine ⟨A, c, hv, fun W h1 h2 => ?_⟩
  have h' := h.keep h1 h2
  refine ⟨hly W h1 h2, h.len.symm, fun j f x hf hx => ?_, fun hn => ?_⟩
  · obtain ⟨B, E, a1, a2, a3, a4⟩ := h'.each j f x hf hx
    exact a4 W a2 (fun _ _ _ => rfl)
  · rcases h'.own.own.2 with ⟨e1, e2⟩ | ⟨g, cap, cur, e1, hbg, hg, h1, h2, h3, h4⟩
    · have := h.len; omega
    · rw [hv] at e1
      injection e1 with e1 _ _
      subst e1
      refine ⟨g, 0, rfl, fun j u hj i vv hi => ?_⟩
      rw [Nat.zero_add, Blk.cell hg]
      have h5 := flatten_get h'.own.len j i _ vv hj hi
      have hlt : j * k + i < fs.length * k := by
        have := (List.getElem?_eq_some_iff.1 h5).1
        rw [flatten_len h'.own.len] at this
        exact this
      rw [← h4, List.getElem?_take_of_lt hlt] at h5
      simpa using h5
section
variable {P : Program} {α : Type} {R : World → List Value → α → Prop}
theorem wpList_acc {w : World} {ops : Array Oper} {rest : List Oper} {o : Oper} {a : Act} {Q : Exit → Act → World → Prop} (hgd : o.guard = none) (s x : Operand) (t : TypeId)
    (ho : o.op = .call { callee := .builtin .append, args := #[s, x], argTypes := #[t, t] })
    (e : TypeId) (k bytes : Nat) (z : Value) (hinfo : (P.info? e).map (fun i => (i.zero, i.size, i.bytes)) = some (some z, k, bytes)) (hz : z.cells.size = k) (hk : 0 < k) (hby : bytes ≤ 1000) (ht : P.underlying t = some (.slice e))
    (lo base : Nat) (v : Value) (fs : List (List Value)) (xs : List α) (hs : a.eval s = v) (hacc : Acc e k R lo base w v fs xs)
    (ad : Addr) (c : Nat) (f : List Value) (y : α) (hx : a.eval x = .slice (some ad) 1 c) (hn : f.length = k) (hc : ∀ (j : Nat) (u : Value), f[j]? = some u → w.cell? (ad.add j) = some u) (h1 : ∀ u ∈ f, u.oneCell' = true)
    (hlen : fs.length ≤ 1000000) (hbase : base ≤ w.heap.size)
    (B E : Nat) (hB : lo ≤ B) (hE : E ≤ w.heap.size) (hown : ∀ o, v.ownBlock = some o → o < B ∨ E ≤ o) (hR : ∀ W : World, E ≤ W.heap.size → (∀ b, B ≤ b → b < E → W.heap[b]? = w.heap[b]?) → R W f y)
    (h : ∀ v' w', Acc e k R lo base w' v' (fs ++ [f]) (xs ++ [y]) → Below base w w' → wpList P ops Q rest (a.put o.dst v') w') : wpList P ops Q (o :: rest) a w := by
  obtain ⟨i, hi, hz', hsize, hb'⟩ := info_parts hinfo
  refine wpList_append_own_at _ hgd s x t ho base e i z k bytes ht hi hz' hsize hb' hz hk v fs.length fs.flatten hs hacc.own.own ad 1 c f hx (by omega) hc h1 (by simp only [maxLen]; omega) ?_ hbase (fun v' w' h2 h3 _ h5 => ?_)
  · exact Nat.le_trans (Nat.mul_le_mul (show fs.length + 1 ≤ 1000001 by omega) hby) (by omega)
  · refine h v' w' ⟨hacc.le, ⟨?_, ?_⟩, ?_, ?_⟩ ((Below.refl _ _).grown h3 hbase (fun k hk => (hacc.own.lt k hk).1))
    · rw [List.length_append, List.flatten_append]; simpa using h2
    · intro f' hf
      rcases List.mem_append.1 hf with hf | hf
      · exact hacc.own.len f' hf
      · rw [List.mem_singleton.1 hf]; exact hn
    · rw [List.length_append, List.length_append, hacc.len]; rfl
    · have key : ∀ (B E : Nat), E ≤ w.heap.size → (∀ o, v.ownBlock = some o → o < B ∨ E ≤ o) → (∀ o, v'.ownBlock = some o → o < B ∨ E ≤ o) ∧ ∀ b, B ≤ b → b < E → w'.heap[b]? = w.heap[b]? := by
        intro B E hE ho
        refine ⟨fun o ho' => ?_, fun b hb1 hb2 => h3.block b (Nat.lt_of_lt_of_le hb2 hE) (fun e => ?_)⟩
        · rcases h5 with h5 | h5
          · exact ho o (by rw [← h5]; exact ho')
          · rw [h5] at ho'; injection ho' with ho'; right; omega
        · rcases ho b e.symm with hlt | hge <;> omega
      intro j f' x' hf hx'
      by_cases hj : j < fs.length
      · rw [List.getElem?_append_left hj] at hf
        rw [List.getElem?_append_left (by rw [hacc.len]; exact hj)] at hx'
        obtain ⟨B', E', a1, a2, a3, a4⟩ := hacc.each j f' x' hf hx'
        obtain ⟨k1, k2⟩ := key B' E' a2 a3
        exact ⟨B', E', a1, Nat.le_trans a2 h3.size, k1, fun W hW hbl => a4 W hW (fun b hb1 hb2 => (hbl b hb1 hb2).trans (k2 b hb1 hb2))⟩
      · have hj' : j < (fs ++ [f]).length := (List.getElem?_eq_some_iff.1 hf).1
        have hj2 : j = fs.length := by simp at hj'; omega
        subst hj2
        rw [List.getElem?_append_right (Nat.le_refl _), Nat.sub_self] at hf
        rw [List.getElem?_append_right (by rw [hacc.len]; exact Nat.le_refl _), hacc.len, Nat.sub_self] at hx'
        simp at hf hx'
        subst hf hx'
        obtain ⟨k1, k2⟩ := key B E hE hown
        exact ⟨B, E, hB, Nat.le_trans hE h3.size, k1, fun W hW hbl => hR W hW (fun b hb1 hb2 => (hbl b hb1 hb2).trans (k2 b hb1 hb2))⟩
theorem step_acc {w : World} {ops : Array Oper} {o : Oper} {a : Act} {K : Act → World → Prop} {Q : Exit → Act → World → Prop} {E0 : Prop} (hgd : o.guard = none) (s x : Operand) (t : TypeId)
    (ho : o.op = .call { callee := .builtin .append, args := #[s, x], argTypes := #[t, t] })
    (e : TypeId) (k bytes : Nat) (z : Value) (hinfo : (P.info? e).map (fun i => (i.zero, i.size, i.bytes)) = some (some z, k, bytes)) (hz : z.cells.size = k) (hk : 0 < k) (hby : bytes ≤ 1000) (ht : P.underlying t = some (.slice e))
    (lo base : Nat) (v : Value) (fs : List (List Value)) (xs : List α) (hs : a.eval s = v) (hacc : Acc e k R lo base w v fs xs)
    (ad : Addr) (c : Nat) (f : List Value) (y : α) (hx : a.eval x = .slice (some ad) 1 c) (hn : f.length = k) (hc : ∀ (j : Nat) (u : Value), f[j]? = some u → w.cell? (ad.add j) = some u) (h1 : ∀ u ∈ f, u.oneCell' = true)
    (hlen : fs.length ≤ 1000000) (hbase : base ≤ w.heap.size)
    (B E : Nat) (hB : lo ≤ B) (hE : E ≤ w.heap.size) (hown : ∀ o, v.ownBlock = some o → o < B ∨ E ≤ o) (hR : ∀ W : World, E ≤ W.heap.size → (∀ b, B ≤ b → b < E → W.heap[b]? = w.heap[b]?) → R W f y)
    (h : ∀ v' w', Acc e k R lo base w' v' (fs ++ [f]) (xs ++ [y]) → Below base w w' → K (a.put o.dst v') w') :
    if Region.wanted o (yielded ops a.tmps) = true then Oper.wp P o a w K Q else E0 := by
  obtain ⟨i, hi, hz', hsize, hb'⟩ := info_parts hinfo
  have hw : Region.wanted o (yielded ops a.tmps) = true := by simp [Region.wanted, hgd]
  rw [if_pos hw]
  obtain ⟨v', w', hr, h2, h3, _, h5⟩ := run_append_own_at (P := P) w base t o.type e i z k bytes ht hi hz' hsize hb' hz hk v fs.length fs.flatten hacc.own.own ad 1 c f (by omega) hc h1 (by simp only [maxLen]; omega) (Nat.le_trans (Nat.mul_le_mul (show fs.length + 1 ≤ 1000001 by omega) hby) (by omega)) hbase
  unfold Oper.wp execOp
  simp only [ho, resolve, invoke, builtin, Sem.run_bind, Sem.run_pure, Result.andThen_ok, List.map_toArray, List.map_cons, List.map_nil, hs, hx, hr]
  refine h v' w' ⟨hacc.le, ⟨?_, ?_⟩, ?_, ?_⟩ ((Below.refl _ _).grown h3 hbase (fun k hk => (hacc.own.lt k hk).1))
  · rw [List.length_append, List.flatten_append]; simpa using h2
  · intro f' hf
    rcases List.mem_append.1 hf with hf | hf
    · exact hacc.own.len f' hf
    · rw [List.mem_singleton.1 hf]; exact hn
  · rw [List.length_append, List.length_append, hacc.len]; rfl
  · have key : ∀ (B E : Nat), E ≤ w.heap.size → (∀ o, v.ownBlock = some o → o < B ∨ E ≤ o) → (∀ o, v'.ownBlock = some o → o < B ∨ E ≤ o) ∧ ∀ b, B ≤ b → b < E → w'.heap[b]? = w.heap[b]? := by
      intro B E hE ho
      refine ⟨fun o ho' => ?_, fun b hb1 hb2 => h3.block b (Nat.lt_of_lt_of_le hb2 hE) (fun e => ?_)⟩
      · rcases h5 with h5 | h5
        · exact ho o (by rw [← h5]; exact ho')
        · rw [h5] at ho'; injection ho' with ho'; right; omega
      · rcases ho b e.symm with hlt | hge <;> omega
    intro j f' x' hf hx'
    by_cases hj : j < fs.length
    · rw [List.getElem?_append_left hj] at hf
      rw [List.getElem?_append_left (by rw [hacc.len]; exact hj)] at hx'
      obtain ⟨B', E', a1, a2, a3, a4⟩ := hacc.each j f' x' hf hx'
      obtain ⟨k1, k2⟩ := key B' E' a2 a3
      exact ⟨B', E', a1, Nat.le_trans a2 h3.size, k1, fun W hW hbl => a4 W hW (fun b hb1 hb2 => (hbl b hb1 hb2).trans (k2 b hb1 hb2))⟩
    · have hj' : j < (fs ++ [f]).length := (List.getElem?_eq_some_iff.1 hf).1
      have hj2 : j = fs.length := by simp at hj'; omega
      subst hj2
      rw [List.getElem?_append_right (Nat.le_refl _), Nat.sub_self] at hf
      rw [List.getElem?_append_right (by rw [hacc.len]; exact Nat.le_refl _), hacc.len, Nat.sub_self] at hx'
      simp at hf hx'
      subst hf hx'
      obtain ⟨k1, k2⟩ := key B E hE hown
      exact ⟨B, E, hB, Nat.le_trans hE h3.size, k1, fun W hW hbl => hR W hW (fun b hb1 hb2 => (hbl b hb1 hb2).trans (k2 b hb1 hb2))⟩
end

end Go.Proofs.YtekajoifgdpmlaaGreatDoor

/-! H5 -/
namespace Go.Proofs.YtekajoifgdpmlaaGreatDoor
open Go.RowKit Pl Go.Shelf
open Go.Lib (decDigits itoa)

set_option maxHeartbeats 1000000 in
theorem fail_any (g : Nat) (s : List UInt8) (l : Nat) (x : Int) (w : World) (h : Rd g s l w) :
    Calls Tryz.prog 192 #[.pointer (some ⟨g, 0, none⟩), .int .i64 x] w fun e w' => e = .panicked (wrongP l 1 x) ∧ w' = w := by
  have c1 : w.cell? ⟨g, 1, none⟩ = some (.int .i64 (l : Int)) := by rw [Blk.cell h]; rfl
  go_enter Tryz.func192, Tryz.ntmps192
  go_wp2_with fail
  exact ⟨rfl, rfl, rfl⟩

set_option maxRecDepth 100000 in
set_option maxHeartbeats 1000000 in
theorem next_end (g : Nat) (s word : List UInt8) (l n : Nat) (w : World) (h : Rd g s l w) (hl : l ≤ 1000000) (hc : cutAt 10 s = none) :
    Calls Tryz.prog 144 #[.pointer (some ⟨g, 0, none⟩), .string ⟨word.toArray⟩, .int .i64 (n : Int)] w fun e w' => KR g w w' ∧ e = .panicked (wrongP 0 0 4) := by
  have HN := Lib.hid (cutAt_no hc)
  have c0 : w.cell? ⟨g, 0, none⟩ = some (.string ⟨s.toArray⟩) := by rw [Blk.cell h]; rfl
  have c1 : w.cell? ⟨g, 1, none⟩ = some (.int .i64 (l : Int)) := by rw [Blk.cell h]; rfl
  have f1 : w.frozen? ⟨g, 1, none⟩ = false := h.frozen 1
  have HW := Lib.hid (h.set_ 1 (.int .i64 ((l : Int) + 1)))
  have HK := Lib.hid (KR.set (g := g) (w := w) 1 (.int .i64 ((l : Int) + 1)))
  have w1 : IntKind.i64.wrap ((l : Int) + 1) = (l : Int) + 1 := IntWalk.i64_in _ (by omega)
  clear hc h
  go_enter Tryz.func144, Tryz.ntmps144
  go_wp2_with fail
  refine (cutN_no s _ HN.out).mono ?_
  rintro e w' ⟨rfl, hb⟩
  go_wp2_with fail
  exact ⟨rfl, HK.out.trans (KR.of hb), rfl⟩


/-- A part of a line: one cell. -/
def RS (_ : World) (vs : List Value) (x : List UInt8) : Prop := vs = [.string ⟨x.toArray⟩]
theorem strs_cell {W : World} {N : Nat} {t : TypeId} {l : List (List UInt8)} (h : Blk W N t (List.map Value.string (strs l)).toArray) {j : Nat} {x : List UInt8} (hj : l[j]? = some x) : W.cell? ⟨N, j, none⟩ = some (.string ⟨x.toArray⟩) := by
  rw [Blk.cell h]; simp [strs, hj]
theorem sl_strs {W : World} {N : Nat} {t : TypeId} {p0 : List UInt8} {pt : List (List UInt8)} (h : Blk W N t (List.map Value.string (strs (p0 :: pt))).toArray) (hl : pt.length ≤ 1000000) : Sl 1 RS W (some ⟨N, 1, none⟩) pt.length pt.length pt :=
  ⟨rfl, Nat.le_refl _, by omega, fun _ => ⟨N, 1, rfl, h.lt, fun j x hx => ⟨[.string ⟨x.toArray⟩], rfl, rfl, fun i v hv => by
    rcases i with _ | i
    · simp at hv
      subst hv
      exact strs_cell h (j := 1 + j * 1 + 0) (by rw [show 1 + j * 1 + 0 = j + 1 by omega]; simpa using hx)
    · simp at hv⟩⟩⟩
theorem contains_w {W : World} {N c : Nat} {t : TypeId} {l : List (List UInt8)} (h : Blk W N t (List.map Value.string (strs l)).toArray) (hl : l.length ≤ 1000001) :
    Calls Tryz.prog 191 #[.slice (some ⟨N, 0, none⟩) l.length c, .string ⟨#[]⟩] W fun e w' => e = .returned (.bool (decide ([] ∈ l))) ∧ w' = W := by
  have hz : (strs l).length = l.length := by simp [strs]
  have hk := Tryz.slices_Contains_string N 0 l.length c (strs l) ⟨#[]⟩ W (by omega) (by omega) (fun j hj => by
    have hj' : j < l.length := by omega
    rw [Nat.zero_add, strs_cell h (List.getElem?_eq_getElem hj')]
    simp [strs, List.getD_eq_getElem?_getD, List.getElem?_eq_getElem hj'])
  rw [List.take_of_length_le (by omega), contains_empty] at hk
  exact hk

set_option maxRecDepth 100000 in
set_option maxHeartbeats 2000000 in
theorem next_bad1 (g : Nat) (a r word : List UInt8) (l n : Nat) (w : World) (h : Rd g (a ++ 10 :: r) l w) (he : Ev g w) (hs : a.length + r.length ≤ 1000000) (hl : l ≤ 1000000) (hc : ∀ x ∈ a, x ≠ 10) (p0 : List UInt8) (pt : List (List UInt8)) (hp : splitC 32 a = p0 :: pt) (hn : n ≤ 1000000) (h1 : ¬ p0 = word) :
    Calls Tryz.prog 144 #[.pointer (some ⟨g, 0, none⟩), .string ⟨word.toArray⟩, .int .i64 (n : Int)] w fun e w' => KR g w w' ∧ e = .panicked (wrongP (l + 1 : Int) 1 3) := by
  have HN := Lib.hid hc
  have hgl := h.lt
  have c0 : w.cell? ⟨g, 0, none⟩ = some (.string ⟨(a ++ 10 :: r).toArray⟩) := by rw [Blk.cell h]; rfl
  have c1 : w.cell? ⟨g, 1, none⟩ = some (.int .i64 (l : Int)) := by rw [Blk.cell h]; rfl
  have f1 : w.frozen? ⟨g, 1, none⟩ = false := h.frozen 1
  have HW := Lib.hid (h.set_ 1 (.int .i64 ((l : Int) + 1)))
  have HK := Lib.hid (KR.set (g := g) (w := w) 1 (.int .i64 ((l : Int) + 1)))
  have w1 : IntKind.i64.wrap ((l : Int) + 1) = (l : Int) + 1 := IntWalk.i64_in _ (by omega)
  have HE := Lib.hid he
  have HP := Lib.hid hp
  have HA : a.length ≤ 1000000 := by omega
  clear hc h he hp
  go_enter Tryz.func144, Tryz.ntmps144
  go_wp2_with fail
  refine (cutN_yes a r _ hs HN.out).mono ?_
  rintro e w' ⟨rfl, hb⟩
  have HW1 : Hid (Rd g (a ++ 10 :: r) (l + 1) w') := (HW.out.below hb (by simpa [World.setCell] using hgl))
  have HK1 := Lib.hid (HK.out.trans (KR.of hb))
  clear hb HW HK c0 c1 f1
  have f0 : w'.frozen? ⟨g, 0, none⟩ = false := HW1.out.frozen 0
  have d0 : w'.cell? ⟨g, 0, none⟩ = some (.string ⟨(a ++ 10 :: r).toArray⟩) := by rw [Blk.cell HW1.out]; rfl
  have HW2 : Hid (Rd g r (l + 1) (w'.setCell ⟨g, 0, none⟩ (.string ⟨r.toArray⟩))) := HW1.out.set_ 0 (.string ⟨r.toArray⟩)
  have HK2 := Lib.hid (HK1.out.trans (KR.set (g := g) (w := w') 0 (.string ⟨r.toArray⟩)))
  have HE2 := Lib.hid (HE.out.next (HK2.out.below (Nat.le_of_lt hgl)))
  clear HW1 HK1
  go_wp2_with fail
  obtain ⟨mx, hmx⟩ := HE2.out.here.max
  refine (split_any a mx _ HA hmx).mono ?_
  rw [HP.out]
  rintro e w3 ⟨rfl, hw3⟩
  have HB3 := Lib.hid (Blk.new (w'.setCell ⟨g, 0, none⟩ (.string ⟨r.toArray⟩)) 9 (List.map Value.string (strs (p0 :: pt))).toArray)
  have HW3 := Lib.hid (HW2.out.alloc (.cells (List.map Value.string (strs (p0 :: pt))).toArray 9))
  have HK3 := Lib.hid (HK2.out.trans (KR.of (ballo _ (.cells (List.map Value.string (strs (p0 :: pt))).toArray 9))))
  have HE3 := Lib.hid (HE2.out.next ((KR.of (g := g) (ballo _ (.cells (List.map Value.string (strs (p0 :: pt))).toArray 9))).below (Nat.le_of_lt HW2.out.lt)))
  rw [← hw3] at HB3 HW3 HK3 HE3
  have HGN : Hid (g < (w'.setCell ⟨g, 0, none⟩ (.string ⟨r.toArray⟩)).heap.size) := HW2.out.lt
  have HNW : Hid (w.heap.size ≤ (w'.setCell ⟨g, 0, none⟩ (.string ⟨r.toArray⟩)).heap.size) := HK2.out.size
  clear hw3 hmx HW2 HK2 HE2 f0 d0
  generalize (w'.setCell ⟨g, 0, none⟩ (.string ⟨r.toArray⟩)).heap.size = N at *
  clear w'
  have q0 : w3.cell? ⟨N, 0, none⟩ = some (.string ⟨p0.toArray⟩) := by rw [Blk.cell HB3.out]; rfl
  have hlen : (p0 :: pt).length = pt.length + 1 := rfl
  generalize (p0 :: pt).length = m at *
  have hm0 : 0 < m := by omega
  have hm1 : (0 : Int) < (m : Int) := by omega
  have wn : IntKind.i64.wrap ((n : Int) + 1) = (n : Int) + 1 := IntWalk.i64_in _ (by omega)
  go_wp2_with fail
  refine (fail_any g r (l + 1) 3 _ HW3.out).mono ?_
  rintro e w4 ⟨rfl, rfl⟩
  go_wp2_with fail
  exact ⟨rfl, HK3.out, rfl⟩

set_option maxRecDepth 100000 in
set_option maxHeartbeats 2000000 in
theorem next_bad2 (g : Nat) (a r : List UInt8) (l n : Nat) (w : World) (h : Rd g (a ++ 10 :: r) l w) (he : Ev g w) (hs : a.length + r.length ≤ 1000000) (hl : l ≤ 1000000) (hc : ∀ x ∈ a, x ≠ 10) (p0 : List UInt8) (pt : List (List UInt8)) (hp : splitC 32 a = p0 :: pt) (hn : n ≤ 1000000) (h2 : ¬ pt.length = n) :
    Calls Tryz.prog 144 #[.pointer (some ⟨g, 0, none⟩), .string ⟨p0.toArray⟩, .int .i64 (n : Int)] w fun e w' => KR g w w' ∧ e = .panicked (wrongP (l + 1 : Int) 1 3) := by
  have HN := Lib.hid hc
  have hgl := h.lt
  have c0 : w.cell? ⟨g, 0, none⟩ = some (.string ⟨(a ++ 10 :: r).toArray⟩) := by rw [Blk.cell h]; rfl
  have c1 : w.cell? ⟨g, 1, none⟩ = some (.int .i64 (l : Int)) := by rw [Blk.cell h]; rfl
  have f1 : w.frozen? ⟨g, 1, none⟩ = false := h.frozen 1
  have HW := Lib.hid (h.set_ 1 (.int .i64 ((l : Int) + 1)))
  have HK := Lib.hid (KR.set (g := g) (w := w) 1 (.int .i64 ((l : Int) + 1)))
  have w1 : IntKind.i64.wrap ((l : Int) + 1) = (l : Int) + 1 := IntWalk.i64_in _ (by omega)
  have HE := Lib.hid he
  have HP := Lib.hid hp
  have HA : a.length ≤ 1000000 := by omega
  clear hc h he hp
  go_enter Tryz.func144, Tryz.ntmps144
  go_wp2_with fail
  refine (cutN_yes a r _ hs HN.out).mono ?_
  rintro e w' ⟨rfl, hb⟩
  have HW1 : Hid (Rd g (a ++ 10 :: r) (l + 1) w') := (HW.out.below hb (by simpa [World.setCell] using hgl))
  have HK1 := Lib.hid (HK.out.trans (KR.of hb))
  clear hb HW HK c0 c1 f1
  have f0 : w'.frozen? ⟨g, 0, none⟩ = false := HW1.out.frozen 0
  have d0 : w'.cell? ⟨g, 0, none⟩ = some (.string ⟨(a ++ 10 :: r).toArray⟩) := by rw [Blk.cell HW1.out]; rfl
  have HW2 : Hid (Rd g r (l + 1) (w'.setCell ⟨g, 0, none⟩ (.string ⟨r.toArray⟩))) := HW1.out.set_ 0 (.string ⟨r.toArray⟩)
  have HK2 := Lib.hid (HK1.out.trans (KR.set (g := g) (w := w') 0 (.string ⟨r.toArray⟩)))
  have HE2 := Lib.hid (HE.out.next (HK2.out.below (Nat.le_of_lt hgl)))
  clear HW1 HK1
  go_wp2_with fail
  obtain ⟨mx, hmx⟩ := HE2.out.here.max
  refine (split_any a mx _ HA hmx).mono ?_
  rw [HP.out]
  rintro e w3 ⟨rfl, hw3⟩
  have HB3 := Lib.hid (Blk.new (w'.setCell ⟨g, 0, none⟩ (.string ⟨r.toArray⟩)) 9 (List.map Value.string (strs (p0 :: pt))).toArray)
  have HW3 := Lib.hid (HW2.out.alloc (.cells (List.map Value.string (strs (p0 :: pt))).toArray 9))
  have HK3 := Lib.hid (HK2.out.trans (KR.of (ballo _ (.cells (List.map Value.string (strs (p0 :: pt))).toArray 9))))
  have HE3 := Lib.hid (HE2.out.next ((KR.of (g := g) (ballo _ (.cells (List.map Value.string (strs (p0 :: pt))).toArray 9))).below (Nat.le_of_lt HW2.out.lt)))
  rw [← hw3] at HB3 HW3 HK3 HE3
  have HGN : Hid (g < (w'.setCell ⟨g, 0, none⟩ (.string ⟨r.toArray⟩)).heap.size) := HW2.out.lt
  have HNW : Hid (w.heap.size ≤ (w'.setCell ⟨g, 0, none⟩ (.string ⟨r.toArray⟩)).heap.size) := HK2.out.size
  clear hw3 hmx HW2 HK2 HE2 f0 d0
  generalize (w'.setCell ⟨g, 0, none⟩ (.string ⟨r.toArray⟩)).heap.size = N at *
  clear w'
  have q0 : w3.cell? ⟨N, 0, none⟩ = some (.string ⟨p0.toArray⟩) := by rw [Blk.cell HB3.out]; rfl
  have hlen : (p0 :: pt).length = pt.length + 1 := rfl
  generalize (p0 :: pt).length = m at *
  have hm0 : 0 < m := by omega
  have hm1 : (0 : Int) < (m : Int) := by omega
  have wn : IntKind.i64.wrap ((n : Int) + 1) = (n : Int) + 1 := IntWalk.i64_in _ (by omega)
  have t2 : ((m : Int) != (n : Int) + 1) = true := by rw [bne_iff_ne]; omega
  have t3 : ¬ (m : Int) = (n : Int) + 1 := by omega
  have HL := Lib.hid hlen
  clear hlen
  go_wp2_with fail
  refine (fail_any g r (l + 1) 3 _ HW3.out).mono ?_
  rintro e w4 ⟨rfl, rfl⟩
  go_wp2_with fail
  exact ⟨rfl, HK3.out, rfl⟩

set_option maxRecDepth 100000 in
set_option maxHeartbeats 2000000 in
theorem next_bad3 (g : Nat) (a r : List UInt8) (l : Nat) (w : World) (h : Rd g (a ++ 10 :: r) l w) (he : Ev g w) (hs : a.length + r.length ≤ 1000000) (hl : l ≤ 1000000) (hc : ∀ x ∈ a, x ≠ 10) (p0 : List UInt8) (pt : List (List UInt8)) (hp : splitC 32 a = p0 :: pt) (hn : pt.length ≤ 1000000) (h3 : decide ([] ∈ p0 :: pt) = true) :
    Calls Tryz.prog 144 #[.pointer (some ⟨g, 0, none⟩), .string ⟨p0.toArray⟩, .int .i64 (pt.length : Int)] w fun e w' => KR g w w' ∧ e = .panicked (wrongP (l + 1 : Int) 1 3) := by
  have HN := Lib.hid hc
  have hgl := h.lt
  have c0 : w.cell? ⟨g, 0, none⟩ = some (.string ⟨(a ++ 10 :: r).toArray⟩) := by rw [Blk.cell h]; rfl
  have c1 : w.cell? ⟨g, 1, none⟩ = some (.int .i64 (l : Int)) := by rw [Blk.cell h]; rfl
  have f1 : w.frozen? ⟨g, 1, none⟩ = false := h.frozen 1
  have HW := Lib.hid (h.set_ 1 (.int .i64 ((l : Int) + 1)))
  have HK := Lib.hid (KR.set (g := g) (w := w) 1 (.int .i64 ((l : Int) + 1)))
  have w1 : IntKind.i64.wrap ((l : Int) + 1) = (l : Int) + 1 := IntWalk.i64_in _ (by omega)
  have HE := Lib.hid he
  have HP := Lib.hid hp
  have HA : a.length ≤ 1000000 := by omega
  clear hc h he hp
  go_enter Tryz.func144, Tryz.ntmps144
  go_wp2_with fail
  refine (cutN_yes a r _ hs HN.out).mono ?_
  rintro e w' ⟨rfl, hb⟩
  have HW1 : Hid (Rd g (a ++ 10 :: r) (l + 1) w') := (HW.out.below hb (by simpa [World.setCell] using hgl))
  have HK1 := Lib.hid (HK.out.trans (KR.of hb))
  clear hb HW HK c0 c1 f1
  have f0 : w'.frozen? ⟨g, 0, none⟩ = false := HW1.out.frozen 0
  have d0 : w'.cell? ⟨g, 0, none⟩ = some (.string ⟨(a ++ 10 :: r).toArray⟩) := by rw [Blk.cell HW1.out]; rfl
  have HW2 : Hid (Rd g r (l + 1) (w'.setCell ⟨g, 0, none⟩ (.string ⟨r.toArray⟩))) := HW1.out.set_ 0 (.string ⟨r.toArray⟩)
  have HK2 := Lib.hid (HK1.out.trans (KR.set (g := g) (w := w') 0 (.string ⟨r.toArray⟩)))
  have HE2 := Lib.hid (HE.out.next (HK2.out.below (Nat.le_of_lt hgl)))
  clear HW1 HK1
  go_wp2_with fail
  obtain ⟨mx, hmx⟩ := HE2.out.here.max
  refine (split_any a mx _ HA hmx).mono ?_
  rw [HP.out]
  rintro e w3 ⟨rfl, hw3⟩
  have HB3 := Lib.hid (Blk.new (w'.setCell ⟨g, 0, none⟩ (.string ⟨r.toArray⟩)) 9 (List.map Value.string (strs (p0 :: pt))).toArray)
  have HW3 := Lib.hid (HW2.out.alloc (.cells (List.map Value.string (strs (p0 :: pt))).toArray 9))
  have HK3 := Lib.hid (HK2.out.trans (KR.of (ballo _ (.cells (List.map Value.string (strs (p0 :: pt))).toArray 9))))
  have HE3 := Lib.hid (HE2.out.next ((KR.of (g := g) (ballo _ (.cells (List.map Value.string (strs (p0 :: pt))).toArray 9))).below (Nat.le_of_lt HW2.out.lt)))
  rw [← hw3] at HB3 HW3 HK3 HE3
  have HGN : Hid (g < (w'.setCell ⟨g, 0, none⟩ (.string ⟨r.toArray⟩)).heap.size) := HW2.out.lt
  have HNW : Hid (w.heap.size ≤ (w'.setCell ⟨g, 0, none⟩ (.string ⟨r.toArray⟩)).heap.size) := HK2.out.size
  clear hw3 hmx HW2 HK2 HE2 f0 d0
  generalize (w'.setCell ⟨g, 0, none⟩ (.string ⟨r.toArray⟩)).heap.size = N at *
  clear w'
  have q0 : w3.cell? ⟨N, 0, none⟩ = some (.string ⟨p0.toArray⟩) := by rw [Blk.cell HB3.out]; rfl
  have HZ : Hid (pt.length ≤ 1000000) := hn
  have wn : IntKind.i64.wrap ((pt.length : Int) + 1) = (pt.length : Int) + 1 := IntWalk.i64_in _ (by omega)
  go_wp2_with fail
  refine (contains_w HB3.out (by show pt.length + 1 ≤ _; have := HZ.out; omega)).mono ?_
  rw [h3]
  rintro e w4 ⟨rfl, rfl⟩
  go_wp2_with fail
  refine (fail_any g r (l + 1) 3 _ HW3.out).mono ?_
  rintro e w4 ⟨rfl, rfl⟩
  go_wp2_with fail
  exact ⟨rfl, HK3.out, rfl⟩

set_option maxRecDepth 100000 in
set_option maxHeartbeats 2000000 in
theorem next_good (g : Nat) (a r : List UInt8) (l : Nat) (w : World) (h : Rd g (a ++ 10 :: r) l w) (he : Ev g w) (hs : a.length + r.length ≤ 1000000) (hl : l ≤ 1000000) (hc : ∀ x ∈ a, x ≠ 10) (p0 : List UInt8) (pt : List (List UInt8)) (hp : splitC 32 a = p0 :: pt) (hn : pt.length ≤ 1000000) (h3 : decide ([] ∈ p0 :: pt) = false) :
    Calls Tryz.prog 144 #[.pointer (some ⟨g, 0, none⟩), .string ⟨p0.toArray⟩, .int .i64 (pt.length : Int)] w fun e w' => KR g w w' ∧ ∃ A c, e = .returned (.slice A pt.length c) ∧ Rd g r (l + 1) w' ∧ Ly w.heap.size w' (fun W => Sl 1 RS W A pt.length c pt) := by
  have HN := Lib.hid hc
  have hgl := h.lt
  have c0 : w.cell? ⟨g, 0, none⟩ = some (.string ⟨(a ++ 10 :: r).toArray⟩) := by rw [Blk.cell h]; rfl
  have c1 : w.cell? ⟨g, 1, none⟩ = some (.int .i64 (l : Int)) := by rw [Blk.cell h]; rfl
  have f1 : w.frozen? ⟨g, 1, none⟩ = false := h.frozen 1
  have HW := Lib.hid (h.set_ 1 (.int .i64 ((l : Int) + 1)))
  have HK := Lib.hid (KR.set (g := g) (w := w) 1 (.int .i64 ((l : Int) + 1)))
  have w1 : IntKind.i64.wrap ((l : Int) + 1) = (l : Int) + 1 := IntWalk.i64_in _ (by omega)
  have HE := Lib.hid he
  have HP := Lib.hid hp
  have HA : a.length ≤ 1000000 := by omega
  clear hc h he hp
  go_enter Tryz.func144, Tryz.ntmps144
  go_wp2_with fail
  refine (cutN_yes a r _ hs HN.out).mono ?_
  rintro e w' ⟨rfl, hb⟩
  have HW1 : Hid (Rd g (a ++ 10 :: r) (l + 1) w') := (HW.out.below hb (by simpa [World.setCell] using hgl))
  have HK1 := Lib.hid (HK.out.trans (KR.of hb))
  clear hb HW HK c0 c1 f1
  have f0 : w'.frozen? ⟨g, 0, none⟩ = false := HW1.out.frozen 0
  have d0 : w'.cell? ⟨g, 0, none⟩ = some (.string ⟨(a ++ 10 :: r).toArray⟩) := by rw [Blk.cell HW1.out]; rfl
  have HW2 : Hid (Rd g r (l + 1) (w'.setCell ⟨g, 0, none⟩ (.string ⟨r.toArray⟩))) := HW1.out.set_ 0 (.string ⟨r.toArray⟩)
  have HK2 := Lib.hid (HK1.out.trans (KR.set (g := g) (w := w') 0 (.string ⟨r.toArray⟩)))
  have HE2 := Lib.hid (HE.out.next (HK2.out.below (Nat.le_of_lt hgl)))
  clear HW1 HK1
  go_wp2_with fail
  obtain ⟨mx, hmx⟩ := HE2.out.here.max
  refine (split_any a mx _ HA hmx).mono ?_
  rw [HP.out]
  rintro e w3 ⟨rfl, hw3⟩
  have HB3 := Lib.hid (Blk.new (w'.setCell ⟨g, 0, none⟩ (.string ⟨r.toArray⟩)) 9 (List.map Value.string (strs (p0 :: pt))).toArray)
  have HW3 := Lib.hid (HW2.out.alloc (.cells (List.map Value.string (strs (p0 :: pt))).toArray 9))
  have HK3 := Lib.hid (HK2.out.trans (KR.of (ballo _ (.cells (List.map Value.string (strs (p0 :: pt))).toArray 9))))
  have HE3 := Lib.hid (HE2.out.next ((KR.of (g := g) (ballo _ (.cells (List.map Value.string (strs (p0 :: pt))).toArray 9))).below (Nat.le_of_lt HW2.out.lt)))
  rw [← hw3] at HB3 HW3 HK3 HE3
  have HGN : Hid (g < (w'.setCell ⟨g, 0, none⟩ (.string ⟨r.toArray⟩)).heap.size) := HW2.out.lt
  have HNW : Hid (w.heap.size ≤ (w'.setCell ⟨g, 0, none⟩ (.string ⟨r.toArray⟩)).heap.size) := HK2.out.size
  clear hw3 hmx HW2 HK2 HE2 f0 d0
  generalize (w'.setCell ⟨g, 0, none⟩ (.string ⟨r.toArray⟩)).heap.size = N at *
  clear w'
  have q0 : w3.cell? ⟨N, 0, none⟩ = some (.string ⟨p0.toArray⟩) := by rw [Blk.cell HB3.out]; rfl
  have HZ : Hid (pt.length ≤ 1000000) := hn
  have wn : IntKind.i64.wrap ((pt.length : Int) + 1) = (pt.length : Int) + 1 := IntWalk.i64_in _ (by omega)
  go_wp2_with fail
  refine (contains_w HB3.out (by show pt.length + 1 ≤ _; have := HZ.out; omega)).mono ?_
  rw [h3]
  rintro e w4 ⟨rfl, rfl⟩
  have i1 : (1 : Int) ≤ (pt.length : Int) + 1 := by omega
  go_wp2_with fail
  all_goals
    go_ret
    refine ⟨HK3.out, _, _, rfl, HW3.out, fun W h1 h2 => ?_⟩
    first
    | exact ⟨rfl, Nat.le_refl _, by omega, fun h => absurd h (by omega)⟩
    | exact sl_strs ((h2 N HNW.out HB3.out.lt).trans HB3.out) HZ.out

end Go.Proofs.YtekajoifgdpmlaaGreatDoor
