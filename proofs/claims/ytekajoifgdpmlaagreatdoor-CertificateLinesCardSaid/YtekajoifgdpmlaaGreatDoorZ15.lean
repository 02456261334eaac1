/- Bundle 15: what the laws' walks stand on: C16, G4, G5, T16, H1. -/
import Derived.Test.YtekajoifgdpmlaaGreatDoorZ9
import Derived.Test.YtekajoifgdpmlaaGreatDoorZ10
import Derived.Test.YtekajoifgdpmlaaGreatDoorZ13
import Derived.Test.YtekajoifgdpmlaaGreatDoorZ14
/-! C16 -/
namespace Go.Proofs.YtekajoifgdpmlaaGreatDoor
open Go.RowKit Pl Go.Shelf

/-- All numbers have limbs below 2^32. -/
def LmI (x : Iv) : Prop := Limbs x.lo.l ∧ Limbs x.hi.l
structure LmF (f : Fr) : Prop where
  c : ∀ d ∈ f.c, Limbs d.l
  a : ∀ l ∈ f.a, ∀ d ∈ l, Limbs d.l
  r : ∀ x ∈ f.r, LmI x
structure LmL (x : Lk) : Prop where
  h : Limbs x.h.l
  t : ∀ y ∈ x.tube, LmI y
  e : LmF x.e
  v : ∀ l ∈ x.v, ∀ d ∈ l, Limbs d.l
structure LmC (x : Ct) : Prop where
  s : LmF x.start
  l : ∀ y ∈ x.links, LmL y
theorem sli_limbs {W : World} {A : Option Addr} {n c : Nat} {l : List Iv} (h : Sl 7 RI W A n c l) : ∀ d ∈ l, LmI d := by
  intro d hd
  obtain ⟨j, hj⟩ := List.getElem?_of_mem hd
  have hlt : j < n := by have := (List.getElem?_eq_some_iff.1 hj).1; have := h.len; omega
  obtain ⟨b, off, x, vs, _, _, hx, _, ⟨A1, n1, c1, A2, n2, c2, _, hs, hs'⟩, _⟩ := h.get hlt
  rw [hj] at hx
  injection hx with hx
  rw [hx]; exact ⟨hs.lt, hs'.lt⟩
theorem rl_limbs {W : World} {vs : List Value} {x : Lk} (h : RL W vs x) : LmL x := by
  obtain ⟨H, hn, hc, T, tn, tc, A, n, c, B, m, d, C, p, q, V, vn, vc, _, h1, h2, h3, h4, h5, h6⟩ := h
  exact ⟨h1.lt, sli_limbs h2, ⟨sl_limbs h3, slm_limbs h4, sli_limbs h5⟩, slm_limbs h6⟩
theorem rc_limbs {W : World} {vs : List Value} {x : Ct} (h : RC W vs x) : LmC x := by
  obtain ⟨A, n, c, B, m, d, C, p, q, L, ln, lc, _, h1, h2, h3, h4⟩ := h
  refine ⟨⟨sl_limbs h1, slm_limbs h2, sli_limbs h3⟩, fun y hy => ?_⟩
  obtain ⟨j, hj⟩ := List.getElem?_of_mem hy
  have hlt : j < ln := by have := (List.getElem?_eq_some_iff.1 hj).1; have := h4.len; omega
  obtain ⟨b, off, x, vs, _, _, hx, _, hR, _⟩ := h4.get hlt
  rw [hj] at hx
  injection hx with hx
  rw [hx]; exact rl_limbs hR

theorem eqF_congr {α : Type} {p q : α → α → Bool} : ∀ (xs ys : List α), (∀ x ∈ xs, ∀ y ∈ ys, p x y = q x y) → eqF p xs ys = eqF q xs ys := by
  intro xs
  induction xs with
  | nil => intro ys _; cases ys <;> rfl
  | cons x xs ih =>
    intro ys h
    cases ys with
    | nil => rfl
    | cons y ys =>
      simp only [eqF]
      rw [h x (by simp) y (by simp), ih ys (fun a ha b hb => h a (by simp [ha]) b (by simp [hb]))]
theorem eqF_refl {α : Type} {p : α → α → Bool} : ∀ (xs : List α), (∀ x ∈ xs, p x x = true) → eqF p xs xs = true := by
  intro xs
  induction xs with
  | nil => intro _; rfl
  | cons x xs ih => intro h; simp only [eqF]; rw [h x (by simp), ih (fun a ha => h a (by simp [ha]))]; rfl
theorem eqF_id {α : Type} {p : α → α → Bool} : ∀ (xs ys : List α), (∀ x ∈ xs, ∀ y, p x y = true → x = y) → eqF p xs ys = true → xs = ys := by
  intro xs
  induction xs with
  | nil => intro ys _ h; cases ys with
    | nil => rfl
    | cons y ys => simp [eqF] at h
  | cons x xs ih =>
    intro ys hp h
    cases ys with
    | nil => simp [eqF] at h
    | cons y ys =>
      simp only [eqF, Bool.and_eq_true] at h
      rw [hp x (by simp) y h.1, ih ys (fun a ha => hp a (by simp [ha])) h.2]
theorem eqF_len2 {α : Type} {p : α → α → Bool} (xs ys : List α) : (decide (xs.length = ys.length) && eqF p xs ys) = eqF p xs ys := by
  by_cases h : xs.length = ys.length
  · rw [decide_eq_true h]; rfl
  · rw [eqF_len p xs ys h]; simp
theorem eqD_id {d d' : Dy} (h : eqD d d' = true) : d = d' := by
  unfold eqD at h
  have h := of_decide_eq_true h
  obtain ⟨a, b, c⟩ := d
  obtain ⟨a', b', c'⟩ := d'
  simp only at h
  obtain ⟨rfl, rfl, rfl⟩ := h
  rfl
theorem sI_id {x y : Iv} (h : sI x y = true) : x = y := by
  unfold sI at h
  simp only [Bool.and_eq_true, beq_iff_eq] at h
  obtain ⟨⟨h1, h2⟩, h3⟩ := h
  obtain ⟨a, b, c⟩ := x
  obtain ⟨a', b', c'⟩ := y
  simp only at h1 h2 h3
  rw [eqD_id h2, eqD_id h3, h1]
theorem sN_id {l l' : List Dy} (h : sN l l' = true) : l = l' := eqF_id l l' (fun _ _ _ e => eqD_id e) h
theorem sM_id {l l' : List (List Dy)} (h : sM l l' = true) : l = l' := eqF_id l l' (fun _ _ _ e => sN_id e) h
theorem sB_id {l l' : List Iv} (h : sB l l' = true) : l = l' := eqF_id l l' (fun _ _ _ e => sI_id e) h
theorem sF_id {f g : Fr} (h : sF f g = true) : f = g := by
  unfold sF at h
  simp only [Bool.and_eq_true] at h
  obtain ⟨a, b, c⟩ := f
  obtain ⟨a', b', c'⟩ := g
  rw [show a = a' from sN_id h.1.1, show b = b' from sM_id h.1.2, show c = c' from sB_id h.2]
theorem sL_id {f g : Lk} (h : sL f g = true) : f = g := by
  unfold sL at h
  simp only [Bool.and_eq_true] at h
  obtain ⟨a, b, c, d⟩ := f
  obtain ⟨a', b', c', d'⟩ := g
  rw [show a = a' from eqD_id h.1.1.1, show b = b' from sB_id h.1.1.2, show c = c' from sF_id h.1.2, show d = d' from sM_id h.2]
theorem sC_id {f g : Ct} (h : sC f g = true) : f = g := by
  unfold sC at h
  simp only [Bool.and_eq_true, decide_eq_true_eq] at h
  obtain ⟨a, b, c, d⟩ := f
  obtain ⟨a', b', c', d'⟩ := g
  rw [show a = a' from h.1.1.1, show b = b' from h.1.1.2, show c = c' from sF_id h.1.2, show d = d' from eqF_id d d' (fun _ _ _ e => sL_id e) h.2]
theorem sN_refl (l : List Dy) : sN l l = true := eqF_refl l (fun x _ => eqD_self x)
theorem sI_refl (x : Iv) : sI x x = true := by
  unfold sI
  obtain ⟨⟨a, b, c⟩, ⟨a', b', c'⟩, al⟩ := x
  simp only []
  rw [eqD_self, eqD_self]; simp
theorem sM_refl (l : List (List Dy)) : sM l l = true := eqF_refl l (fun x _ => sN_refl x)
theorem sB_refl (l : List Iv) : sB l l = true := eqF_refl l (fun x _ => sI_refl x)
theorem sF_refl (f : Fr) : sF f f = true := by unfold sF; rw [sN_refl, sM_refl, sB_refl]; rfl
theorem sL_refl (x : Lk) : sL x x = true := by
  unfold sL
  obtain ⟨⟨a, b, c⟩, t, e, v⟩ := x
  simp only []
  rw [eqD_self, sB_refl, sF_refl, sM_refl]; rfl
theorem sC_refl (x : Ct) : sC x x = true := by
  unfold sC
  rw [sF_refl, eqF_refl x.links (fun y _ => sL_refl y)]; simp
theorem sC_symm (x y : Ct) : sC x y = sC y x := by
  cases h : sC x y
  · cases h' : sC y x
    · rfl
    · rw [sC_id h', sC_refl] at h; cases h
  · rw [sC_id h, sC_refl]

theorem cz_eq {d d' : Dy} (h : Limbs d.l) (h' : Limbs d'.l) (hv : vld d = true) (hv' : vld d' = true) : cz d d' = eqD d d' := by
  unfold cz
  rw [← cmp_eq h h' hv hv']; rfl
theorem ivE_eq {x y : Iv} (h : LmI x) (h' : LmI y) (hv : ivV x = true) (hv' : ivV y = true) (ha : x.all = false) (ha' : y.all = false) : ivE x y = sI x y := by
  obtain ⟨v1, v2⟩ := ivV_lo hv ha
  obtain ⟨v3, v4⟩ := ivV_lo hv' ha'
  unfold ivE ins sI
  rw [hv, hv', ha, ha', ← cmp_eq h.1 h'.1 v1 v3, ← cmp_eq h.2 h'.2 v2 v4]
  have e1 := (cmp_anti x.lo y.lo).1
  have e2 := (cmp_anti x.hi y.hi).1
  rw [e1, e2]
  generalize cmpD y.lo x.lo = a
  generalize cmpD y.hi x.hi = b
  rw [Bool.eq_iff_iff]
  simp only [Bool.true_and, Bool.false_or, Bool.not_false, Bool.and_eq_true, decide_eq_true_eq, beq_iff_eq, beq_self_eq_true]
  omega
theorem enN_eq {l l' : List Dy} (h : ∀ d ∈ l, Limbs d.l) (h' : ∀ d ∈ l', Limbs d.l) (hv : ∀ d ∈ l, vld d = true) (hv' : ∀ d ∈ l', vld d = true) : enN l l' = sN l l' :=
  eqF_congr l l' (fun x hx y hy => cz_eq (h x hx) (h' y hy) (hv x hx) (hv' y hy))
theorem enR_eq {l l' : List (List Dy)} (h : ∀ a ∈ l, ∀ d ∈ a, Limbs d.l) (h' : ∀ a ∈ l', ∀ d ∈ a, Limbs d.l) (hv : ∀ a ∈ l, ∀ d ∈ a, vld d = true) (hv' : ∀ a ∈ l', ∀ d ∈ a, vld d = true) : enR l l' = sM l l' :=
  eqF_congr l l' (fun x hx y hy => enN_eq (h x hx) (h' y hy) (hv x hx) (hv' y hy))
theorem any_not {α : Type} {p : α → Bool} {l : List α} (h : (!l.any p) = true) : ∀ x ∈ l, p x = false := by
  rw [Bool.not_eq_true', List.any_eq_false] at h
  intro x hx
  simpa using h x hx
theorem frV_all {f : Fr} (h : frV f = true) : (∀ d ∈ f.c, vld d = true) ∧ (∀ l ∈ f.a, ∀ d ∈ l, vld d = true) ∧ ∀ x ∈ f.r, ivV x = true ∧ x.all = false := by
  have h2 := frV_vld h
  unfold frV at h
  simp only [Bool.and_eq_true] at h
  refine ⟨fun d hd => by simpa using any_not h.1.1.2 d hd, h2, fun x hx => ?_⟩
  have := any_not h.2 x hx
  rw [Bool.or_eq_false_iff] at this
  refine ⟨?_, this.1⟩
  have h3 := this.2
  unfold ivHas at h3
  simp only [Bool.not_eq_false', Bool.and_eq_true] at h3
  exact h3.1.1
theorem boxV_all {l : List Iv} (h : boxV l = true) : ∀ x ∈ l, ivV x = true ∧ x.all = false := by
  unfold boxV at h
  simp only [Bool.and_eq_true] at h
  intro x hx
  have := any_not h.2 x hx
  rw [Bool.or_eq_false_iff] at this
  exact ⟨by simpa using this.2, this.1⟩
theorem sqV_all {v : List (List Dy)} {N : Nat} (h : sqV v N = true) : ∀ l ∈ v, ∀ d ∈ l, vld d = true := by
  unfold sqV at h
  simp only [Bool.and_eq_true] at h
  intro l hl d hd
  have := any_not h.2 l hl
  rw [Bool.or_eq_false_iff] at this
  have h2 := List.any_eq_false.1 this.2 d hd
  simpa using h2
theorem enF_eq {f g : Fr} (h : LmF f) (h' : LmF g) (hv : frV f = true) (hv' : frV g = true) : enF f g = sF f g := by
  obtain ⟨a1, a2, a3⟩ := frV_all hv
  obtain ⟨b1, b2, b3⟩ := frV_all hv'
  unfold enF sF
  rw [enN_eq h.c h'.c a1 b1, enR_eq h.a h'.a a2 b2]
  congr 1
  exact eqF_congr _ _ (fun x hx y hy => ivE_eq (h.r x hx) (h'.r y hy) (a3 x hx).1 (b3 y hy).1 (a3 x hx).2 (b3 y hy).2)
theorem lkE_eq {x y : Lk} {N M : Nat} (h : LmL x) (h' : LmL y) (hv : lkV N x = true) (hv' : lkV M y = true) : lkE x y = sL x y := by
  unfold lkV at hv hv'
  simp only [Bool.and_eq_true] at hv hv'
  obtain ⟨⟨⟨⟨⟨⟨v1, v2⟩, v3⟩, v4⟩, v5⟩, v6⟩, v7⟩ := hv
  obtain ⟨⟨⟨⟨⟨⟨u1, u2⟩, u3⟩, u4⟩, u5⟩, u6⟩, u7⟩ := hv'
  unfold lkE sL bxE
  rw [cz_eq h.h h'.h v1 u1, enF_eq h.e h'.e v5 u5, enR_eq h.v h'.v (sqV_all v7) (sqV_all u7), v3, u3, Bool.true_and, Bool.true_and, eqF_len2]
  have : eqF ivE x.tube y.tube = sB x.tube y.tube := eqF_congr _ _ (fun a ha b hb => ivE_eq (h.t a ha) (h'.t b hb) (boxV_all v3 a ha).1 (boxV_all u3 b hb).1 (boxV_all v3 a ha).2 (boxV_all u3 b hb).2)
  rw [this]
theorem ctV_parts {x : Ct} (h : ctV x = true) : frV x.start = true ∧ idM x.start.a = true ∧ (∀ l ∈ x.links, lkV x.start.c.length l = true) ∧ 8 ≤ x.prec ∧ x.prec ≤ 256 ∧ 1 ≤ x.order ∧ x.order ≤ 15 ∧ 1 ≤ x.start.c.length ∧ x.start.c.length ≤ 4 ∧ x.links.length ≤ 1000 := by
  unfold ctV at h
  simp only [Bool.and_eq_true, decide_eq_true_eq] at h
  obtain ⟨⟨⟨⟨⟨⟨⟨⟨⟨v1, v2⟩, v3⟩, v4⟩, v5⟩, v6⟩, v7⟩, v8⟩, v9⟩, v10⟩ := h
  exact ⟨v8, v9, fun l hl => by simpa using any_not v10 l hl, v1, v2, v3, v4, v6, v7, v5⟩
theorem ctE_eq {x y : Ct} (h : LmC x) (h' : LmC y) : ctE x y = (ctV x && ctV y && sC x y) := by
  unfold ctE sC
  cases hv : ctV x
  · rfl
  · cases hv' : ctV y
    · rfl
    · obtain ⟨a1, _, a3, _⟩ := ctV_parts hv
      obtain ⟨b1, _, b3, _⟩ := ctV_parts hv'
      rw [enF_eq h.s h'.s a1 b1, eqF_congr x.links y.links (fun a ha b hb => lkE_eq (h.l a ha) (h'.l b hb) (a3 a ha) (b3 b hb))]
      simp only [Bool.true_and, Bool.and_assoc]
theorem ctE_symm {x y : Ct} (h : LmC x) (h' : LmC y) : ctE x y = ctE y x := by
  rw [ctE_eq h h', ctE_eq h' h, sC_symm x y, Bool.and_comm (ctV x) (ctV y)]
theorem ctE_self {x : Ct} (h : LmC x) : ctE x x = ctV x := by
  rw [ctE_eq h h, sC_refl]; simp

end Go.Proofs.YtekajoifgdpmlaaGreatDoor

/-! G4 -/
namespace Go.Proofs.YtekajoifgdpmlaaGreatDoor
open Go.RowKit Pl Go.Shelf

def rowsT (word : List UInt8) (m : List (List Dy)) : List UInt8 := m.flatMap (lineT word)
def setT (f : Fr) : List UInt8 := lineT [99] f.c ++ rowsT [97] f.a ++ lineT [114] (endsL f.r)
theorem rowsT_take {word : List UInt8} {m : List (List Dy)} {k : Nat} {r : List Dy} (h : m[k]? = some r) : rowsT word (m.take (k + 1)) = rowsT word (m.take k) ++ lineT word r := by
  unfold rowsT
  rw [List.take_add_one, h]
  simp
theorem rowsT_len {word : List UInt8} : ∀ {m : List (List Dy)}, (∀ r ∈ m, ∀ d ∈ r, vld d = true) → (∀ r ∈ m, r.length ≤ 10) → (rowsT word m).length ≤ (word.length + 12511) * m.length := by
  intro m
  induction m with
  | nil => intro _ _; simp [rowsT]
  | cons r m ih =>
    intro h1 h2
    have h3 := lineT_len (word := word) (h1 r (by simp))
    have h4 := h2 r (by simp)
    have h5 := ih (fun x hx => h1 x (by simp [hx])) (fun x hx => h2 x (by simp [hx]))
    unfold rowsT at h5 ⊢
    rw [List.flatMap_cons, List.length_append, List.length_cons, Nat.mul_add, Nat.mul_one]
    omega

set_option maxRecDepth 100000 in
set_option maxHeartbeats 4000000 in
theorem erows_any (B b : Nat) (l word : List UInt8) (A : Option Addr) (n c : Nat) (m : List (List Dy)) (W0 w : World) (h0 : Below W0.heap.size W0 w) (hB0 : W0.heap.size ≤ B) (hb : Bu B b l w) (hB : B ≤ w.heap.size) (hS : Sl 1 RM W0 A n c m) (hT : Tens W0)
    (hv : ∀ r ∈ m, ∀ d ∈ r, vld d = true) (hr : ∀ r ∈ m, r.length ≤ 10) (hl : l.length ≤ 50000000) (hw : word.length ≤ 100) (hn : n ≤ 10) :
    Calls Tryz.prog 81 #[.pointer (some ⟨b, 0, none⟩), .string ⟨word.toArray⟩, .slice A n c] w fun e w' => e = .returned (.tuple #[]) ∧ Bu B b (l ++ rowsT word m) w' ∧ KB B b w w' := by
  have m1 := hS.cap
  have m2 := hS.max
  have HL := Lib.hid hS.len
  have HS := Lib.hid hS
  have HT := Lib.hid hT
  have HV := Lib.hid hv
  have HR := Lib.hid hr
  have HB := Lib.hid hb
  have H0 := Lib.hid h0
  clear hS hT hv hb hr h0
  go_enter Tryz.func81, Tryz.ntmps81
  go_wp2_with fail
  go_loopw [10] (fun v wr => ∃ (k : Nat) (L : List UInt8), k ≤ n ∧ v = .int .i64 k ∧ Hid (L = l ++ rowsT word (m.take k)) ∧ Hid (Bu B b L wr) ∧ Hid (KB B b w wr) ∧ L.length ≤ 50000000 + 13000 * k) (fun v _ => n - (intOf v).toNat)
  case atStart => exact ⟨0, l, by omega, rfl, by simp [Hid, rowsT], HB, KB.refl _ _ _, by omega⟩
  case round =>
    clear HB
    obtain ⟨k, L, hk, rfl, HE, HB, HK, hLl⟩ := hrel
    have hBr : B ≤ wr.heap.size := Nat.le_trans hB HK.out.size
    by_cases hlt : k < n
    · obtain ⟨b1, off, r, vs, rfl, hbl, hd, hk1, hRR, hc⟩ := HS.out.get hlt
      have hvr := HV.out r (List.mem_of_getElem? hd)
      have hrl := HR.out r (List.mem_of_getElem? hd)
      have hline := lineT_len (word := word) hvr
      have HE2 : Hid (L ++ lineT word r = l ++ rowsT word (m.take (k + 1))) := by unfold Hid; rw [HE.out, rowsT_take hd]; simp
      obtain ⟨A1, n1, c1, rfl, hs⟩ := hRR
      have hrw := HK.out.from H0.out hB0
      have qt := hc 0 _ rfl
      rw [Nat.mul_one, Nat.add_zero] at qt
      have q0 := (hrw.cell (p := ⟨b1, off + k, none⟩) hbl).trans qt
      have hn1 : n1 ≤ 10 := by rw [← hs.len]; exact hrl
      have HC := Lib.hid (enumbers_any B b L word A1 n1 c1 r wr HB.out hBr (fun W hW => hs.next lasts_RD (hW.from hrw hB0)) (fun W hW => HT.out.next (hW.from hrw hB0)) hvr (by omega) hw (by omega))
      have hL2 : (L ++ lineT word r).length ≤ 50000000 + 13000 * (k + 1) := by rw [List.length_append]; omega
      generalize lineT word r = T at *
      clear hc qt hk1 hd hvr hrl hline hs hrw HE HB
      go_wp2_with fail
      refine HC.out.mono ?_
      rintro e w1 ⟨rfl, hb1, hk2⟩
      have HB1 := Lib.hid hb1
      have HK1 := Lib.hid (HK.out.trans hk2)
      clear hb1 hk2 HC HK q0
      go_wp2_with fail
      go_roundw
      case rel => exact ⟨k + 1, L ++ T, by omega, by go_num, HE2, HB1, HK1, by omega⟩
      case measure => simp [intOf]; omega
    · obtain rfl : k = n := by omega
      have HE2 : Hid (L = l ++ rowsT word m) := by
        unfold Hid
        rw [HE.out, List.take_of_length_le (by rw [HL.out]; exact Nat.le_refl _)]
      go_wp2_with fail
      go_end0
      exact ⟨rfl, by rw [← HE2.out]; exact HB.out, HK.out⟩

theorem frV_len {f : Fr} (h : frV f = true) : f.c.length ≤ 8 ∧ f.a.length ≤ 8 ∧ f.r.length ≤ 8 ∧ ∀ l ∈ f.a, l.length ≤ 8 := by
  unfold frV at h
  simp only [Bool.and_eq_true, decide_eq_true_eq] at h
  obtain ⟨⟨⟨⟨⟨⟨v1, v2⟩, v3⟩, v4⟩, v5⟩, v6⟩, v7⟩ := h
  refine ⟨v2, by omega, by omega, fun l hl => ?_⟩
  have := any_not v6 l hl
  rw [Bool.or_eq_false_iff] at this
  have := of_decide_eq_false this.1
  omega
theorem ends_vld {l : List Iv} (h : ∀ x ∈ l, ivV x = true ∧ x.all = false) : ∀ d ∈ endsL l, vld d = true := by
  intro d hd
  unfold endsL at hd
  rw [List.mem_flatMap] at hd
  obtain ⟨x, hx, hd⟩ := hd
  have := ivV_lo (h x hx).1 (h x hx).2
  simp at hd
  rcases hd with rfl | rfl
  · exact this.1
  · exact this.2
theorem ends_get {us : List (List Value)} {xs : List Iv} {W : World} (hl : us.length = xs.length) (hR : ∀ (j : Nat) (u : List Value) (x : Iv), us[j]? = some u → xs[j]? = some x → RI W u x) : ∀ (j : Nat) (f : List Value) (d : Dy), (endsV us)[j]? = some f → (endsL xs)[j]? = some d → RD W f d := by
  induction us generalizing xs with
  | nil => intro j f d hf; simp [endsV] at hf
  | cons u us ih =>
    cases xs with
    | nil => simp at hl
    | cons x xs =>
      intro j f d hf hd
      obtain ⟨A1, n1, c1, A2, n2, c2, rfl, hs1, hs2⟩ := hR 0 u x rfl rfl
      unfold endsV at hf
      unfold endsL at hd
      rw [List.flatMap_cons] at hf hd
      match j, hf, hd with
      | 0, hf, hd => simp at hf hd; subst hf hd; exact ⟨A1, n1, c1, rfl, hs1⟩
      | 1, hf, hd => simp at hf hd; subst hf hd; exact ⟨A2, n2, c2, rfl, hs2⟩
      | j + 2, hf, hd => exact ih (by simpa using hl) (fun i a b ha hb => hR (i + 1) a b (by simpa using ha) (by simpa using hb)) j f d (by simpa [endsV] using hf) (by simpa [endsL] using hd)

/-- A line with the ends of intervals: 'numbers(out, word, ends(l))', as a contract on the second call. -/
theorem endsLine {B b : Nat} {l word : List UInt8} {xs : List Iv} {us : List (List Value)} {W0 w : World} {base : Nat} {v : Value} (h0 : Below W0.heap.size W0 w) (hB0 : W0.heap.size ≤ B) (hb : Bu B b l w) (hB : B ≤ w.heap.size) (hbb : b < base) (hT : Tens W0)
    (hO : OwnK 25 3 w base v (endsV us)) (hl : us.length = xs.length) (hR : ∀ (j : Nat) (u : List Value) (x : Iv), us[j]? = some u → xs[j]? = some x → RI W0 u x) (hv : ∀ x ∈ xs, ivV x = true ∧ x.all = false) (hx : xs.length ≤ 10) (hll : l.length ≤ 50000000) (hw : word.length ≤ 100) :
    Calls Tryz.prog 79 #[.pointer (some ⟨b, 0, none⟩), .string ⟨word.toArray⟩, v] w fun e w' => e = .returned (.tuple #[]) ∧ Bu B b (l ++ lineT word (endsL xs)) w' ∧ KB B b w w' := by
  have hlen : (endsL xs).length = (endsV us).length := by rw [endsL_len, endsV_len, hl]
  have key : ∀ W, KB B b w W → ∃ A c, v = .slice A (endsV us).length c ∧ Sl 3 RD W A (endsV us).length c (endsL xs) := by
    intro W hW
    exact (hO.kb hW hbb (by decide)).sl hlen (ends_get hl (fun j u x hu hx => lasts_RI _ _ _ _ (hR j u x hu hx) (hW.from h0 hB0)))
  obtain ⟨A, c, rfl, _⟩ := key w (KB.refl _ _ _)
  refine enumbers_any B b l word A _ c (endsL xs) w hb hB (fun W hW => ?_) (fun W hW => hT.next (hW.from h0 hB0)) (ends_vld hv) (by omega) hw (by rw [endsV_len]; omega)
  obtain ⟨A', c', e, hS⟩ := key W hW
  injection e with e1 e2 e3
  subst e1 e3
  exact hS

set_option maxRecDepth 100000 in
set_option maxHeartbeats 8000000 in
theorem eset_any (B b : Nat) (l : List UInt8) (vs : List Value) (f : Fr) (W0 w : World) (h0 : Below W0.heap.size W0 w) (hB0 : W0.heap.size ≤ B) (hb : Bu B b l w) (hB : B ≤ w.heap.size) (hS : RF W0 vs f) (hT : Tens W0) (hv : frV f = true) (hl : l.length ≤ 40000000) :
    Calls Tryz.prog 78 #[.pointer (some ⟨b, 0, none⟩), .agg vs.toArray] w fun e w' => e = .returned (.tuple #[]) ∧ Bu B b (l ++ setT f) w' ∧ KB B b w w' := by
  obtain ⟨A, n, c, A2, m, d, A3, p, q, rfl, h1, h2, h3⟩ := hS
  obtain ⟨l1, l2, l3, l4⟩ := frV_len hv
  obtain ⟨v1, v2, v3⟩ := frV_all hv
  have n1 : n ≤ 8 := by rw [← h1.len]; exact l1
  have n2 : m ≤ 8 := by rw [← h2.len]; exact l2
  have n3 : p ≤ 8 := by rw [← h3.len]; exact l3
  have t1 := lineT_len (word := [99]) v1
  have t2 := rowsT_len (word := [97]) v2 (fun r hr => Nat.le_trans (l4 r hr) (by omega))
  have hE : Hid (setT f = lineT [99] f.c ++ rowsT [97] f.a ++ lineT [114] (endsL f.r)) := rfl
  obtain ⟨us, hu1, hu2, hu3, hu4⟩ := h3.cells
  have hk0 := ballo w (.cells #[.slice A n c, .slice A2 m d, .slice A3 p q] 39)
  have k0 := Blk.new w 39 #[.slice A n c, .slice A2 m d, .slice A3 p q]
  have hbw : b ≠ w.heap.size := Nat.ne_of_lt hb.lt
  have hbb := hb.lt
  have G1 := Lib.hid (fun W (hW : KB B b w W) L (hB : Bu B b L W) (hs : B ≤ W.heap.size) (hL : L.length ≤ 40000000) => enumbers_any B b L [99] A n c f.c W hB hs (fun V hV => h1.next lasts_RD ((hW.trans hV).from h0 hB0)) (fun V hV => hT.next ((hW.trans hV).from h0 hB0)) v1 (by omega) (by simp) (by omega))
  have G2 := Lib.hid (fun W (hW : KB B b w W) L (hB : Bu B b L W) (hs : B ≤ W.heap.size) (hL : L.length ≤ 45000000) => erows_any B b L [97] A2 m d f.a W0 W (hW.from h0 hB0) hB0 hB hs h2 hT v2 (fun r hr => Nat.le_trans (l4 r hr) (by omega)) (by omega) (by simp) (by omega))
  have G3 := Lib.hid (fun W (hW : Below W0.heap.size W0 W) => ends_any A3 p q f.r us W (h3.next lasts_RI hW) (by omega) hu1 (fun hp => by
    obtain ⟨b', off, e, hb', hc⟩ := hu3 hp
    exact ⟨b', off, e, Nat.lt_of_lt_of_le hb' hW.size, fun j u hj i v hi => (hW.cell (p := ⟨b', off + j * 7 + i, none⟩) hb').trans (hc j u hj i v hi)⟩) (fun j u x hu hx => lasts_RI _ _ _ _ (hu4 j u x hu hx) hW))
  have G4 := Lib.hid (fun W (hW : Below W0.heap.size W0 W) base v L (hB : Bu B b L W) (hs : B ≤ W.heap.size) (hbs : b < base) (hO : OwnK 25 3 W base v (endsV us)) (hL : L.length ≤ 50000000) => endsLine (word := [114]) hW hB0 hB hs hbs hT hO (by rw [hu1, h3.len]) hu4 v3 (by omega) hL (by simp))
  have HB := Lib.hid hb
  have H0 := Lib.hid h0
  rw [h1.len] at l1
  rw [h1.len] at t1
  rw [h2.len] at t2
  clear h1 h2 h3 hT hv v1 v2 v3 l1 l2 l3 l4 hu1 hu2 hu3 hu4 hb h0
  generalize lineT [99] f.c = T1 at *
  generalize rowsT [97] f.a = T2 at *
  generalize lineT [114] (endsL f.r) = T3 at *
  have hT1 : T1.length ≤ 20000 := by simp at t1; omega
  have hT2 : T2.length ≤ 200000 := by simp at t2; omega
  clear t1 t2
  have HB0 := Lib.hid (HB.out.next hk0)
  have HK0 := Lib.hid (KB.of (b := b) hB hk0)
  have hB1 := Nat.le_trans hB hk0.size
  clear hk0 HB
  go_enter Tryz.func78, Tryz.ntmps78
  go_wp2_with fail
  generalize w.alloc (.cells #[.slice A n c, .slice A2 m d, .slice A3 p q] 39) = W1 at *
  generalize w.heap.size = gf at *
  refine (G1.out _ HK0.out l HB0.out hB1 hl).mono ?_
  rintro e w1 ⟨rfl, hb1, hk1⟩
  replace k0 := hk1.blk k0 (by omega) (by decide)
  have HB1 := Lib.hid hb1
  have HK1 := Lib.hid (HK0.out.trans hk1)
  have hB2 := Nat.le_trans hB1 hk1.size
  clear hb1 hk1 HB0 HK0
  obtain ⟨q0, q1, q2⟩ := k0.cells3
  go_wp2_with fail
  refine (G2.out _ HK1.out _ HB1.out hB2 (by rw [List.length_append]; omega)).mono ?_
  rintro e w2 ⟨rfl, hb1, hk1⟩
  clear q0 q1 q2
  replace k0 := hk1.blk k0 (by omega) (by decide)
  have HB2 := Lib.hid hb1
  have HK2 := Lib.hid (HK1.out.trans hk1)
  have hB3 := Nat.le_trans hB2 hk1.size
  clear hb1 hk1 HB1 HK1
  obtain ⟨q0, q1, q2⟩ := k0.cells3
  go_wp2_with fail
  refine (G3.out _ (HK2.out.from H0.out hB0)).mono ?_
  rintro e w3 ⟨v, rfl, hO, hb3⟩
  have HB3 := Lib.hid (HB2.out.next hb3)
  have HK3 := Lib.hid (HK2.out.trans (KB.of hB3 hb3))
  have HO3 := Lib.hid hO
  have hB4 := Nat.le_trans hB3 hb3.size
  have hbl := HB2.out.lt
  clear hO hb3 HB2 HK2 q0 q1 q2 k0
  go_wp2_with fail
  refine (G4.out _ (HK3.out.from H0.out hB0) _ _ _ HB3.out hB4 hbl HO3.out (by rw [List.length_append, List.length_append]; omega)).mono ?_
  rintro e w4 ⟨rfl, hb4, hk4⟩
  have HB4 := Lib.hid hb4
  have HK4 := Lib.hid (HK3.out.trans hk4)
  clear hb4 hk4
  go_wp2_with fail
  go_end0
  refine ⟨rfl, ?_, HK4.out⟩
  rw [hE.out, ← List.append_assoc, ← List.append_assoc]
  exact HB4.out

end Go.Proofs.YtekajoifgdpmlaaGreatDoor

/-! G5 -/
namespace Go.Proofs.YtekajoifgdpmlaaGreatDoor
open Go.RowKit Pl Go.Shelf

def certW : List UInt8 := [99, 101, 114, 116, 105, 102, 105, 99, 97, 116, 101]
def stepW : List UInt8 := [115, 116, 101, 112]
def tubeW : List UInt8 := [116, 117, 98, 101]
def endW : List UInt8 := [101, 110, 100, 10]
def intsT (l : List Int) : List UInt8 := l.flatMap (fun n => 32 :: Lib.itoa n)
def headN (x : Ct) : List Int := [x.prec, x.order, (x.start.c.length : Int), (x.links.length : Int)]
def headT (x : Ct) : List UInt8 := certW ++ intsT (headN x) ++ [10]
def linkT (x : Lk) : List UInt8 := lineT stepW [x.h] ++ lineT tubeW (endsL x.tube) ++ setT x.e ++ rowsT [118] x.v
def linksT (l : List Lk) : List UInt8 := l.flatMap linkT
def textC (x : Ct) : List UInt8 := headT x ++ setT x.start ++ linksT x.links ++ endW
def encC (x : Ct) : List UInt8 × Int := if ctV x = true then (if 65536 < (textC x).length then ([], 5) else (textC x, 0)) else ([], 1)
theorem intsT_take {l : List Int} {k : Nat} {z : Int} (h : l[k]? = some z) : intsT (l.take (k + 1)) = intsT (l.take k) ++ (32 :: Lib.itoa z) := by
  unfold intsT
  rw [List.take_add_one, h]
  simp
theorem linksT_take {l : List Lk} {k : Nat} {x : Lk} (h : l[k]? = some x) : linksT (l.take (k + 1)) = linksT (l.take k) ++ linkT x := by
  unfold linksT
  rw [List.take_add_one, h]
  simp
theorem linksT_split {l : List Lk} (k : Nat) : linksT l = linksT (l.take k) ++ linksT (l.drop k) := by
  unfold linksT
  rw [← List.flatMap_append, List.take_append_drop]
theorem setT_len {f : Fr} (h : frV f = true) : (setT f).length ≤ 140000 := by
  obtain ⟨l1, l2, l3, l4⟩ := frV_len h
  obtain ⟨v1, v2, v3⟩ := frV_all h
  have t1 := lineT_len (word := [99]) v1
  have t2 := rowsT_len (word := [97]) v2 (fun r hr => Nat.le_trans (l4 r hr) (by omega))
  have t3 := lineT_len (word := [114]) (ends_vld v3)
  rw [endsL_len] at t3
  have t4 : ([97].length + 12511) * f.a.length ≤ 12512 * 8 := Nat.mul_le_mul (by simp) l2
  unfold setT
  simp only [List.length_append, List.length_cons, List.length_nil] at *
  omega
theorem lk_parts {N : Nat} {x : Lk} (h : lkV N x = true) (hN : N ≤ 4) : vld x.h = true ∧ boxV x.tube = true ∧ x.tube.length ≤ 8 ∧ frV x.e = true ∧ (∀ r ∈ x.v, ∀ d ∈ r, vld d = true) ∧ (∀ r ∈ x.v, r.length ≤ 10) ∧ x.v.length ≤ 10 := by
  unfold lkV at h
  simp only [Bool.and_eq_true, decide_eq_true_eq] at h
  obtain ⟨⟨⟨⟨⟨⟨v1, v2⟩, v3⟩, v4⟩, v5⟩, v6⟩, v7⟩ := h
  refine ⟨v1, v3, by omega, v5, sqV_all v7, fun r hr => ?_, ?_⟩
  · unfold sqV at v7
    simp only [Bool.and_eq_true] at v7
    have := any_not v7.2 r hr
    rw [Bool.or_eq_false_iff] at this
    have := of_decide_eq_false this.1
    omega
  · unfold sqV at v7
    simp only [Bool.and_eq_true, decide_eq_true_eq] at v7
    omega
theorem linkT_len {N : Nat} {x : Lk} (h : lkV N x = true) (hN : N ≤ 4) : (lineT stepW [x.h]).length ≤ 1260 ∧ (lineT tubeW (endsL x.tube)).length ≤ 30000 ∧ (setT x.e).length ≤ 140000 ∧ (rowsT [118] x.v).length ≤ 130000 := by
  obtain ⟨v1, v3, v4, v5, v6, v7, v8⟩ := lk_parts h hN
  have t1 := lineT_len (word := stepW) (l := [x.h]) (by simpa using v1)
  have t2 := lineT_len (word := tubeW) (ends_vld (boxV_all v3))
  have t3 := setT_len v5
  have t4 := rowsT_len (word := [118]) v6 v7
  have t5 : ([118].length + 12511) * x.v.length ≤ 12512 * 10 := Nat.mul_le_mul (by simp) v8
  rw [endsL_len] at t2
  simp only [stepW, tubeW, List.length_cons, List.length_nil] at *
  omega
theorem Sl.single {w : World} {g : Nat} {t : TypeId} {a b c : Value} {d : Dy} (hk : Blk w g t #[a, b, c]) (hR : RD w [a, b, c] d) : Sl 3 RD w (some ⟨g, 0, none⟩) 1 1 [d] :=
  ⟨rfl, by omega, by omega, fun _ => ⟨g, 0, rfl, hk.lt, fun j x hj => by
    match j, hj with
    | 0, hj =>
      simp at hj
      subst hj
      refine ⟨_, rfl, hR, fun i v hv => ?_⟩
      rw [Nat.zero_mul, Nat.add_zero, Nat.zero_add, hk.cell i]
      simpa using hv
    | j + 1, hj => simp at hj⟩⟩
theorem head_small {x : Ct} (h : ctV x = true) : ∀ z ∈ headN x, 0 ≤ z ∧ z ≤ 16384 := by
  obtain ⟨_, _, _, a, b, c, d, e, f, g⟩ := ctV_parts h
  intro z hz
  simp [headN] at hz
  rcases hz with rfl | rfl | rfl | rfl <;> omega
theorem enc_long {x : Ct} {P : List UInt8} {k : Nat} (hv : ctV x = true) (hP : P = headT x ++ setT x.start ++ linksT (x.links.take k)) (hl : 65536 < P.length) : encC x = ([], 5) := by
  unfold encC
  rw [if_pos hv, if_pos]
  unfold textC
  rw [linksT_split (l := x.links) k, ← List.append_assoc, ← hP]
  simp only [List.length_append]
  omega

set_option maxRecDepth 100000 in
set_option maxHeartbeats 16000000 in
theorem encode_any (vs : List Value) (x : Ct) (w : World) (h : RC w vs x) (hx : BdC x) (ht : Tabs w) (hten : Tens w) :
    Calls Tryz.prog 19 #[.agg vs.toArray] w fun e w' => e = .returned (.tuple #[.string ⟨(encC x).1.toArray⟩, .int .i64 (encC x).2]) ∧ Below w.heap.size w w' := by
  obtain ⟨A, n, c, A2, m, d, A3, p, q, L, ln, lc, rfl, h1, h2, h3, h4⟩ := h
  obtain ⟨pr, od, st, ls⟩ := x
  dsimp only at h1 h2 h3 h4 ⊢
  have r1 : RC w [.int .i64 pr, .int .i64 od, .slice A n c, .slice A2 m d, .slice A3 p q, .slice L ln lc] ⟨pr, od, st, ls⟩ := ⟨A, n, c, A2, m, d, A3, p, q, L, ln, lc, rfl, h1, h2, h3, h4⟩
  have r2 : RF w [.slice A n c, .slice A2 m d, .slice A3 p q] st := ⟨A, n, c, A2, m, d, A3, p, q, rfl, h1, h2, h3⟩
  have m1 := h1.cap
  have m2 := h1.max
  have m3 := h4.cap
  have m4 := h4.max
  have HNn := Lib.hid h1.len
  have HLn := Lib.hid h4.len
  have hb0 := ballo w (.cells #[.int .i64 pr, .int .i64 od, .slice A n c, .slice A2 m d, .slice A3 p q, .slice L ln lc] 42)
  have k0 := Blk.new w 42 #[.int .i64 pr, .int .i64 od, .slice A n c, .slice A2 m d, .slice A3 p q, .slice L ln lc]
  have HVa := Lib.hid (certValid_any _ ⟨pr, od, st, ls⟩ _ (lasts_RC _ _ _ _ r1 hb0) hx (ht.next hb0))
  have HF := Lib.hid r2
  have HS := Lib.hid h4
  have HT := Lib.hid hten
  clear h1 h2 h3 h4 r1 r2 hx ht hten
  cases hv : ctV ⟨pr, od, st, ls⟩
  · have HR : Hid (encC ⟨pr, od, st, ls⟩ = ([], 1)) := by unfold Hid encC; rw [if_neg (by rw [hv]; simp)]
    rw [hv] at HVa
    clear hv
    go_enter Tryz.func19, Tryz.ntmps19
    go_wp2_with fail
    refine HVa.out.mono ?_
    rintro e w1 ⟨rfl, hb1⟩
    clear HVa
    go_wp2_with fail
    go_ret2
    exact ⟨by rw [HR.out]; rfl, bnext hb0 hb1⟩
  rw [hv] at HVa
  have HV := Lib.hid hv
  obtain ⟨c1, -, c3, c4, c5, c6, c7, c8, c9, c10⟩ := ctV_parts hv
  dsimp only at c1 c3 c4 c5 c6 c7 c8 c9 c10
  have HFV := Lib.hid c1
  have HLV := Lib.hid c3
  have hn4 : n ≤ 4 := by rw [← HNn.out]; exact c9
  have hst := setT_len c1
  have HSM := Lib.hid (head_small hv)
  have HH : Hid (headN ⟨pr, od, st, ls⟩ = [pr, od, (n : Int), (ln : Int)]) := by unfold Hid headN; dsimp only; rw [HNn.out, HLn.out]
  have HHT : Hid (headT ⟨pr, od, st, ls⟩ = certW ++ intsT (headN ⟨pr, od, st, ls⟩) ++ [10]) := rfl
  have HTX : Hid (textC ⟨pr, od, st, ls⟩ = headT ⟨pr, od, st, ls⟩ ++ setT st ++ linksT ls ++ endW) := rfl
  have HEN : Hid (encC ⟨pr, od, st, ls⟩ = if 65536 < (textC ⟨pr, od, st, ls⟩).length then ([], 5) else (textC ⟨pr, od, st, ls⟩, 0)) := by unfold Hid encC; rw [if_pos hv]
  have HEL := Lib.hid (fun (P : List UInt8) (k : Nat) (hP : P = headT ⟨pr, od, st, ls⟩ ++ setT st ++ linksT (ls.take k)) (hl : 65536 < P.length) => enc_long (x := ⟨pr, od, st, ls⟩) hv hP hl)
  clear hv c1 c3 c4 c5 c6 c7 c8 c9 c10
  generalize encC ⟨pr, od, st, ls⟩ = X at *
  go_enter Tryz.func19, Tryz.ntmps19
  go_wp2_with fail
  generalize w.alloc (.cells #[.int .i64 pr, .int .i64 od, .slice A n c, .slice A2 m d, .slice A3 p q, .slice L ln lc] 42) = W00 at *
  refine HVa.out.mono ?_
  rintro e w1 ⟨rfl, hb1⟩
  replace hb0 := bnext hb0 hb1
  replace k0 := k0.next hb1
  replace HF := Lib.hid (lasts_RF _ _ _ _ HF.out hb0)
  replace HS := Lib.hid (HS.out.next lasts_RL hb0)
  replace HT := Lib.hid (HT.out.next hb0)
  clear HVa hb1 W00
  have HW0 := Lib.hid (ballo w1 (.cells #[.pointer none, .slice none 0 0] 82))
  have HB0 : Hid (Bu w1.heap.size w1.heap.size [] (w1.alloc (.cells #[.pointer none, .slice none 0 0] 82))) := Lib.fresh_isBuilder _ _ _
  have hB0 : w1.heap.size ≤ (w1.alloc (.cells #[.pointer none, .slice none 0 0] 82)).heap.size := by simp
  have hgc : w.heap.size < w1.heap.size := k0.lt
  have HKC := Lib.hid (fun W (hW : Below w1.heap.size w1 W) => (k0.next hW).cells6)
  go_wp2_with fail
  generalize hWB : w1.alloc (.cells #[.pointer none, .slice none 0 0] 82) = WB at *
  clear hWB
  generalize hBe : w1.heap.size = B at *
  have hBB : w1.heap.size ≤ B := Nat.le_of_eq hBe
  have HBE := Lib.hid hBe
  clear hBe
  rw [← HBE.out] at HW0 HKC
  refine (writeString_K B B [] certW _ HB0.out (by simp [certW]) hB0).mono ?_
  rintro e w2 ⟨rfl, hb2, hk2⟩
  have HB := Lib.hid hb2
  have HK := Lib.hid hk2
  have hBs := Nat.le_trans hB0 hk2.size
  clear hb2 hk2 HB0
  have hgi : B < w2.heap.size := HB.out.lt
  obtain ⟨kq0, kq1, kq2, kq3, kq4, kq5⟩ := HKC.out _ (HK.out.from HW0.out hBB)
  have ki := Blk.new w2 3 #[.int .i64 pr, .int .i64 od, .int .i64 n, .int .i64 ln]
  have hbi := ballo w2 (.cells #[.int .i64 pr, .int .i64 od, .int .i64 n, .int .i64 ln] 3)
  replace HB := Lib.hid (HB.out.next hbi)
  replace HK := Lib.hid (HK.out.trans (KB.of hBs hbi))
  have hBs2 := Nat.le_trans hBs hbi.size
  clear hbi
  go_wp2_with fail
  clear kq0 kq1 kq2 kq3 kq4 kq5
  generalize w2.alloc (.cells #[.int .i64 pr, .int .i64 od, .int .i64 n, .int .i64 ln] 3) = WI at *
  generalize w2.heap.size = gi at *
  go_loopw [26] (fun v wr => ∃ (k : Nat) (T : List UInt8), k ≤ 4 ∧ v = .int .i64 k ∧ Hid (T = certW ++ intsT ((headN ⟨pr, od, st, ls⟩).take k)) ∧ Hid (Bu B B T wr) ∧ Hid (KB B B WB wr) ∧ Hid (Blk wr gi 3 #[.int .i64 pr, .int .i64 od, .int .i64 n, .int .i64 ln]) ∧ T.length ≤ 11 + 8 * k) (fun v _ => 4 - (intOf v).toNat)
  case atStart => exact ⟨0, [] ++ certW, by omega, rfl, by simp [Hid, intsT], HB, HK, ki, by simp [certW]⟩
  case round =>
    clear HB HK ki hBs hBs2
    obtain ⟨k, T, hk, rfl, HE, HB, HK, HKI, hTl⟩ := hrel
    have hBr : B ≤ wr.heap.size := Nat.le_trans hB0 HK.out.size
    by_cases hlt : k < 4
    · obtain ⟨z, hz, hcz⟩ : ∃ z, (headN ⟨pr, od, st, ls⟩)[k]? = some z ∧ wr.cell? ⟨gi, k, none⟩ = some (.int .i64 z) := by
        rw [HH.out, HKI.out.cell k]
        match k, hlt with
        | 0, _ => exact ⟨_, rfl, rfl⟩
        | 1, _ => exact ⟨_, rfl, rfl⟩
        | 2, _ => exact ⟨_, rfl, rfl⟩
        | 3, _ => exact ⟨_, rfl, rfl⟩
      have hzb := HSM.out z (List.mem_of_getElem? hz)
      have hil := itoa_len (x := z) (by omega) hzb.2
      have HE2 : Hid (T ++ (32 :: Lib.itoa z) = certW ++ intsT ((headN ⟨pr, od, st, ls⟩).take (k + 1))) := by unfold Hid; rw [HE.out, intsT_take hz]; simp
      clear hz HE
      obtain ⟨z0, z1⟩ := hzb
      go_wp2_with fail
      refine (itoa_any z _ (by omega) (by omega) (HT.out.next (HK.out.from HW0.out hBB))).mono ?_
      generalize Lib.itoa z = IT at *
      rintro e w3 ⟨rfl, hb3⟩
      clear hcz
      replace HB := Lib.hid (HB.out.next hb3)
      replace HK := Lib.hid (HK.out.trans (KB.of hBr hb3))
      replace HKI := Lib.hid (HKI.out.next hb3)
      replace hBr := Nat.le_trans hBr hb3.size
      clear hb3
      go_wp2_with fail
      refine (writeString_K B B T (32 :: IT) _ HB.out (by simp; omega) hBr).mono ?_
      rintro e w4 ⟨rfl, hb4, hk4⟩
      replace HB := Lib.hid hb4
      replace HKI := Lib.hid (hk4.blk HKI.out (by omega) (by decide))
      replace HK := Lib.hid (HK.out.trans hk4)
      clear hb4 hk4
      go_wp2_with fail
      go_roundw
      case rel => exact ⟨k + 1, T ++ (32 :: IT), by omega, by go_num, HE2, HB, HK, HKI, by simp; omega⟩
      case measure => simp [intOf]; omega
    · obtain rfl : k = 4 := by omega
      clear HKI
      go_wp2_with fail
      refine (writeString_K B B T [10] _ HB.out (by simp; omega) hBr).mono ?_
      rintro e w3 ⟨rfl, hb3, hk3⟩
      have HE2 : Hid (T ++ [10] = headT ⟨pr, od, st, ls⟩) := by
        unfold Hid
        rw [HHT.out, HE.out, List.take_of_length_le (by rw [HH.out]; simp)]
      rw [HE2.out] at hb3
      have hTH : (headT ⟨pr, od, st, ls⟩).length ≤ 100 := by rw [← HE2.out, List.length_append]; simp; omega
      replace HB := Lib.hid hb3
      replace HK := Lib.hid (HK.out.trans hk3)
      replace hBr := Nat.le_trans hBr hk3.size
      clear hb3 hk3 HE HE2 hTl
      generalize headT ⟨pr, od, st, ls⟩ = HT1 at *
      obtain ⟨kq0, kq1, kq2, kq3, kq4, kq5⟩ := HKC.out _ (HK.out.from HW0.out hBB)
      go_wp2_with fail
      refine (eset_any B B HT1 _ st w1 _ (HK.out.from HW0.out hBB) hBB HB.out hBr HF.out HT.out HFV.out (by omega)).mono ?_
      rintro e w4 ⟨rfl, hb4, hk4⟩
      clear kq0 kq1 kq2 kq3 kq4 kq5
      replace HB := Lib.hid hb4
      replace HK := Lib.hid (HK.out.trans hk4)
      clear hb4 hk4 hBr
      have hP0 : (HT1 ++ setT st).length ≤ 200000 := by rw [List.length_append]; omega
      obtain ⟨P0, hP0e⟩ : ∃ P0, P0 = HT1 ++ setT st := ⟨_, rfl⟩
      have HP0 := Lib.hid hP0e
      rw [← hP0e] at hP0 HB HTX HEL
      clear hP0e hst hTH
      obtain ⟨kq0, kq1, kq2, kq3, kq4, kq5⟩ := HKC.out _ (HK.out.from HW0.out hBB)
      go_wp2_with fail
      clear kq0 kq1 kq2 kq3 kq4 kq5
      go_loopw [42] (fun v wr => ∃ (k : Nat) (T : List UInt8), k ≤ ln ∧ v = .int .i64 k ∧ Hid (T = P0 ++ linksT (ls.take k)) ∧ Hid (Bu B B T wr) ∧ Hid (KB B B WB wr) ∧ T.length ≤ 200000) (fun v _ => ln - (intOf v).toNat)
      case atStart => exact ⟨0, P0, by omega, rfl, by simp [Hid, linksT], HB, HK, hP0⟩
      case round =>
        clear HB HK
        obtain ⟨k, T, hk, rfl, HE, HB, HK, hTl⟩ := hrel
        have hBr : B ≤ wr.heap.size := Nat.le_trans hB0 HK.out.size
        by_cases hlt : k < ln
        · obtain ⟨b1, off, y, us, rfl, hbl, hyi, hk1, hR, hcc⟩ := HS.out.get hlt
          have hyv := HLV.out y (List.mem_of_getElem? hyi)
          (try dsimp only at hyv)
          obtain ⟨u1, u3, u4, u5, u6, u7, u8⟩ := lk_parts hyv (by rw [HNn.out]; exact hn4)
          obtain ⟨t1, t2, t3, t4⟩ := linkT_len hyv (by rw [HNn.out]; exact hn4)
          have HLT : Hid (linkT y = lineT stepW [y.h] ++ lineT tubeW (endsL y.tube) ++ setT y.e ++ rowsT [118] y.v) := rfl
          have HE2 := Lib.hid (linksT_take hyi)
          obtain ⟨⟨dn, dl, de⟩, tube, fe, v⟩ := y
          obtain ⟨H, hn, hc, T2, tn, tc, A1, n1, c1, B1, m1', d1, C1, p1, cq, V, vn, vc, rfl, g1, g2, g3, g4, g5, g6⟩ := hR
          dsimp only at g1 g2 g3 g4 g5 g6 hcc u1 u3 u4 u5 u6 u7 u8 t1 t2 t3 t4 HLT
          have hw1 := HK.out.from HW0.out hBB
          have q0 := (hw1.cell (p := ⟨b1, off + k * 8, none⟩) hbl).trans (hcc 0 _ rfl)
          have q1 := (hw1.cell (p := ⟨b1, off + k * 8 + 1, none⟩) hbl).trans (hcc 1 _ rfl)
          have q2 := (hw1.cell (p := ⟨b1, off + k * 8 + 2, none⟩) hbl).trans (hcc 2 _ rfl)
          have q3 := (hw1.cell (p := ⟨b1, off + k * 8 + 3, none⟩) hbl).trans (hcc 3 _ rfl)
          have q4 := (hw1.cell (p := ⟨b1, off + k * 8 + 4, none⟩) hbl).trans (hcc 4 _ rfl)
          have q5 := (hw1.cell (p := ⟨b1, off + k * 8 + 5, none⟩) hbl).trans (hcc 5 _ rfl)
          have q6 := (hw1.cell (p := ⟨b1, off + k * 8 + 6, none⟩) hbl).trans (hcc 6 _ rfl)
          have q7 := (hw1.cell (p := ⟨b1, off + k * 8 + 7, none⟩) hbl).trans (hcc 7 _ rfl)
          clear hcc hk1 hyi hyv
          have tn8 : tn ≤ 8 := by rw [← g2.len]; exact u4
          have vn8 : vn ≤ 10 := by rw [← g6.len]; exact u8
          obtain ⟨ts, hu1, hu2, hu3, hu4⟩ := g2.cells
          have R1 : RD w1 [.bool dn, .slice H hn hc, .int .i64 de] ⟨dn, dl, de⟩ := ⟨H, hn, hc, rfl, g1⟩
          have R2 : RF w1 [.slice A1 n1 c1, .slice B1 m1' d1, .slice C1 p1 cq] fe := ⟨A1, n1, c1, B1, m1', d1, C1, p1, cq, rfl, g3, g4, g5⟩
          have G1 := Lib.hid (fun W (hW : Below w1.heap.size w1 W) g T (kd : Blk W g 25 #[.bool dn, .slice H hn hc, .int .i64 de]) (hg : g ≠ B) (hB : Bu B B T W) (hs : B ≤ W.heap.size) (hL : T.length ≤ 1000000) => enumbers_any B B T stepW (some ⟨g, 0, none⟩) 1 1 [⟨dn, dl, de⟩] W hB hs (fun V hV => Sl.single (hV.blk kd hg (by decide)) (lasts_RD _ _ _ _ R1 (hV.from hW hBB))) (fun V hV => HT.out.next (hV.from hW hBB)) (by simpa using u1) (by omega) (by simp [stepW]) (by omega))
          have G2 := Lib.hid (fun W (hW : Below w1.heap.size w1 W) => ends_any T2 tn tc tube ts W (g2.next lasts_RI hW) (by omega) hu1 (fun hp => by
            obtain ⟨b', off', e, hb', hc'⟩ := hu3 hp
            exact ⟨b', off', e, Nat.lt_of_lt_of_le hb' hW.size, fun j u hj i v hi => (hW.cell (p := ⟨b', off' + j * 7 + i, none⟩) hb').trans (hc' j u hj i v hi)⟩) (fun j u x hu hx => lasts_RI _ _ _ _ (hu4 j u x hu hx) hW))
          have G3 := Lib.hid (fun W (hW : Below w1.heap.size w1 W) base v T (hB : Bu B B T W) (hs : B ≤ W.heap.size) (hbs : B < base) (hO : OwnK 25 3 W base v (endsV ts)) (hL : T.length ≤ 1000000) => endsLine (word := tubeW) hW hBB hB hs hbs HT.out hO (by rw [hu1, g2.len]) hu4 (boxV_all u3) (by omega) (by omega) (by simp [tubeW]))
          have G4 := Lib.hid (fun W (hW : Below w1.heap.size w1 W) T (hB : Bu B B T W) (hs : B ≤ W.heap.size) (hL : T.length ≤ 1000000) => eset_any B B T _ fe w1 W hW hBB hB hs R2 HT.out u5 (by omega))
          have G5 := Lib.hid (fun W (hW : Below w1.heap.size w1 W) T (hB : Bu B B T W) (hs : B ≤ W.heap.size) (hL : T.length ≤ 1000000) => erows_any B B T [118] V vn vc v w1 W hW hBB hB hs g6 HT.out u6 u7 (by omega) (by simp) (by omega))
          clear hu1 hu2 hu3 hu4 R1 R2 g1 g2 g3 g4 g5 g6 u1 u3 u4 u5 u6 u7 u8
          generalize lineT stepW [⟨dn, dl, de⟩] = S1 at *
          generalize lineT tubeW (endsL tube) = S2 at *
          generalize setT fe = S3 at *
          generalize rowsT [118] v = S4 at *
          have kx := Blk.new wr 98 #[.bool dn, .slice H hn hc, .int .i64 de, .slice T2 tn tc, .slice A1 n1 c1, .slice B1 m1' d1, .slice C1 p1 cq, .slice V vn vc]
          have hbx := ballo wr (.cells #[.bool dn, .slice H hn hc, .int .i64 de, .slice T2 tn tc, .slice A1 n1 c1, .slice B1 m1' d1, .slice C1 p1 cq, .slice V vn vc] 98)
          have hgx : wr.heap.size ≠ B := Nat.ne_of_gt HB.out.lt
          replace HB := Lib.hid (HB.out.next hbx)
          replace HK := Lib.hid (HK.out.trans (KB.of hBr hbx))
          replace hBr := Nat.le_trans hBr hbx.size
          have kd := Blk.newAt (wr.alloc (.cells #[.bool dn, .slice H hn hc, .int .i64 de, .slice T2 tn tc, .slice A1 n1 c1, .slice B1 m1' d1, .slice C1 p1 cq, .slice V vn vc] 98)) 25 #[.bool dn, .slice H hn hc, .int .i64 de] (g := wr.heap.size + 1) (by simp)
          have hbd := ballo (wr.alloc (.cells #[.bool dn, .slice H hn hc, .int .i64 de, .slice T2 tn tc, .slice A1 n1 c1, .slice B1 m1' d1, .slice C1 p1 cq, .slice V vn vc] 98)) (.cells #[.bool dn, .slice H hn hc, .int .i64 de] 25)
          have hgd : wr.heap.size + 1 ≠ B := by have := HB.out.lt; simp at this; omega
          replace kx := kx.next hbd
          replace HB := Lib.hid (HB.out.next hbd)
          replace HK := Lib.hid (HK.out.trans (KB.of hBr hbd))
          replace hBr := Nat.le_trans hBr hbd.size
          clear hbx hbd hw1
          go_wp2_with fail
          clear q0 q1 q2 q3 q4 q5 q6 q7
          generalize (wr.alloc (.cells #[.bool dn, .slice H hn hc, .int .i64 de, .slice T2 tn tc, .slice A1 n1 c1, .slice B1 m1' d1, .slice C1 p1 cq, .slice V vn vc] 98)).alloc (.cells #[.bool dn, .slice H hn hc, .int .i64 de] 25) = X1 at *
          generalize wr.heap.size = gx at *
          refine (G1.out _ (HK.out.from HW0.out hBB) _ T kd hgd HB.out hBr (by omega)).mono ?_
          rintro e w5 ⟨rfl, hb5, hk5⟩
          replace HB := Lib.hid hb5
          replace kx := hk5.blk kx hgx (by decide)
          replace HK := Lib.hid (HK.out.trans hk5)
          replace hBr := Nat.le_trans hBr hk5.size
          clear hb5 hk5
          clear kd G1
          obtain ⟨x0, x1, x2, x3, x4, x5, x6, x7⟩ := kx.cells8
          go_wp2_with fail
          refine (G2.out _ (HK.out.from HW0.out hBB)).mono ?_
          rintro e w6 ⟨vv, rfl, hO, hb6⟩
          have hbl6 := HB.out.lt
          replace HB := Lib.hid (HB.out.next hb6)
          replace kx := kx.next hb6
          replace HK := Lib.hid (HK.out.trans (KB.of hBr hb6))
          replace hBr := Nat.le_trans hBr hb6.size
          have HO := Lib.hid hO
          clear hO hb6 x0 x1 x2 x3 x4 x5 x6 x7 G2
          go_wp2_with fail
          refine (G3.out _ (HK.out.from HW0.out hBB) _ _ _ HB.out hBr hbl6 HO.out (by rw [List.length_append]; omega)).mono ?_
          rintro e w7 ⟨rfl, hb7, hk7⟩
          replace HB := Lib.hid hb7
          replace kx := hk7.blk kx hgx (by decide)
          replace HK := Lib.hid (HK.out.trans hk7)
          replace hBr := Nat.le_trans hBr hk7.size
          clear hb7 hk7
          clear HO hbl6 G3
          obtain ⟨x0, x1, x2, x3, x4, x5, x6, x7⟩ := kx.cells8
          go_wp2_with fail
          refine (G4.out _ (HK.out.from HW0.out hBB) _ HB.out hBr (by simp only [List.length_append]; omega)).mono ?_
          rintro e w8 ⟨rfl, hb8, hk8⟩
          replace HB := Lib.hid hb8
          replace kx := hk8.blk kx hgx (by decide)
          replace HK := Lib.hid (HK.out.trans hk8)
          replace hBr := Nat.le_trans hBr hk8.size
          clear hb8 hk8
          clear x0 x1 x2 x3 x4 x5 x6 x7 G4
          obtain ⟨x0, x1, x2, x3, x4, x5, x6, x7⟩ := kx.cells8
          go_wp2_with fail
          refine (G5.out _ (HK.out.from HW0.out hBB) _ HB.out hBr (by simp only [List.length_append]; omega)).mono ?_
          rintro e w9 ⟨rfl, hb9, hk9⟩
          replace HB := Lib.hid hb9
          replace kx := hk9.blk kx hgx (by decide)
          replace HK := Lib.hid (HK.out.trans hk9)
          replace hBr := Nat.le_trans hBr hk9.size
          clear hb9 hk9
          clear x0 x1 x2 x3 x4 x5 x6 x7 G5 kx
          obtain ⟨T9, hT9⟩ : ∃ T9, T9 = T ++ S1 ++ S2 ++ S3 ++ S4 := ⟨_, rfl⟩
          have HE9 : Hid (T9 = P0 ++ linksT (ls.take (k + 1))) := by unfold Hid; rw [hT9, HE2.out, HLT.out, HE.out]; simp
          rw [← hT9] at HB
          clear hT9 HE HE2 HLT t1 t2 t3 t4 hTl
          go_wp2_with fail
          refine (Tryz.Builder_Len B B (Lib.byteCells T9) _ HB.out).mono ?_
          rw [byteCells_length]
          rintro e w10 ⟨rfl, rfl⟩
          by_cases hbig : 65536 < T9.length
          · have HX := Lib.hid (HEL.out T9 (k + 1) HE9.out hbig)
            go_wp2_with fail
            go_ret2
            exact ⟨by rw [HX.out]; rfl, bnext hb0 (HK.out.from HW0.out hBB)⟩
          · go_wp2_with fail
            go_roundw
            case rel => exact ⟨k + 1, T9, by omega, by go_num, HE9, HB, HK, by omega⟩
            case measure => simp [intOf]; omega
        · obtain rfl : k = ln := by omega
          have HE2 : Hid (T ++ endW = textC ⟨pr, od, st, ls⟩) := by
            unfold Hid
            rw [HTX.out, HE.out, List.take_of_length_le (by rw [HLn.out]; exact Nat.le_refl _)]
          go_wp2_with fail
          refine (writeString_K B B T endW _ HB.out (by simp [endW]; omega) hBr).mono ?_
          rw [HE2.out]
          rintro e w5 ⟨rfl, hb5, hk5⟩
          replace HB := Lib.hid hb5
          replace HK := Lib.hid (HK.out.trans hk5)
          replace hBr := Nat.le_trans hBr hk5.size
          clear hb5 hk5 HE HE2
          generalize textC ⟨pr, od, st, ls⟩ = TX at *
          go_wp2_with fail
          refine (Tryz.Builder_Len B B (Lib.byteCells TX) _ HB.out).mono ?_
          rw [byteCells_length]
          rintro e w6 ⟨rfl, rfl⟩
          by_cases hbig : 65536 < TX.length
          · have HX : Hid (X = ([], 5)) := by unfold Hid; rw [HEN.out, if_pos hbig]
            go_wp2_with fail
            go_ret2
            exact ⟨by rw [HX.out]; rfl, bnext hb0 (HK.out.from HW0.out hBB)⟩
          · have HX : Hid (X = (TX, 0)) := by unfold Hid; rw [HEN.out, if_neg hbig]
            go_wp2_with fail
            refine (Tryz.Builder_String_any B B TX _ HB.out hBr).mono ?_
            rintro e w7 ⟨rfl, hb7⟩
            have HBW := Lib.hid (bnext hb0 ((HK.out.from HW0.out hBB).trans (hb7.mono hBB)))
            clear hb7
            go_wp2_with fail
            go_ret2
            exact ⟨by rw [HX.out]; rfl, HBW.out⟩

end Go.Proofs.YtekajoifgdpmlaaGreatDoor

/-! T16 -/
namespace Go.Proofs.YtekajoifgdpmlaaGreatDoor
open Go.RowKit Pl Go.Shelf
open Go.Lib (decDigits itoa)

/-- A text without 'p' behind its sign. -/
structure NoP (S : List UInt8) (neg : Bool) (T : List UInt8) : Prop where
  eq : S = (if neg then [45] else []) ++ T
  nop : ∀ c ∈ T, c ≠ 112
  sgn : neg = false → T.head? ≠ some 45

set_option maxRecDepth 100000 in
set_option maxHeartbeats 2000000 in
theorem parse_nop {S : List UInt8} {neg : Bool} {T : List UInt8} (hP : NoP S neg T) (w : World) (hl : S.length ≤ 1250) (hS0 : ¬ S = [48]) :
    Calls Tryz.prog 10 #[.string ⟨S.toArray⟩] w (RetE zeroD 3 w) := by
  have heq := hP.eq
  have hTl : T.length ≤ 1250 := by rw [heq] at hl; simp at hl; omega
  have HC1 : Hid (∀ W, Calls Tryz.prog 30 #[.string ⟨S.toArray⟩, .string ⟨#[45]⟩] W fun e w' => e = .returned (.tuple #[.string ⟨T.toArray⟩, .bool neg]) ∧ W = w') := fun W => by
    cases neg
    · have := cutMinus_no S W (by rw [heq]; exact hP.sgn rfl)
      rw [heq] at this ⊢
      exact this
    · rw [heq]
      exact cutMinus_yes T W (by omega)
  have HC2 : Hid (∀ W, Calls Tryz.prog 31 #[.string ⟨T.toArray⟩, .string ⟨#[112]⟩] W fun e w' => e = .returned (.tuple #[.string ⟨T.toArray⟩, .string ⟨#[]⟩, .bool false]) ∧ Below W.heap.size W w') := fun W => cutP_no T W hP.nop
  have HC3 : Hid (∀ W, Calls Tryz.prog 30 #[.string ⟨#[]⟩, .string ⟨#[45]⟩] W fun e w' => e = .returned (.tuple #[.string ⟨#[]⟩, .bool false]) ∧ W = w') := fun W => cutMinus_no [] W (by simp)
  have hS1 : (S == [48]) = false := by simpa using hS0
  clear heq hP
  have hbw := ballo w (.cells #[.bool false, .slice none 0 0, .int .i64 0] 25)
  have kz := Blk.new w 25 #[.bool false, .slice none 0 0, .int .i64 0]
  go_enter Tryz.func10, Tryz.ntmps10
  go_wp2_with fail
  generalize w.alloc (.cells #[.bool false, .slice none 0 0, .int .i64 0] 25) = W0 at *
  refine (HC1.out _).mono ?_
  rintro e w' ⟨rfl, rfl⟩
  go_wp2_with fail
  refine (HC2.out _).mono ?_
  rintro e w2 ⟨rfl, hb2⟩
  replace hbw := bnext hbw hb2
  replace kz := kz.below hb2 kz.lt
  clear hb2
  go_wp2_with fail
  refine (HC3.out _).mono ?_
  rintro e w' ⟨rfl, rfl⟩
  obtain ⟨z0, z1, z2⟩ := kz.cells3
  have f0 := kz.frozen 0
  have f1 := kz.frozen 1
  have f2 := kz.frozen 2
  go_wp2_with fail
  refine bodyPost_ret (resDE Tryz.results10 rfl (kz.set3 _ _ _)) rfl ?_
  exact ⟨none, 0, 0, rfl, SL.nil _, Fresh.zero, below_set3 hbw (Nat.le_refl _) _ _ _⟩

/-- A right decimal number is the numeral of its value. -/
theorem dec_num : ∀ (n : Nat) (m : List UInt8), m.length = n → m.all isDig = true → m ≠ [] → (m.head? ≠ some 48 ∨ m.length = 1) → decDigits (numL m) = m := by
  intro n
  induction n with
  | zero => intro m h _ hne _; exact absurd (List.eq_nil_of_length_eq_zero h) hne
  | succ n ih =>
    intro m hlen hall hne hh
    rcases List.eq_nil_or_concat m with e | ⟨m', c, e⟩
    · exact absurd e hne
    · rw [List.concat_eq_append] at e
      subst e
      have hc := (List.all_eq_true.1 hall) c (by simp)
      simp [isDig] at hc
      have hcc : UInt8.ofNat (48 + (c.toNat - 48)) = c := by
        apply UInt8.toNat_inj.1
        have := c.toNat_lt
        simp
        omega
      rw [numL_snoc]
      by_cases hm : m' = []
      · subst hm
        rw [show numL [] = 0 from rfl, dec_small (by omega), show 10 * 0 + (c.toNat - 48) = c.toNat - 48 by omega, hcc]
        rfl
      · have hlm : m'.length = n := by simpa using hlen
        have hhead : m'.head? ≠ some 48 := by
          rcases hh with h | h
          · cases m' with
            | nil => exact absurd rfl hm
            | cons a t => simpa using h
          · exfalso
            simp at h
            exact hm h
        have hr := ih m' hlm (by rw [List.all_append] at hall; simp at hall; rw [List.all_eq_true]; intro x hx; exact hall.1 x hx) hm (.inl hhead)
        have hpos : 0 < numL m' := by
          rcases Nat.eq_zero_or_pos (numL m') with h0 | h0
          · exfalso
            rw [h0, dec_small (by omega)] at hr
            rw [← hr] at hhead
            exact hhead rfl
          · exact h0
        rw [dec_big (by omega), show (10 * numL m' + (c.toNat - 48)) / 10 = numL m' by omega, hr, show (10 * numL m' + (c.toNat - 48)) % 10 = c.toNat - 48 by omega, hcc]
theorem dec_back {m : List UInt8} (h : decOk m = true) : decDigits (numL m) = m := by
  unfold decOk at h
  simp only [Bool.and_eq_true] at h
  obtain ⟨⟨h1, h2⟩, h3⟩ := h
  refine dec_num m.length m rfl h3 (by rintro rfl; simp at h1) ?_
  simpa using h2

theorem parts_text {S m u : List UInt8} {neg mi : Bool} {d : Dy} (hP : Parts S neg m mi u) (h : partsD neg m mi u = (d, 0)) : textD d = S := by
  unfold partsD at h
  split at h
  · rename_i hok
    unfold partsOk at hok
    simp only [Bool.and_eq_true, Bool.not_eq_true', decide_eq_true_eq] at hok
    obtain ⟨⟨⟨⟨hm, hu⟩, _⟩, hz⟩, hodd⟩ := hok
    have hc : checkD neg (numL m) (expo mi u) = if vld ⟨neg, digs (numL m), expo mi u⟩ = true then (⟨neg, digs (numL m), expo mi u⟩, 0) else (zeroD, 9) := by
      have := check_odd (neg := neg) (l := digs (numL m)) (e := expo mi u) (limbs_digs _) (trim_digs _) (by rw [val_digs]; exact hodd)
      rwa [val_digs] at this
    rw [hc] at h
    split at h
    · have hd := (Prod.mk.inj h).1
      rw [← hd, hP.eq]
      unfold textD
      have hne : digs (numL m) ≠ [] := by rw [digs_pos _ (by omega)]; simp
      simp only [val_digs]
      rw [if_neg hne, dec_back hm]
      have hi : itoa (expo mi u) = (if mi then [45] else []) ++ u := by
        have hub := dec_back hu
        cases mi
        · unfold expo itoa
          simp
          exact hub
        · have hu0 : 0 < numL u := by
            rcases Nat.eq_zero_or_pos (numL u) with h0 | h0
            · exfalso
              rw [h0, dec_small (by omega)] at hub
              rw [← hub] at hz
              revert hz
              decide
            · exact h0
          unfold expo itoa
          have : (-(numL u : Int)) < 0 := by omega
          simp [hu0]
          exact hub
      rw [hi]
      simp
    · have := (Prod.mk.inj h).2; omega
  · have := (Prod.mk.inj h).2; omega

end Go.Proofs.YtekajoifgdpmlaaGreatDoor

/-! H1 -/
namespace Go.Proofs.YtekajoifgdpmlaaGreatDoor
open Go.RowKit Pl Go.Shelf
open Go.Lib (decDigits itoa)

/-- A text cut at the first byte c. -/
def cutAt (c : UInt8) : List UInt8 → Option (List UInt8 × List UInt8)
  | [] => none
  | x :: t => if x = c then some ([], t) else (cutAt c t).map (fun p => (x :: p.1, p.2))
theorem cutAt_some {c : UInt8} : ∀ {s a b : List UInt8}, cutAt c s = some (a, b) → s = a ++ c :: b ∧ ∀ x ∈ a, x ≠ c := by
  intro s
  induction s with
  | nil => intro a b h; cases h
  | cons x t ih =>
    intro a b h
    unfold cutAt at h
    split at h
    · rename_i hx
      injection h with h
      injection h with h1 h2
      subst h1 h2 hx
      exact ⟨rfl, by simp⟩
    · rename_i hx
      rw [Option.map_eq_some_iff] at h
      obtain ⟨⟨p, q⟩, h1, h2⟩ := h
      injection h2 with h2 h3
      subst h2 h3
      obtain ⟨e, hn⟩ := ih h1
      refine ⟨by rw [e]; rfl, fun y hy => ?_⟩
      rcases List.mem_cons.1 hy with rfl | hy
      · exact hx
      · exact hn y hy
theorem cutAt_mk {c : UInt8} : ∀ {a b : List UInt8}, (∀ x ∈ a, x ≠ c) → cutAt c (a ++ c :: b) = some (a, b) := by
  intro a
  induction a with
  | nil => intro b _; simp [cutAt]
  | cons x t ih =>
    intro b h
    have hx := h x (by simp)
    rw [List.cons_append, cutAt, if_neg hx, ih (fun y hy => h y (by simp [hy]))]
    rfl
theorem cutAt_none {c : UInt8} : ∀ {s : List UInt8}, (∀ x ∈ s, x ≠ c) → cutAt c s = none := by
  intro s
  induction s with
  | nil => intro _; rfl
  | cons x t ih =>
    intro h
    rw [cutAt, if_neg (h x (by simp)), ih (fun y hy => h y (by simp [hy]))]
    rfl
theorem cutAt_no {c : UInt8} : ∀ {s : List UInt8}, cutAt c s = none → ∀ x ∈ s, x ≠ c := by
  intro s
  induction s with
  | nil => intro _ x hx; cases hx
  | cons y t ih =>
    intro h x hx
    unfold cutAt at h
    split at h
    · cases h
    · rename_i hy
      rw [Option.map_eq_none_iff] at h
      rcases List.mem_cons.1 hx with rfl | hx
      · exact hy
      · exact ih h x hx
/-- The parts of a text between bytes c. -/
def splitC (c : UInt8) : List UInt8 → List (List UInt8)
  | [] => [[]]
  | x :: t => if x = c then [] :: splitC c t else match splitC c t with
    | h :: r => (x :: h) :: r
    | [] => [[x]]
def joinC (c : UInt8) : List (List UInt8) → List UInt8
  | [] => []
  | [p] => p
  | p :: q :: r => p ++ c :: joinC c (q :: r)
theorem splitC_ne (c : UInt8) (s : List UInt8) : splitC c s ≠ [] := by
  cases s with
  | nil => simp [splitC]
  | cons x t =>
    unfold splitC
    split
    · simp
    · split <;> simp
theorem join_split (c : UInt8) : ∀ s, joinC c (splitC c s) = s := by
  intro s
  induction s with
  | nil => rfl
  | cons x t ih =>
    unfold splitC
    split
    · rename_i hx
      subst hx
      cases h : splitC x t with
      | nil => exact absurd h (splitC_ne _ _)
      | cons p r => rw [h] at ih; simp [joinC, ih]
    · cases h : splitC c t with
      | nil => exact absurd h (splitC_ne _ _)
      | cons p r =>
        rw [h] at ih
        cases r with
        | nil => simp only [joinC] at ih ⊢; rw [ih]
        | cons q r => simp only [joinC] at ih ⊢; rw [← ih]; rfl
theorem split_no {c : UInt8} : ∀ {p : List UInt8}, (∀ x ∈ p, x ≠ c) → splitC c p = [p] := by
  intro p
  induction p with
  | nil => intro _; rfl
  | cons x t ih => intro h; rw [splitC, if_neg (h x (by simp)), ih (fun y hy => h y (by simp [hy]))]
theorem split_cons {c : UInt8} : ∀ {p t : List UInt8}, (∀ x ∈ p, x ≠ c) → splitC c (p ++ c :: t) = p :: splitC c t := by
  intro p
  induction p with
  | nil => intro t _; simp [splitC]
  | cons x q ih => intro t h; rw [List.cons_append, splitC, if_neg (h x (by simp)), ih (fun y hy => h y (by simp [hy]))]
theorem split_join {c : UInt8} : ∀ {ps : List (List UInt8)}, ps ≠ [] → (∀ p ∈ ps, ∀ x ∈ p, x ≠ c) → splitC c (joinC c ps) = ps := by
  intro ps
  induction ps with
  | nil => intro h; exact absurd rfl h
  | cons p r ih =>
    intro _ h
    cases r with
    | nil => simp only [joinC]; exact split_no (h p (by simp))
    | cons q r =>
      simp only [joinC]
      rw [split_cons (h p (by simp)), ih (by simp) (fun a ha => h a (by simp [ha]))]

/-- The sign of a text. -/
def signT : List UInt8 → Bool × List UInt8
  | 45 :: t => (true, t)
  | s => (false, s)
theorem signT_mk {neg : Bool} {T : List UInt8} (h : neg = false → T.head? ≠ some 45) : signT ((if neg then [45] else []) ++ T) = (neg, T) := by
  cases neg
  · have h1 := h rfl
    cases T with
    | nil => rfl
    | cons x t =>
      unfold signT
      split
      · rename_i e; simp at e; rw [e.1] at h1; simp at h1
      · rfl
  · rfl
/-- What dyadic.Parse returns. -/
def parseD (S : List UInt8) : Dy × Int := if 1250 < S.length then (zeroD, 3) else if S = [48] then (zeroD, 0) else match cutAt 112 (signT S).2 with
  | none => (zeroD, 3)
  | some (m, R) => partsD (signT S).1 m (signT R).1 (signT R).2
theorem parts_parse {S m u : List UInt8} {neg mi : Bool} (h : Parts S neg m mi u) (hl : S.length ≤ 1250) : parseD S = partsD neg m mi u := by
  have h0 : ¬ S = [48] := by
    intro e
    have h1 : (112 : UInt8) ∈ S := by rw [h.eq]; simp
    rw [e] at h1
    simp at h1
  unfold parseD
  rw [if_neg (by omega), if_neg h0]
  have e1 : signT S = (neg, m ++ 112 :: ((if mi then [45] else []) ++ u)) := by rw [h.eq]; exact signT_mk h.sgn
  rw [e1]
  simp only []
  rw [cutAt_mk h.nop]
  simp only []
  rw [signT_mk h.sgn']

end Go.Proofs.YtekajoifgdpmlaaGreatDoor
