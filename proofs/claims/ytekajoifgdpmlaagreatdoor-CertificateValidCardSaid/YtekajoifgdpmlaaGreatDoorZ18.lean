/- Bundle 18: what the laws' walks stand on: H6, H7, I1, I2. -/
import Derived.StillTailTactics
import Derived.Test.YtekajoifgdpmlaaGreatDoorZ16
import Derived.Test.YtekajoifgdpmlaaGreatDoorZ17
/-! H6 -/
namespace Go.Proofs.YtekajoifgdpmlaaGreatDoor
open Go.RowKit Pl Go.Shelf
open Go.Lib (decDigits itoa)

/-- What next hands back: a line's parts. -/
def VS (B : Nat) (p : List (List UInt8)) (u : Value) (w' : World) : Prop := ∃ A c, u = .slice A p.length c ∧ Ly B w' (fun W => Sl 1 RS W A p.length c p)
theorem next_any (g : Nat) (s word : List UInt8) (l n : Nat) (w : World) (h : Rd g s l w) (he : Ev g w) (hs : s.length ≤ 1000000) (hl : l ≤ 1000000) (hn : n ≤ 1000000) :
    Calls Tryz.prog 144 #[.pointer (some ⟨g, 0, none⟩), .string ⟨word.toArray⟩, .int .i64 (n : Int)] w (Reads g (nextP word n s l) (VS w.heap.size) w) := by
  unfold nextP Reads
  cases hc : cutAt 10 s with
  | none => exact next_end g s word l n w h hl hc
  | some q =>
    obtain ⟨a, r⟩ := q
    obtain ⟨rfl, hna⟩ := cutAt_some hc
    have hlen : a.length + r.length ≤ 1000000 := by simp at hs; omega
    simp only []
    cases hp : splitC 32 a with
    | nil => exact absurd hp (splitC_ne _ _)
    | cons p0 pt =>
      have key : ∀ b, goodP word n (p0 :: pt) = b → (if goodP word n (p0 :: pt) = true then Out.ok (p0 :: pt).tail r (l + 1) else .bad (l + 1 : Int) 1 3) = if b = true then Out.ok pt r (l + 1) else .bad (l + 1 : Int) 1 3 := by intro b hb; rw [hb]; rfl
      by_cases h1 : p0 = word
      · subst h1
        by_cases h2 : pt.length = n
        · subst h2
          by_cases h3 : [] ∈ p0 :: pt
          · rw [key false (by unfold goodP; rw [decide_eq_true h3, Bool.not_true, Bool.and_false])]
            exact next_bad3 g a r l w h he hlen hl hna p0 pt hp hn (decide_eq_true h3)
          · rw [key true (by unfold goodP; rw [decide_eq_false h3]; simp)]
            refine (next_good g a r l w h he hlen hl hna p0 pt hp hn (decide_eq_false h3)).mono ?_
            rintro e w' ⟨hk, A, c, rfl, hr, hy⟩
            exact ⟨hk, _, rfl, hr, A, c, rfl, hy⟩
        · rw [key false (by unfold goodP; rw [decide_eq_false (show ¬ (p0 :: pt).length = n + 1 by simp; omega)]; simp)]
          exact next_bad2 g a r l n w h he hlen hl hna p0 pt hp hn h2
      · rw [key false (by unfold goodP; rw [decide_eq_false (show ¬ (p0 :: pt).head? = some word by simpa using h1)]; simp)]
        exact next_bad1 g a r word l n w h he hlen hl hna p0 pt hp hn h1

theorem atoi_good (t : List UInt8) (v : Int) (h : Lib.atoiAll t = .ok v) (hl : t.length ≤ 1000000) (w : World) :
    Calls Tryz.prog 33 #[.string ⟨t.toArray⟩] w fun e w' => e = .returned (.tuple #[.int .i64 v, .nilIface]) ∧ Below w.heap.size w w' := by
  refine (Tryz.strconv_Atoi_ok ⟨t.toArray⟩ (by simp [ByteArray.size]; omega) v h w).mono ?_
  rintro e w' ⟨rfl, rfl | ⟨b, rfl⟩⟩
  · exact ⟨rfl, Below.refl _ _⟩
  · exact ⟨rfl, rfl, rfl, rfl, by rw [Lib.bytesWorld_size]; omega, fun k hk => Lib.bytesWorld_at_old w 5 b k hk⟩
theorem atoi_bad (t : List UInt8) (h : ∀ v, Lib.atoiAll t ≠ .ok v) (hl : t.length ≤ 1000000) (w : World) (hv : Vs w) :
    Calls Tryz.prog 33 #[.string ⟨t.toArray⟩] w fun e w' => ∃ v N, e = .returned (.tuple #[.int .i64 v, .iface 169 (.pointer (some ⟨N, 0, none⟩))]) ∧ Below w.heap.size w w' := by
  cases ha : Lib.atoiAll t
  case ok v => exact absurd ha (h v)
  case range =>
    obtain ⟨ev, h1, h2⟩ := hv.rng
    refine (Tryz.strconv_Atoi_range ⟨t.toArray⟩ (by simp [ByteArray.size]; omega) ha ev w h1 h2).mono ?_
    rintro e w' ⟨N, rfl, _, _, hb⟩
    exact ⟨_, N, rfl, hb⟩
  · obtain ⟨ev, h1, h2⟩ := hv.syn
    refine (Tryz.strconv_Atoi_syntax ⟨t.toArray⟩ (by simp [ByteArray.size]; omega) ha ev w h1 h2).mono ?_
    rintro e w' ⟨N, rfl, _, _, hb⟩
    exact ⟨_, N, rfl, hb⟩

set_option maxRecDepth 100000 in
set_option maxHeartbeats 1000000 in
theorem integer_bad1 (g : Nat) (s t : List UInt8) (l : Nat) (lo hi : Int) (w : World) (h : Rd g s l w) (he : Ev g w) (ht : t.length ≤ 1000000) (ha : ∀ v, Lib.atoiAll t ≠ .ok v) :
    Calls Tryz.prog 145 #[.pointer (some ⟨g, 0, none⟩), .string ⟨t.toArray⟩, .int .i64 lo, .int .i64 hi] w fun e w' => KR g w w' ∧ e = .panicked (wrongP (l : Int) 1 3) := by
  have HR := Lib.hid h
  have HE := Lib.hid he
  have hgl := h.lt
  clear h he
  go_enter Tryz.func145, Tryz.ntmps145
  go_wp2_with fail
  refine (atoi_bad t ha ht _ HE.out.here).mono ?_
  rintro e w1 ⟨v, N, rfl, hb1⟩
  have HR2 := Lib.hid (show Rd g s l w1 from HR.out.below hb1 hgl)
  have HK2 := Lib.hid (KR.of (g := g) hb1)
  clear HR HE hb1
  go_wp2_with fail
  refine (fail_any g s l 3 _ HR2.out).mono ?_
  rintro e w4 ⟨rfl, rfl⟩
  go_wp2_with fail
  exact ⟨rfl, HK2.out, rfl⟩

set_option maxRecDepth 100000 in
set_option maxHeartbeats 1000000 in
theorem integer_bad2 (g : Nat) (s t : List UInt8) (l : Nat) (lo hi v : Int) (w : World) (h : Rd g s l w) (he : Ev g w) (ht : t.length ≤ 1000000) (ha : Lib.atoiAll t = .ok v) (h1 : ¬ itoa v = t) :
    Calls Tryz.prog 145 #[.pointer (some ⟨g, 0, none⟩), .string ⟨t.toArray⟩, .int .i64 lo, .int .i64 hi] w fun e w' => KR g w w' ∧ e = .panicked (wrongP (l : Int) 1 3) := by
  have HR := Lib.hid h
  have HE := Lib.hid he
  have hgl := h.lt
  clear h he
  go_enter Tryz.func145, Tryz.ntmps145
  go_wp2_with fail
  have HB := Lib.hid (Lib.atoiAll_bounds ha)
  refine (atoi_good _ v ha ht _).mono ?_
  rintro e w1 ⟨rfl, hb1⟩
  have HR1 := Lib.hid (show Rd g s l w1 from HR.out.below hb1 hgl)
  have HK1 := Lib.hid (KR.of (g := g) hb1)
  have HE1 := Lib.hid (HE.out.next (HK1.out.below (Nat.le_of_lt hgl)))
  clear HR HE hb1
  go_wp2_with fail
  refine (itoa_any v _ HB.out.1 HB.out.2 HE1.out.here.tens).mono ?_
  rintro e w2 ⟨rfl, hb2⟩
  have HR2 := Lib.hid (show Rd g s l w2 from HR1.out.below hb2 HR1.out.lt)
  have HK2 := Lib.hid (HK1.out.trans (KR.of (g := g) hb2))
  clear HR1 HE1 hb2 HK1
  go_wp2_with fail
  refine (fail_any g s l 3 _ HR2.out).mono ?_
  rintro e w4 ⟨rfl, rfl⟩
  go_wp2_with fail
  exact ⟨rfl, HK2.out, rfl⟩

set_option maxRecDepth 100000 in
set_option maxHeartbeats 1000000 in
theorem integer_bad3 (g : Nat) (s t : List UInt8) (l : Nat) (lo hi v : Int) (w : World) (h : Rd g s l w) (he : Ev g w) (ht : t.length ≤ 1000000) (ha : Lib.atoiAll t = .ok v) (h1 : itoa v = t) (h2 : v < lo) :
    Calls Tryz.prog 145 #[.pointer (some ⟨g, 0, none⟩), .string ⟨t.toArray⟩, .int .i64 lo, .int .i64 hi] w fun e w' => KR g w w' ∧ e = .panicked (wrongP (l : Int) 1 3) := by
  subst h1
  have HR := Lib.hid h
  have HE := Lib.hid he
  have hgl := h.lt
  clear h he
  go_enter Tryz.func145, Tryz.ntmps145
  go_wp2_with fail
  have HB := Lib.hid (Lib.atoiAll_bounds ha)
  refine (atoi_good _ v ha ht _).mono ?_
  rintro e w1 ⟨rfl, hb1⟩
  have HR1 := Lib.hid (show Rd g s l w1 from HR.out.below hb1 hgl)
  have HK1 := Lib.hid (KR.of (g := g) hb1)
  have HE1 := Lib.hid (HE.out.next (HK1.out.below (Nat.le_of_lt hgl)))
  clear HR HE hb1
  go_wp2_with fail
  refine (itoa_any v _ HB.out.1 HB.out.2 HE1.out.here.tens).mono ?_
  rintro e w2 ⟨rfl, hb2⟩
  have HR2 := Lib.hid (show Rd g s l w2 from HR1.out.below hb2 HR1.out.lt)
  have HK2 := Lib.hid (HK1.out.trans (KR.of (g := g) hb2))
  clear HR1 HE1 hb2 HK1
  go_wp2_with fail
  refine (fail_any g s l 3 _ HR2.out).mono ?_
  rintro e w4 ⟨rfl, rfl⟩
  go_wp2_with fail
  exact ⟨rfl, HK2.out, rfl⟩

set_option maxRecDepth 100000 in
set_option maxHeartbeats 1000000 in
theorem integer_bad4 (g : Nat) (s t : List UInt8) (l : Nat) (lo hi v : Int) (w : World) (h : Rd g s l w) (he : Ev g w) (ht : t.length ≤ 1000000) (ha : Lib.atoiAll t = .ok v) (h1 : itoa v = t) (h2 : ¬ v < lo) (h3 : hi < v) :
    Calls Tryz.prog 145 #[.pointer (some ⟨g, 0, none⟩), .string ⟨t.toArray⟩, .int .i64 lo, .int .i64 hi] w fun e w' => KR g w w' ∧ e = .panicked (wrongP (l : Int) 1 3) := by
  subst h1
  have HR := Lib.hid h
  have HE := Lib.hid he
  have hgl := h.lt
  clear h he
  go_enter Tryz.func145, Tryz.ntmps145
  go_wp2_with fail
  have HB := Lib.hid (Lib.atoiAll_bounds ha)
  refine (atoi_good _ v ha ht _).mono ?_
  rintro e w1 ⟨rfl, hb1⟩
  have HR1 := Lib.hid (show Rd g s l w1 from HR.out.below hb1 hgl)
  have HK1 := Lib.hid (KR.of (g := g) hb1)
  have HE1 := Lib.hid (HE.out.next (HK1.out.below (Nat.le_of_lt hgl)))
  clear HR HE hb1
  go_wp2_with fail
  refine (itoa_any v _ HB.out.1 HB.out.2 HE1.out.here.tens).mono ?_
  rintro e w2 ⟨rfl, hb2⟩
  have HR2 := Lib.hid (show Rd g s l w2 from HR1.out.below hb2 HR1.out.lt)
  have HK2 := Lib.hid (HK1.out.trans (KR.of (g := g) hb2))
  clear HR1 HE1 hb2 HK1
  go_wp2_with fail
  refine (fail_any g s l 3 _ HR2.out).mono ?_
  rintro e w4 ⟨rfl, rfl⟩
  go_wp2_with fail
  exact ⟨rfl, HK2.out, rfl⟩

set_option maxRecDepth 100000 in
set_option maxHeartbeats 1000000 in
theorem integer_good (g : Nat) (s t : List UInt8) (l : Nat) (lo hi v : Int) (w : World) (h : Rd g s l w) (he : Ev g w) (ht : t.length ≤ 1000000) (ha : Lib.atoiAll t = .ok v) (h1 : itoa v = t) (h2 : ¬ v < lo) (h3 : ¬ hi < v) :
    Calls Tryz.prog 145 #[.pointer (some ⟨g, 0, none⟩), .string ⟨t.toArray⟩, .int .i64 lo, .int .i64 hi] w fun e w' => KR g w w' ∧ e = .returned (.int .i64 v) ∧ Rd g s l w' := by
  subst h1
  have HR := Lib.hid h
  have HE := Lib.hid he
  have hgl := h.lt
  clear h he
  go_enter Tryz.func145, Tryz.ntmps145
  go_wp2_with fail
  have HB := Lib.hid (Lib.atoiAll_bounds ha)
  refine (atoi_good _ v ha ht _).mono ?_
  rintro e w1 ⟨rfl, hb1⟩
  have HR1 := Lib.hid (show Rd g s l w1 from HR.out.below hb1 hgl)
  have HK1 := Lib.hid (KR.of (g := g) hb1)
  have HE1 := Lib.hid (HE.out.next (HK1.out.below (Nat.le_of_lt hgl)))
  clear HR HE hb1
  go_wp2_with fail
  refine (itoa_any v _ HB.out.1 HB.out.2 HE1.out.here.tens).mono ?_
  rintro e w2 ⟨rfl, hb2⟩
  have HR2 := Lib.hid (show Rd g s l w2 from HR1.out.below hb2 HR1.out.lt)
  have HK2 := Lib.hid (HK1.out.trans (KR.of (g := g) hb2))
  clear HR1 HE1 hb2 HK1
  go_wp2_with fail
  go_ret
  exact ⟨HK2.out, rfl, HR2.out⟩

theorem integer_any (g : Nat) (s t : List UInt8) (l : Nat) (lo hi : Int) (w : World) (h : Rd g s l w) (he : Ev g w) (ht : t.length ≤ 1000000) :
    Calls Tryz.prog 145 #[.pointer (some ⟨g, 0, none⟩), .string ⟨t.toArray⟩, .int .i64 lo, .int .i64 hi] w (Reads g (intR t lo hi s l) (fun v u _ => u = .int .i64 v) w) := by
  unfold intR intP Reads
  by_cases hv : ∃ v, Lib.atoiAll t = .ok v
  · obtain ⟨v, ha⟩ := hv
    rw [ha]
    simp only []
    by_cases h1 : itoa v = t
    · by_cases h2 : v < lo
      · rw [if_neg (fun hh => by omega)]
        exact integer_bad3 g s t l lo hi v w h he ht ha h1 h2
      · by_cases h3 : hi < v
        · rw [if_neg (fun hh => by omega)]
          exact integer_bad4 g s t l lo hi v w h he ht ha h1 h2 h3
        · rw [if_pos ⟨h1, by omega, by omega⟩]
          refine (integer_good g s t l lo hi v w h he ht ha h1 h2 h3).mono ?_
          rintro e w' ⟨hk, rfl, hr⟩
          exact ⟨hk, _, rfl, hr, rfl⟩
    · rw [if_neg (fun hh => h1 hh.1)]
      exact integer_bad2 g s t l lo hi v w h he ht ha h1
  · have hb := integer_bad1 g s t l lo hi w h he ht (fun v e => hv ⟨v, e⟩)
    cases ha : Lib.atoiAll t
    case ok v => exact absurd ⟨v, ha⟩ hv
    all_goals exact hb

end Go.Proofs.YtekajoifgdpmlaaGreatDoor

/-! H7 -/
namespace Go.Proofs.YtekajoifgdpmlaaGreatDoor
open Go.RowKit Pl Go.Shelf

def preL (ds : List Dy) : List Dy ⊕ Int → List Dy ⊕ Int
  | .inl r => .inl (ds ++ r)
  | .inr e => .inr e
theorem preL_nil (q : List Dy ⊕ Int) : preL [] q = q := by cases q <;> rfl
theorem preL_step {ds : List Dy} {x : List UInt8} {r : List (List UInt8)} (h : (parseD x).2 = 0) : preL ds (parseL (x :: r)) = preL (ds ++ [(parseD x).1]) (parseL r) := by
  rw [parseL, if_pos h]
  cases parseL r <;> simp [preL]
theorem preL_bad {ds : List Dy} {x : List UInt8} {r : List (List UInt8)} (h : ¬ (parseD x).2 = 0) : preL ds (parseL (x :: r)) = .inr (parseD x).2 := by
  rw [parseL, if_neg h]
  rfl
/-- What numbers hands back. -/
def VD (B : Nat) (ds : List Dy) (u : Value) (w' : World) : Prop := ∃ A c us, u = .slice A ds.length c ∧ Ly B w' (fun W => SlU 3 RD W A ds.length c us ds)

set_option maxRecDepth 100000 in
set_option maxHeartbeats 4000000 in
theorem numbers_any (g : Nat) (s word : List UInt8) (l n : Nat) (w : World) (h : Rd g s l w) (he : Ev g w) (hs : s.length ≤ 1000000) (hl : l ≤ 1000000) (hn : n ≤ 1000) (hlen : ∀ p s' l', nextP word n s l = .ok p s' l' → p.length = n ∧ ∀ x ∈ p, x.length ≤ 1000000) :
    Calls Tryz.prog 147 #[.pointer (some ⟨g, 0, none⟩), .string ⟨word.toArray⟩, .int .i64 (n : Int)] w (Reads g (numsP word n s l) (VD w.heap.size) w) := by
  have HR := Lib.hid h
  have HE := Lib.hid he
  have HLen := Lib.hid hlen
  have hgl := h.lt
  clear h he hlen
  go_enter Tryz.func147, Tryz.ntmps147
  go_wp2_with fail
  refine (next_any g s word l n _ HR.out HE.out hs hl (by omega)).mono ?_
  rintro e w1 ⟨hk, hm⟩
  have HK1 := Lib.hid hk
  clear hk
  cases hN : nextP word n s l with
  | bad k c x =>
    rw [hN] at hm
    simp only [] at hm
    subst hm
    have HN := Lib.hid hN
    clear hN
    go_wp2_with fail
    exact ⟨rfl, HK1.out, by unfold numsP; rw [HN.out]; rfl⟩
  | ok p s' l' =>
    rw [hN] at hm
    obtain ⟨u, rfl, hr, A, c, rfl, hy⟩ := hm
    have hpl := (HLen.out p s' l' hN).1
    have HPX := Lib.hid (HLen.out p s' l' hN).2
    have HN := Lib.hid hN
    have HR1 := Lib.hid hr
    have HY := Lib.hid hy
    have HE1 := Lib.hid (HE.out.next (HK1.out.below (Nat.le_of_lt hgl)))
    clear hN hr hy HE HR HLen
    have HPL := Lib.hid hpl
    have hpm : p.length ≤ 1000 := by omega
    generalize hm : p.length = m at *
    have HM := Lib.hid hm
    clear hm hpl
    go_wp2_with fail
    go_loopw [7, 17] (fun v i wr => ∃ (k : Nat) (fs : List (List Value)) (ds : List Dy), k ≤ m ∧ i = .int .i64 k ∧ Hid (ds.length = k) ∧ Hid (Acc 25 3 RD w1.heap.size w1.heap.size wr v fs ds) ∧ Hid (KR g w1 wr) ∧ Hid (Rd g s' l' wr) ∧ Hid (parseL p = preL ds (parseL (p.drop k)))) (fun _ i _ => m - (intOf i).toNat)
    case atStart => exact ⟨0, [], [], by omega, rfl, rfl, Acc.nil _ _ _ (Nat.le_refl _) _, KR.refl _ _, HR1.out, (preL_nil _).symm⟩
    case round =>
      obtain ⟨k, fs, ds, hk, rfl, HD, HA, HK, HRr, HP⟩ := hrel
      by_cases hlt : k < m
      · have HKw := Lib.hid (HK1.out.trans HK.out)
        have HEr := Lib.hid (HE1.out.next (HK.out.below (by have := HK1.out.size; omega)))
        have hpk : k < p.length := by rw [HM.out]; exact hlt
        have HX := Lib.hid (List.getElem?_eq_getElem hpk)
        have HXL := Lib.hid (HPX.out _ (List.getElem_mem hpk))
        have HDr := Lib.hid (show p.drop k = p[k] :: p.drop (k + 1) from List.drop_eq_getElem_cons hpk)
        generalize p[k] = x at *
        obtain ⟨b, off, y, vs, rfl, hbl, hy, hvl, hvs, hcell⟩ := ((HY.out.kr HK.out hgl).here).get hlt
        have hxy : y = x := by rw [HX.out] at hy; injection hy with hy; exact hy.symm
        subst hxy
        unfold RS at hvs
        subst hvs
        have q0 : wr.cell? ⟨b, off + k, none⟩ = some (.string ⟨y.toArray⟩) := by have := hcell 0 _ rfl; simpa using this
        clear hcell hy hvl hbl
        go_wp2_with fail
        refine (parse_any y _ HXL.out HEr.out.here.tabs).mono ?_
        rintro e w2 ⟨A2, n2, c2, rfl, hsl, hfr, hb2⟩
        have HSL := Lib.hid (hsl.ly hfr)
        have HK2 := Lib.hid (KR.of (g := g) hb2)
        have HB2 := Lib.hid hb2
        clear hsl hfr hb2 q0
        by_cases hev : (parseD y).2 = 0
        · have HS := Lib.hid (preL_step (ds := ds) (x := y) (r := p.drop (k + 1)) hev)
          rw [hev]
          clear hev
          generalize (parseD y).1 = d at *
          have hsz := HB2.out.size
          have hsw := HK.out.size
          have hbw := bnext (ballo w2 (.cells #[.bool d.neg, .slice A2 n2 c2, .int .i64 d.e] 25)) (ballo (w2.alloc (.cells #[.bool d.neg, .slice A2 n2 c2, .int .i64 d.e] 25)) (.cells #[.bool d.neg, .slice A2 n2 c2, .int .i64 d.e] 25))
          have hbA := bnext HB2.out hbw
          have HBW := Lib.hid hbw
          have HA1 := Lib.hid (HA.out.keep hbA.size (fun b _ hb => hbA.block b hb))
          have HOW : Hid (∀ o, _ = some o → o < wr.heap.size ∨ w2.heap.size ≤ o) := fun o ho => .inl (HA.out.own.lt o ho).2
          have hfl : fs.length ≤ 1000 := by have := HA.out.len; have := HD.out; omega
          clear hbw hbA
          go_wp2_with (at_builtin; go_loud (refine wpList_acc rfl _ _ 35 rfl 25 3 40 _ infoD rfl (by omega) (by omega) Tryz.underlying35 w1.heap.size w1.heap.size _ fs ds rfl HA1.out ⟨w2.heap.size + 1, 0, none⟩ 1 [.bool d.neg, .slice A2 n2 c2, .int .i64 d.e] d rfl rfl ?c1 ?c2 ?c3 ?c4 wr.heap.size w2.heap.size ?c5 ?c6 HOW.out ?c7 ?_))
          case c1 =>
            intro j u hj
            rw [add_mk]
            match j, hj with
            | 0, hj => simp at hj; subst hj; simp
            | 1, hj => simp at hj; subst hj; simp
            | 2, hj => simp at hj; subst hj; simp
            | n + 3, hj => simp at hj
          case c2 => intro u hu; simp at hu; rcases hu with rfl | rfl | rfl <;> rfl
          case c3 => omega
          case c4 => simp; omega
          case c5 => omega
          case c6 => simp; omega
          case c7 => exact fun W h1 h2 => ⟨A2, n2, c2, rfl, HSL.out W h1 (fun b hb1 hb2 => (h2 b hb1 hb2).trans (HBW.out.block b hb2))⟩
          intro v' w3 hacc hb3
          have HA3 := Lib.hid hacc
          have HK3 := Lib.hid (HK.out.trans (HK2.out.trans (KR.of HBW.out)))
          have HB3 := Lib.hid hb3
          have HRd3 := Lib.hid ((HRr.out.below HB2.out HRr.out.lt).below HBW.out (by have := HRr.out.lt; omega))
          clear hacc hb3
          go_wp2_with fail
          go_roundw
          case rel =>
            have hsz1 := HK1.out.size
            refine ⟨k + 1, _, _, by omega, by go_num, ?_, HA3, ?_, ?_, ?_⟩
            · show _ = _
              rw [List.length_append, HD.out]; rfl
            · exact HK3.out.thenB HB3.out
            · exact (HRd3.out.below HB3.out (by have := HK1.out.size; omega))
            · show _ = _
              rw [HP.out, HDr.out, HS.out]
          case measure => simp [intOf]; omega
        · have HS := Lib.hid (preL_bad (ds := ds) (x := y) (r := p.drop (k + 1)) hev)
          have hne : ((parseD y).2 != 0) = true := by simpa using hev
          generalize (parseD y).1 = d at *
          generalize (parseD y).2 = ev at *
          have HRx := Lib.hid (show Rd g s' l' (w2.alloc (.cells #[.bool d.neg, .slice A2 n2 c2, .int .i64 d.e] 25)) from (HRr.out.below HB2.out HRr.out.lt).alloc _)
          have HKx := Lib.hid (HKw.out.trans (HK2.out.trans (KR.of (ballo w2 (.cells #[.bool d.neg, .slice A2 n2 c2, .int .i64 d.e] 25)))))
          go_wp2_with fail
          refine (fail_any g s' l' ev _ HRx.out).mono ?_
          rintro e w4 ⟨rfl, rfl⟩
          go_wp2_with fail
          refine ⟨rfl, HKx.out, ?_⟩
          have ho : numsP word n s l = .bad (l' : Int) 1 ev := by
            unfold numsP
            rw [HN.out, bind_ok]
            unfold toNums
            rw [HP.out, HDr.out, HS.out]
          rw [ho]
      · obtain rfl : k = m := by omega
        go_wp2_with fail
        go_ret
        refine ⟨HK1.out.trans HK.out, ?_⟩
        have hdr : p.drop k = [] := by rw [← HM.out]; exact List.drop_length
        have ho : numsP word n s l = .ok ds s' l' := by
          unfold numsP
          rw [HN.out, bind_ok]
          unfold toNums
          rw [HP.out, hdr]
          simp [parseL, preL]
        rw [ho]
        obtain ⟨A3, c3, hv, hly⟩ := HA.out.lyU
        exact ⟨_, rfl, HRr.out, A3, c3, fs, hv, hly.up (Nat.le_refl _) HK1.out.size (fun _ _ _ => rfl)⟩

end Go.Proofs.YtekajoifgdpmlaaGreatDoor

/-! I1 -/
namespace Go.Proofs.YtekajoifgdpmlaaGreatDoor
open Go.RowKit Pl Go.Shelf

theorem numbers_R (g : Nat) (s word : List UInt8) (l n : Nat) (w : World) (h : Rd g s l w) (he : Ev g w) (hs : l + s.length ≤ 1000000) (hn : n ≤ 1000) :
    Calls Tryz.prog 147 #[.pointer (some ⟨g, 0, none⟩), .string ⟨word.toArray⟩, .int .i64 (n : Int)] w (Reads g (numsP word n s l) (VD w.heap.size) w) :=
  numbers_any g s word l n w h he (by omega) (by omega) hn (fun p s' l' hp => ⟨(next_spec hp).2.1, fun x hx => by have := (next_lens hp).2 x hx; omega⟩)

theorem infoN : (Tryz.prog.info? 35).map (fun i => (i.zero, i.size, i.bytes)) = some (some (.slice none 0 0), 1, 24) := by kernel_rfl
theorem infoI : (Tryz.prog.info? 87).map (fun i => (i.zero, i.size, i.bytes)) = some (some (.agg #[.bool false, .slice none 0 0, .int .i64 0, .bool false, .slice none 0 0, .int .i64 0, .bool false]), 7, 88) := by kernel_rfl
/-- What rows hands back. -/
def VM (B : Nat) (m : List (List Dy)) (u : Value) (w' : World) : Prop := ∃ A c, u = .slice A m.length c ∧ Ly B w' (fun W => Sl 1 RM W A m.length c m)
theorem rowsP_step {word : List UInt8} {n j : Nat} {s : List UInt8} {l : Nat} {xs : List (List Dy)} {d : List Dy} {s2 : List UInt8} {l2 : Nat} (h : numsP word n s l = .ok d s2 l2) :
    (rowsP word n (j + 1) s l).bind (fun r s l => .ok (xs ++ r) s l) = (rowsP word n j s2 l2).bind (fun r s l => .ok ((xs ++ [d]) ++ r) s l) := by
  rw [rowsP, h, bind_ok, bind_bind]
  congr 1
  funext r s l
  simp [bind_ok]
theorem rows_bad {word : List UInt8} {n j : Nat} {s : List UInt8} {l : Nat} {xs : List (List Dy)} {k c e : Int} (h : numsP word n s l = .bad k c e) :
    (rowsP word n (j + 1) s l).bind (fun r s l => .ok (xs ++ r) s l) = .bad k c e := by
  rw [rowsP, h, bind_bad, bind_bad]

set_option maxRecDepth 100000 in
set_option maxHeartbeats 4000000 in
theorem rows_any (g : Nat) (s word : List UInt8) (l n : Nat) (w : World) (h : Rd g s l w) (he : Ev g w) (hs : l + s.length ≤ 1000000) (hn : n ≤ 1000) :
    Calls Tryz.prog 149 #[.pointer (some ⟨g, 0, none⟩), .string ⟨word.toArray⟩, .int .i64 (n : Int)] w (Reads g (rowsP word n n s l) (VM w.heap.size) w) := by
  have HR := Lib.hid h
  have HE := Lib.hid he
  have hgl := h.lt
  clear h he
  go_enter Tryz.func149, Tryz.ntmps149
  go_wp2_with fail
  go_loopw [7, 9] (fun v i wr => ∃ (k : Nat) (fs : List (List Value)) (xs : List (List Dy)) (sk : List UInt8) (lk : Nat), k ≤ n ∧ i = .int .i64 k ∧ Hid (xs.length = k) ∧ Hid (Acc 35 1 RM w.heap.size w.heap.size wr v fs xs) ∧ Hid (KR g w wr) ∧ Hid (Rd g sk lk wr) ∧ Hid (lk + sk.length ≤ 1000000) ∧ Hid (rowsP word n n s l = (rowsP word n (n - k) sk lk).bind (fun r s l => .ok (xs ++ r) s l))) (fun _ i _ => n - (intOf i).toNat)
  case atStart =>
    refine ⟨0, [], [], s, l, by omega, rfl, rfl, Acc.nil _ _ _ (Nat.le_refl _) _, KR.refl _ _, HR.out, hs, ?_⟩
    show _ = _
    rw [Nat.sub_zero]
    cases rowsP word n n s l <;> rfl
  case round =>
    obtain ⟨k, fs, xs, sk, lk, hk, rfl, HD, HA, HK, HRr, HS, HP⟩ := hrel
    by_cases hlt : k < n
    · have HEr := Lib.hid (HE.out.next (HK.out.below (Nat.le_of_lt hgl)))
      have HNK := Lib.hid (show n - k = (n - (k + 1)) + 1 by omega)
      go_wp2_with fail
      refine (numbers_R g sk word lk n _ HRr.out HEr.out HS.out hn).mono ?_
      rintro e w1 ⟨hk1, hm⟩
      have HK1 := Lib.hid hk1
      clear hk1
      cases hN : numsP word n sk lk with
      | bad kk cc x =>
        rw [hN] at hm
        simp only [] at hm
        subst hm
        have HN := Lib.hid hN
        clear hN
        go_wp2_with fail
        exact ⟨rfl, HK.out.trans HK1.out, by rw [HP.out, HNK.out, rows_bad HN.out]⟩
      | ok d s2 l2 =>
        rw [hN] at hm
        obtain ⟨u, rfl, hr, A, c, us, rfl, hy⟩ := hm
        have HN := Lib.hid hN
        have HR1 := Lib.hid hr
        have HY := Lib.hid hy
        have HS2 := Lib.hid (show l2 + s2.length ≤ 1000000 by have := nums_lens HN.out; have := HS.out; omega)
        have hsz := HK1.out.size
        have hsw := HK.out.size
        have HBW := Lib.hid (ballo w1 (.cells #[.slice A d.length c] 35))
        have HA1 := Lib.hid (HA.out.keep (Nat.le_trans hsz HBW.out.size) (fun b hb1 hb => (HBW.out.block b (Nat.lt_of_lt_of_le hb hsz)).trans (HK1.out.block b hb (by omega))))
        have HOW : Hid (∀ o, _ = some o → o < wr.heap.size ∨ w1.heap.size ≤ o) := fun o ho => .inl (HA.out.own.lt o ho).2
        have hfl : fs.length ≤ 1000 := by have := HA.out.len; have := HD.out; omega
        clear hN hr hy
        go_wp2_with (at_builtin; go_loud (refine wpList_acc rfl _ _ 36 rfl 35 1 24 _ infoN rfl (by omega) (by omega) Tryz.underlying36 w.heap.size w.heap.size _ fs xs rfl HA1.out ⟨w1.heap.size, 0, none⟩ 1 [.slice A d.length c] d rfl rfl ?c1 ?c2 ?c3 ?c4 wr.heap.size w1.heap.size ?c5 ?c6 HOW.out ?c7 ?_))
        case c1 =>
          intro j u hj
          rw [add_mk]
          match j, hj with
          | 0, hj => simp at hj; subst hj; simp
          | n + 1, hj => simp at hj
        case c2 => intro u hu; simp at hu; subst hu; rfl
        case c3 => omega
        case c4 => simp; omega
        case c5 => omega
        case c6 => simp
        case c7 => exact fun W h1 h2 => ⟨A, d.length, c, rfl, (HY.out W h1 (fun b hb1 hb2 => (h2 b hb1 hb2).trans (HBW.out.block b hb2))).sl⟩
        intro v' w3 hacc hb3
        have HA3 := Lib.hid hacc
        have HK3 := Lib.hid (HK.out.trans (HK1.out.trans (KR.of HBW.out)))
        have HB3 := Lib.hid hb3
        have HRd3 := Lib.hid (HR1.out.below HBW.out HR1.out.lt)
        clear hacc hb3
        go_wp2_with fail
        go_roundw
        case rel =>
          refine ⟨k + 1, _, _, s2, l2, by omega, by go_num, ?_, HA3, HK3.out.thenB HB3.out, HRd3.out.below HB3.out hgl, HS2, ?_⟩
          · show _ = _
            rw [List.length_append, HD.out]; rfl
          · show _ = _
            rw [HP.out, HNK.out, rowsP_step HN.out]
        case measure => simp [intOf]; omega
    · obtain rfl : k = n := by omega
      go_wp2_with fail
      go_ret
      refine ⟨HK.out, ?_⟩
      have ho : rowsP word k k s l = .ok xs sk lk := by
        rw [HP.out, Nat.sub_self, rowsP, bind_ok, List.append_nil]
      rw [ho]
      obtain ⟨A3, c3, hv, hly⟩ := HA.out.ly
      exact ⟨_, rfl, HRr.out, A3, c3, hv, hly⟩

/-- What intervals hands back. -/
def VI (B : Nat) (m : List Iv) (u : Value) (w' : World) : Prop := ∃ A c, u = .slice A m.length c ∧ Ly B w' (fun W => Sl 7 RI W A m.length c m)
theorem pairs_take {ds : List Dy} : ∀ {k : Nat} {a b : Dy}, ds[2 * k]? = some a → ds[2 * k + 1]? = some b → pairs (ds.take (2 * (k + 1))) = pairs (ds.take (2 * k)) ++ [⟨a, b, false⟩] := by
  induction ds using pairs.induct with
  | case1 x y r ih =>
    intro k a b ha hb
    cases k with
    | zero => simp at ha hb; subst ha hb; simp [pairs]
    | succ k =>
      have ha' : r[2 * k]? = some a := by rw [show 2 * (k + 1) = 2 * k + 1 + 1 by omega] at ha; simpa using ha
      have hb' : r[2 * k + 1]? = some b := by rw [show 2 * (k + 1) + 1 = 2 * k + 1 + 1 + 1 by omega] at hb; simpa using hb
      rw [show 2 * (k + 1 + 1) = 2 * (k + 1) + 1 + 1 by omega, show 2 * (k + 1) = 2 * k + 1 + 1 by omega]
      rw [show 2 * k + 1 + 1 + 1 + 1 = 2 * (k + 1) + 1 + 1 by omega]
      simp only [List.take_succ_cons, pairs]
      rw [ih ha' hb']
      rfl
  | case2 ds h =>
    intro k a b ha hb
    exfalso
    match ds, h with
    | [], _ => simp at ha
    | [x], _ => simp at hb
    | x :: y :: r, h => exact h x y r rfl

set_option maxRecDepth 100000 in
set_option maxHeartbeats 4000000 in
theorem intervals_any (g : Nat) (s word : List UInt8) (l n : Nat) (w : World) (h : Rd g s l w) (he : Ev g w) (hs : l + s.length ≤ 1000000) (hn : n ≤ 100) :
    Calls Tryz.prog 148 #[.pointer (some ⟨g, 0, none⟩), .string ⟨word.toArray⟩, .int .i64 (n : Int)] w (Reads g (ivsP word n s l) (VI w.heap.size) w) := by
  have HR := Lib.hid h
  have HE := Lib.hid he
  have hgl := h.lt
  have w2n : IntKind.i64.wrap (2 * (n : Int)) = ((2 * n : Nat) : Int) := by rw [IntWalk.i64_in _ (by omega)]; omega
  clear h he
  go_enter Tryz.func148, Tryz.ntmps148
  go_wp2_with fail
  refine (numbers_R g s word l (2 * n) _ HR.out HE.out hs (by omega)).mono ?_
  rintro e w1 ⟨hk1, hm⟩
  have HK1 := Lib.hid hk1
  clear hk1
  cases hN : numsP word (2 * n) s l with
  | bad kk cc x =>
    rw [hN] at hm
    simp only [] at hm
    subst hm
    have HN := Lib.hid hN
    clear hN
    go_wp2_with fail
    exact ⟨rfl, HK1.out, by unfold ivsP; rw [HN.out]; rfl⟩
  | ok ds s2 l2 =>
    rw [hN] at hm
    obtain ⟨u, rfl, hr, A, c, us, rfl, hy⟩ := hm
    have hdl := (nums_spec hN).2.1
    have HDL := Lib.hid hdl
    have HN := Lib.hid hN
    have HR1 := Lib.hid hr
    rw [hdl] at hy ⊢
    have HY := Lib.hid hy
    clear hN hr hy hdl w2n
    go_wp2_with fail
    go_loopw [8, 16] (fun v i wr => ∃ (k : Nat) (fs : List (List Value)), k ≤ n ∧ i = .int .i64 k ∧ Hid (fs.length = k) ∧ Hid (Acc 87 7 RI w.heap.size w1.heap.size wr v fs (pairs (ds.take (2 * k)))) ∧ Hid (KR g w1 wr) ∧ Hid (Rd g s2 l2 wr)) (fun _ i _ => n - (intOf i).toNat)
    case atStart =>
      refine ⟨0, [], by omega, rfl, rfl, ?_, KR.refl _ _, HR1.out⟩
      rw [Nat.mul_zero, List.take_zero]
      exact Acc.nil _ _ _ HK1.out.size _
    case round =>
      obtain ⟨k, fs, hk, rfl, HD, HA, HK, HRr⟩ := hrel
      by_cases hlt : k < n
      · have HYr := Lib.hid (HY.out.kr HK.out hgl)
        obtain ⟨b, off, rfl, hcell⟩ := HYr.out.here.cell (by omega)
        have hul := HYr.out.here.ulen
        have hu0 : us[2 * k]? = some (us[2 * k]'(by omega)) := List.getElem?_eq_getElem _
        have hu1 : us[2 * k + 1]? = some (us[2 * k + 1]'(by omega)) := List.getElem?_eq_getElem _
        have hx0 : ds[2 * k]? = some (ds[2 * k]'(by rw [HDL.out]; omega)) := List.getElem?_eq_getElem _
        have hx1 : ds[2 * k + 1]? = some (ds[2 * k + 1]'(by rw [HDL.out]; omega)) := List.getElem?_eq_getElem _
        have HE0 := Lib.hid (fun (W : World) (hW : SlU 3 RD W (some ⟨b, off, none⟩) (2 * n) c us ds) => hW.each _ _ _ hu0 hx0)
        have HE1 := Lib.hid (fun (W : World) (hW : SlU 3 RD W (some ⟨b, off, none⟩) (2 * n) c us ds) => hW.each _ _ _ hu1 hx1)
        have hc0 := hcell _ _ hu0
        have hc1 := hcell _ _ hu1
        have HPT := Lib.hid (pairs_take hx0 hx1)
        clear hu0 hu1 hx0 hx1 hcell
        generalize us[2 * k]'(by omega) = u0 at *
        generalize us[2 * k + 1]'(by omega) = u1 at *
        generalize ds[2 * k]'(by rw [HDL.out]; omega) = x0 at *
        generalize ds[2 * k + 1]'(by rw [HDL.out]; omega) = x1 at *
        obtain ⟨A0, n0, c0, rfl, _⟩ := HE0.out wr HYr.out.here
        obtain ⟨A1, n1, c1, rfl, _⟩ := HE1.out wr HYr.out.here
        have q0 : wr.cell? ⟨b, off + 2 * k * 3, none⟩ = some (.bool x0.neg) := hc0 0 _ rfl
        have q1 : wr.cell? ⟨b, off + 2 * k * 3 + 1, none⟩ = some (.slice A0 n0 c0) := hc0 1 _ rfl
        have q2 : wr.cell? ⟨b, off + 2 * k * 3 + 2, none⟩ = some (.int .i64 x0.e) := hc0 2 _ rfl
        have q3 : wr.cell? ⟨b, off + (2 * k + 1) * 3, none⟩ = some (.bool x1.neg) := hc1 0 _ rfl
        have q4 : wr.cell? ⟨b, off + (2 * k + 1) * 3 + 1, none⟩ = some (.slice A1 n1 c1) := hc1 1 _ rfl
        have q5 : wr.cell? ⟨b, off + (2 * k + 1) * 3 + 2, none⟩ = some (.int .i64 x1.e) := hc1 2 _ rfl
        have k2 : IntKind.i64.wrap (2 * (k : Int)) = 2 * (k : Int) := IntWalk.i64_in _ (by omega)
        have k3 : IntKind.i64.wrap (2 * (k : Int) + 1) = 2 * (k : Int) + 1 := IntWalk.i64_in _ (by omega)
        have k4 : (0 : Int) ≤ 2 * (k : Int) := by omega
        have k5 : (0 : Int) ≤ 2 * (k : Int) + 1 := by omega
        have k6 : (2 * (k : Int)).toNat = 2 * k := by omega
        have k7 : (2 * (k : Int) + 1).toNat = 2 * k + 1 := by omega
        have i2 : 2 * (k : Int) < 2 * (n : Int) := by omega
        have i3 : 2 * (k : Int) + 1 < 2 * (n : Int) := by omega
        clear hc0 hc1 hul
        have hbl : b < w1.heap.size := by
          obtain ⟨b', off', e', hb', _⟩ := HY.out.here.sl.at_ (by omega)
          injection e' with e'
          injection e' with e1 _
          subst e1
          exact hb'
        have HSx : Hid (∀ W, Below w1.heap.size wr W → W.cell? ⟨b, off + 2 * k * 3, none⟩ = some (.bool x0.neg) ∧ W.cell? ⟨b, off + 2 * k * 3 + 1, none⟩ = some (.slice A0 n0 c0) ∧ W.cell? ⟨b, off + 2 * k * 3 + 2, none⟩ = some (.int .i64 x0.e) ∧ W.cell? ⟨b, off + (2 * k + 1) * 3, none⟩ = some (.bool x1.neg) ∧ W.cell? ⟨b, off + (2 * k + 1) * 3 + 1, none⟩ = some (.slice A1 n1 c1) ∧ W.cell? ⟨b, off + (2 * k + 1) * 3 + 2, none⟩ = some (.int .i64 x1.e)) := fun W hW =>
          ⟨(hW.cell (p := ⟨b, _, none⟩) hbl).trans q0, (hW.cell (p := ⟨b, _, none⟩) hbl).trans q1, (hW.cell (p := ⟨b, _, none⟩) hbl).trans q2, (hW.cell (p := ⟨b, _, none⟩) hbl).trans q3, (hW.cell (p := ⟨b, _, none⟩) hbl).trans q4, (hW.cell (p := ⟨b, _, none⟩) hbl).trans q5⟩
        go_wp2_with fail
        refine wp_region_held_drew (S := fun W => W.cell? ⟨b, off + 2 * k * 3, none⟩ = some (.bool x0.neg) ∧ W.cell? ⟨b, off + 2 * k * 3 + 1, none⟩ = some (.slice A0 n0 c0) ∧ W.cell? ⟨b, off + 2 * k * 3 + 2, none⟩ = some (.int .i64 x0.e) ∧ W.cell? ⟨b, off + (2 * k + 1) * 3, none⟩ = some (.bool x1.neg) ∧ W.cell? ⟨b, off + (2 * k + 1) * 3 + 1, none⟩ = some (.slice A1 n1 c1) ∧ W.cell? ⟨b, off + (2 * k + 1) * 3 + 2, none⟩ = some (.int .i64 x1.e)) (by kernel_rfl) (⟨q0, q1, q2, q3, q4, q5⟩) (fun hH => ?_)
        refine wpAnyH_take (i := 0) (oi := ⟨_, _, _, _, _, _⟩) (v := ?_) rfl (by kernel_rfl) (by kernel_rfl) (by kernel_rfl) (fun _ _ _ h => h) (Or.inl ⟨by rfl, ?_⟩) hH ?_
        rotate_left
        · (intro w hSw; obtain ⟨p0, p1, p2, p3, p4, p5⟩ := hSw; go_simp; try (with_reducible rfl))
        simp only [Act.put, List.setIfInBounds_toArray, List.set_cons_zero, List.set_cons_succ]
        refine wpAnyH_take (i := 1) (oi := ⟨_, _, _, _, _, _⟩) (v := ?_) rfl (by kernel_rfl) (by kernel_rfl) (by kernel_rfl) (fun _ _ _ h => h) (Or.inl ⟨by rfl, ?_⟩) hH ?_
        rotate_left
        · (intro w hSw; obtain ⟨p0, p1, p2, p3, p4, p5⟩ := hSw; go_simp; try (with_reducible rfl))
        simp only [Act.put, List.setIfInBounds_toArray, List.set_cons_zero, List.set_cons_succ]
        refine wpAnyH_take (i := 2) (oi := ⟨_, _, _, _, _, _⟩) (v := ?_) rfl (by kernel_rfl) (by kernel_rfl) (by kernel_rfl) (fun _ _ _ h => h) (Or.inl ⟨by rfl, ?_⟩) hH ?_
        rotate_left
        · (intro w hSw; obtain ⟨p0, p1, p2, p3, p4, p5⟩ := hSw; go_simp; try (with_reducible rfl))
        simp only [Act.put, List.setIfInBounds_toArray, List.set_cons_zero, List.set_cons_succ]
        refine wpAnyH_take (i := 3) (oi := ⟨_, _, _, _, _, _⟩) (v := ?_) rfl (by kernel_rfl) (by kernel_rfl) (by kernel_rfl) (fun _ _ _ h => h) (Or.inl ⟨by rfl, ?_⟩) hH ?_
        rotate_left
        · (intro w hSw; obtain ⟨p0, p1, p2, p3, p4, p5⟩ := hSw; go_simp; try (with_reducible rfl))
        simp only [Act.put, List.setIfInBounds_toArray, List.set_cons_zero, List.set_cons_succ]
        refine wpAnyH_take (i := 4) (oi := ⟨_, _, _, _, _, _⟩) (v := ?_) rfl (by kernel_rfl) (by kernel_rfl) (by kernel_rfl) (fun _ _ _ h => h) (Or.inl ⟨by rfl, ?_⟩) hH ?_
        rotate_left
        · (intro w hSw; obtain ⟨p0, p1, p2, p3, p4, p5⟩ := hSw; go_simp; try (with_reducible rfl))
        simp only [Act.put, List.setIfInBounds_toArray, List.set_cons_zero, List.set_cons_succ]
        refine wpAnyH_take (i := 5) (oi := ⟨_, _, _, _, _, _⟩) (v := ?_) rfl (by kernel_rfl) (by kernel_rfl) (by kernel_rfl) (fun _ _ _ h => h) (Or.inl ⟨by rfl, ?_⟩) hH ?_
        rotate_left
        · (intro w hSw; obtain ⟨p0, p1, p2, p3, p4, p5⟩ := hSw; go_simp; try (with_reducible rfl))
        simp only [Act.put, List.setIfInBounds_toArray, List.set_cons_zero, List.set_cons_succ]
        refine wpAnyH_take (i := 6) (oi := ⟨_, _, _, _, _, _⟩) (v := ?_) rfl (by kernel_rfl) (by kernel_rfl) (by kernel_rfl) (fun _ _ _ h => h) (Or.inl ⟨by rfl, ?_⟩) hH ?_
        rotate_left
        · (intro w hSw; obtain ⟨p0, p1, p2, p3, p4, p5⟩ := hSw; go_simp; try (with_reducible rfl))
        simp only [Act.put, List.setIfInBounds_toArray, List.set_cons_zero, List.set_cons_succ]
        refine wpAnyH_take (i := 7) (oi := ⟨_, _, _, _, _, _⟩) (v := ?_) rfl (by kernel_rfl) (by kernel_rfl) (by kernel_rfl) (fun _ _ _ h => h) (Or.inl ⟨by rfl, ?_⟩) hH ?_
        rotate_left
        · (intro w hSw; obtain ⟨p0, p1, p2, p3, p4, p5⟩ := hSw; go_simp; try (with_reducible rfl))
        simp only [Act.put, List.setIfInBounds_toArray, List.set_cons_zero, List.set_cons_succ]
        refine wpAnyH_take (i := 8) (oi := ⟨_, _, _, _, _, _⟩) (v := ?_) rfl (by kernel_rfl) (by kernel_rfl) (by kernel_rfl) (fun _ _ _ h => h) (Or.inl ⟨by rfl, ?_⟩) hH ?_
        rotate_left
        · (intro w hSw; obtain ⟨p0, p1, p2, p3, p4, p5⟩ := hSw; go_simp; try (with_reducible rfl))
        simp only [Act.put, List.setIfInBounds_toArray, List.set_cons_zero, List.set_cons_succ]
        refine wpAnyH_take (i := 9) (oi := ⟨_, _, _, _, _, _⟩) (v := ?_) rfl (by kernel_rfl) (by kernel_rfl) (by kernel_rfl) (fun _ _ _ h => h) (Or.inl ⟨by rfl, ?_⟩) hH ?_
        rotate_left
        · (intro w hSw; obtain ⟨p0, p1, p2, p3, p4, p5⟩ := hSw; go_simp; try (with_reducible rfl))
        simp only [Act.put, List.setIfInBounds_toArray, List.set_cons_zero, List.set_cons_succ]
        refine wpAnyH_take (i := 10) (oi := ⟨_, _, _, _, _, _⟩) (v := ?_) rfl (by kernel_rfl) (by kernel_rfl) (by kernel_rfl) (fun _ _ _ h => h) (Or.inl ⟨by rfl, ?_⟩) hH ?_
        rotate_left
        · (intro w hSw; obtain ⟨p0, p1, p2, p3, p4, p5⟩ := hSw; go_simp; try (with_reducible rfl))
        simp only [Act.put, List.setIfInBounds_toArray, List.set_cons_zero, List.set_cons_succ]
        refine wpAnyH_take (i := 11) (oi := ⟨_, _, _, _, _, _⟩) (v := ?_) rfl (by kernel_rfl) (by kernel_rfl) (by kernel_rfl) (fun _ _ _ h => h) (Or.inl ⟨by rfl, ?_⟩) hH ?_
        rotate_left
        · (intro w hSw; obtain ⟨p0, p1, p2, p3, p4, p5⟩ := hSw; go_simp; try (with_reducible rfl))
        simp only [Act.put, List.setIfInBounds_toArray, List.set_cons_zero, List.set_cons_succ]
        refine wpAnyH_take (i := 12) (oi := ⟨_, _, _, _, _, _⟩) (v := ?_) rfl (by kernel_rfl) (by kernel_rfl) (by kernel_rfl) (fun _ _ _ h => h) (Or.inl ⟨by rfl, ?_⟩) hH ?_
        rotate_left
        · (intro w hSw; obtain ⟨p0, p1, p2, p3, p4, p5⟩ := hSw; go_simp; try (with_reducible rfl))
        simp only [Act.put, List.setIfInBounds_toArray, List.set_cons_zero, List.set_cons_succ]
        refine wpAnyH_ready (rs := [13]) (by kernel_rfl) (by simp) ?_
        refine AllReadyH.cons (o := ⟨_, _, _, _, _, _⟩) rfl (fun K hK => ?_) AllReadyH.nil
        go_simp
        have HBW : Hid (Below wr.heap.size wr (wr.alloc (.cells #[.bool x0.neg, .slice A0 n0 c0, .int .i64 x0.e, .bool x1.neg, .slice A1 n1 c1, .int .i64 x1.e, .bool false] 87)).drew) := Below.drew (ballo wr (.cells #[.bool x0.neg, .slice A0 n0 c0, .int .i64 x0.e, .bool x1.neg, .slice A1 n1 c1, .int .i64 x1.e, .bool false] 87))
        have HNB : Hid (Blk (wr.alloc (.cells #[.bool x0.neg, .slice A0 n0 c0, .int .i64 x0.e, .bool x1.neg, .slice A1 n1 c1, .int .i64 x1.e, .bool false] 87)).drew wr.heap.size 87 #[.bool x0.neg, .slice A0 n0 c0, .int .i64 x0.e, .bool x1.neg, .slice A1 n1 c1, .int .i64 x1.e, .bool false]) := Blk.new wr _ _
        have hsx : (wr.alloc (.cells #[.bool x0.neg, .slice A0 n0 c0, .int .i64 x0.e, .bool x1.neg, .slice A1 n1 c1, .int .i64 x1.e, .bool false] 87)).drew.heap.size = wr.heap.size + 1 := by simp
        generalize (wr.alloc (.cells #[.bool x0.neg, .slice A0 n0 c0, .int .i64 x0.e, .bool x1.neg, .slice A1 n1 c1, .int .i64 x1.e, .bool false] 87)).drew = wX at *
        refine hK.out _ _ (HSx.out _ (HBW.out.mono HK.out.size)) (fun hH => ?_)
        clear hK K
        have HA1 := Lib.hid (HA.out.keep HBW.out.size (fun b _ hb => HBW.out.block b hb))
        have HOW : Hid (∀ o, _ = some o → o < w.heap.size ∨ w1.heap.size ≤ o) := fun o ho => .inr (HA.out.own.lt o ho).1
        have hsz := HK.out.size
        have hfl : fs.length ≤ 1000 := by have := HD.out; omega
        refine wpAnyH_ready (rs := [14]) (by kernel_rfl) (by simp) ?_
        refine AllReadyH.cons (o := ⟨_, _, _, _, _, _⟩) rfl (fun K hK => ?_) AllReadyH.nil
        refine step_acc rfl _ _ 37 rfl 87 7 88 _ infoI rfl (by omega) (by omega) Tryz.underlying37 w.heap.size w1.heap.size _ fs _ rfl HA1.out ⟨wr.heap.size, 0, none⟩ 1 [.bool x0.neg, .slice A0 n0 c0, .int .i64 x0.e, .bool x1.neg, .slice A1 n1 c1, .int .i64 x1.e, .bool false] ⟨x0, x1, false⟩ rfl rfl ?c1 ?c2 ?c3 ?c4 w.heap.size w1.heap.size ?c5 ?c6 HOW.out ?c7 ?_
        case c1 =>
          intro j u hj
          rw [add_mk, Blk.cell HNB.out]
          simpa using hj
        case c2 => intro u hu; simp at hu; rcases hu with rfl | rfl | rfl | rfl | rfl | rfl | rfl <;> rfl
        case c3 => omega
        case c4 => omega
        case c5 => exact Nat.le_refl _
        case c6 => omega
        case c7 =>
          intro W h1 h2
          have hW := HY.out W h1 (fun b hb1 hb2 => (h2 b hb1 hb2).trans ((HBW.out.block b (by omega)).trans (HK.out.block b hb2 (by omega))))
          obtain ⟨A', n', c', e', hs0⟩ := HE0.out W hW
          obtain ⟨A'', n'', c'', e'', hs1⟩ := HE1.out W hW
          simp at e' e''
          obtain ⟨rfl, rfl, rfl⟩ := e'
          obtain ⟨rfl, rfl, rfl⟩ := e''
          exact ⟨_, _, _, _, _, _, rfl, hs0, hs1⟩
        intro v' w3 hacc hb3
        have HA3 := Lib.hid hacc
        have HB3 := Lib.hid hb3
        clear hacc hb3
        refine hK.out _ _ (HSx.out _ ((HBW.out.mono hsz).trans HB3.out)) (fun hH => ?_)
        clear hK K
        simp only [Act.put, List.setIfInBounds_toArray, List.set_cons_zero, List.set_cons_succ]
        refine wpAnyH_ready (rs := [15]) (by kernel_rfl) (by simp) ?_
        refine AllReadyH.cons (o := ⟨_, _, _, _, _, _⟩) rfl (fun K hK => ?_) AllReadyH.nil
        go_simp
        refine hK.out _ _ hH (fun hH => ?_)
        clear hK K
        refine wpAnyH_done (by kernel_rfl) ?_ _
        go_wp2_with fail
        go_roundw
        case rel =>
          refine ⟨k + 1, fs ++ [[.bool x0.neg, .slice A0 n0 c0, .int .i64 x0.e, .bool x1.neg, .slice A1 n1 c1, .int .i64 x1.e, .bool false]], by omega, by go_num, ?_, ?_, (HK.out.thenB (HBW.out.mono hsz)).thenB HB3.out, (HRr.out.below HBW.out HRr.out.lt).below HB3.out (by have := HK1.out.size; omega)⟩
          · show _ = _
            rw [List.length_append, HD.out]; rfl
          · rw [HPT.out]; exact HA3
        case measure => simp [intOf]; omega
      · obtain rfl : k = n := by omega
        go_wp2_with fail
        go_ret
        refine ⟨HK1.out.trans HK.out, ?_⟩
        have ht : ds.take (2 * k) = ds := List.take_of_length_le (by rw [HDL.out]; exact Nat.le_refl _)
        have ho : ivsP word k s l = .ok (pairs ds) s2 l2 := by unfold ivsP; rw [HN.out]; rfl
        rw [ho]
        have hacc := HA.out
        rw [ht] at hacc
        obtain ⟨A3, c3, hv, hly⟩ := hacc.ly
        exact ⟨_, rfl, HRr.out, A3, c3, hv, hly⟩

end Go.Proofs.YtekajoifgdpmlaaGreatDoor

/-! I2 -/
namespace Go.Proofs.YtekajoifgdpmlaaGreatDoor
open Go.RowKit Pl Go.Shelf

/-- What holds of the blocks from B to E holds in every world that has them so. -/
def LyI (B E : Nat) (w : World) (P : World → Prop) : Prop := ∀ W : World, E ≤ W.heap.size → (∀ b, B ≤ b → b < E → W.heap[b]? = w.heap[b]?) → P W
theorem Ly.int {B : Nat} {w : World} {P : World → Prop} (h : Ly B w P) : LyI B w.heap.size w P := h
section
variable {B E g : Nat} {w w' : World} {P : World → Prop}
theorem LyI.next (h : LyI B E w P) (hb : ∀ b, B ≤ b → b < E → w'.heap[b]? = w.heap[b]?) : LyI B E w' P := fun W h1 h2 => h W h1 (fun b b1 b2 => (h2 b b1 b2).trans (hb b b1 b2))
theorem LyI.kr (h : LyI B E w P) (k : KR g w w') (hE : E ≤ w.heap.size) (hg : g < B) : LyI B E w' P := h.next (fun b b1 b2 => k.block b (by omega) (by omega))
theorem LyI.below (h : LyI B E w P) (k : Below w.heap.size w w') (hE : E ≤ w.heap.size) : LyI B E w' P := h.next (fun b _ b2 => k.block b (by omega))
theorem LyI.belowB (h : LyI B E w P) {M : Nat} (k : Below M w w') (hE : E ≤ M) : LyI B E w' P := h.next (fun b _ b2 => k.block b (by omega))
theorem LyI.set (h : LyI B E w P) {b i : Nat} {v : Value} (hb : b < B ∨ E ≤ b) : LyI B E (w.setCell ⟨b, i, none⟩ v) P := h.next (fun k b1 b2 => Below.heap_setCell _ _ _ _ (by show k ≠ b; omega))
theorem LyI.ly (h : LyI B E w P) {lo : Nat} (hl : lo ≤ B) (hE : E ≤ w.heap.size) : Ly lo w P := fun W h1 h2 => h W (by omega) (fun b b1 b2 => h2 b (by omega) (by omega))
theorem setCell_size (w : World) (p : Addr) (v : Value) : (w.setCell p v).heap.size = w.heap.size := by simp [World.setCell]
end
/-- What set hands back. -/
def VF (B : Nat) (f : Fr) (u : Value) (w' : World) : Prop := ∃ A n c A' n' c' A'' n'' c'', u = .agg #[.slice A n c, .slice A' n' c', .slice A'' n'' c''] ∧ Ly B w' (fun W => RF W [.slice A n c, .slice A' n' c', .slice A'' n'' c''] f)
theorem resF {fn : Func} {k : Nat} (h : fn.results = #[.cell k 39]) {tmps : Array Value} {W : World} {g : Nat} {t : TypeId} {x0 x1 x2 : Value} (hk : tmps.getD k undef = .pointer (some ⟨g, 0, none⟩)) (hB : Blk W g t #[x0, x1, x2]) :
    (results fn tmps).run Tryz.prog W = .ok (.agg #[x0, x1, x2]) W := by
  have c0 := hB.cell 0
  have c1 := hB.cell 1
  have c2 := hB.cell 2
  simp at c0 c1 c2
  have hk' : tmps[k]?.getD undef = .pointer (some ⟨g, 0, none⟩) := by simpa using hk
  simp [results, h, hk', go_sem, c0, c1, c2]
theorem ivs_lens {word : List UInt8} {n : Nat} {s : List UInt8} {l : Nat} {xs : List Iv} {r : List UInt8} {l' : Nat} (h : ivsP word n s l = .ok xs r l') : l' + r.length ≤ l + s.length := by
  obtain ⟨e, _, _, e2⟩ := ivs_spec h
  have := congrArg List.length e
  have h1 := line_pos word (endsL xs)
  simp only [List.length_append] at this
  omega
theorem rows_pos (word : List UInt8) (m : List (List Dy)) : m.length ≤ (rowsT word m).length := by
  induction m with
  | nil => simp
  | cons d m ih =>
    unfold rowsT at ih ⊢
    have := line_pos word d
    simp only [List.flatMap_cons, List.length_append, List.length_cons]
    omega
theorem rows_lens {word : List UInt8} {n k : Nat} {s : List UInt8} {l : Nat} {m : List (List Dy)} {r : List UInt8} {l' : Nat} (h : rowsP word n k s l = .ok m r l') : l' + r.length ≤ l + s.length := by
  obtain ⟨e, e1, _, e2⟩ := rows_spec h
  have := congrArg List.length e
  have h1 := rows_pos word m
  simp only [List.length_append] at this
  omega
theorem set_pos (f : Fr) : 2 + f.a.length ≤ (setT f).length := by
  unfold setT
  have h1 := line_pos [99] f.c
  have h2 := line_pos [114] (endsL f.r)
  have h3 := rows_pos [97] f.a
  simp only [List.length_append]
  omega
theorem set_lens {n : Nat} {s : List UInt8} {l : Nat} {f : Fr} {r : List UInt8} {l' : Nat} (h : setP n s l = .ok f r l') : l' + r.length ≤ l + s.length := by
  obtain ⟨e, e1, e2⟩ := set_spec h
  have := congrArg List.length e
  have h1 := set_pos f
  have h2 := e1.a.1
  simp only [List.length_append] at this
  omega

set_option maxRecDepth 100000 in
set_option maxHeartbeats 4000000 in
theorem set_any (g : Nat) (s : List UInt8) (l n : Nat) (w : World) (h : Rd g s l w) (he : Ev g w) (hs : l + s.length ≤ 1000000) (hn : n ≤ 100) :
    Calls Tryz.prog 146 #[.pointer (some ⟨g, 0, none⟩), .int .i64 (n : Int)] w (Reads g (setP n s l) (VF w.heap.size) w) := by
  have hgl := h.lt
  have HR := Lib.hid (show Rd g s l (w.alloc (.cells #[.slice none 0 0, .slice none 0 0, .slice none 0 0] 39)) from h.alloc _)
  have HK := Lib.hid (KR.of (g := g) (ballo w (.cells #[.slice none 0 0, .slice none 0 0, .slice none 0 0] 39)))
  have HE := Lib.hid (he.next (HK.out.below (Nat.le_of_lt hgl)))
  have HZ := Lib.hid (Blk.new w 39 #[.slice none 0 0, .slice none 0 0, .slice none 0 0])
  have hsz0 : (w.alloc (.cells #[.slice none 0 0, .slice none 0 0, .slice none 0 0] 39)).heap.size = w.heap.size + 1 := by simp
  clear h he
  go_enter Tryz.func146, Tryz.ntmps146
  go_wp2_with fail
  generalize w.alloc (.cells #[.slice none 0 0, .slice none 0 0, .slice none 0 0] 39) = w0 at *
  refine (numbers_R g s [99] l n _ HR.out HE.out hs (by omega)).mono ?_
  rintro e w1 ⟨hk1, hm⟩
  have HK1 := Lib.hid (HK.out.trans hk1)
  have HZ1 := Lib.hid (hk1.blk HZ.out (by omega))
  have hs1 := hk1.size
  clear hk1
  cases hN : numsP [99] n s l with
  | bad kk cc x =>
    rw [hN] at hm
    simp only [] at hm
    subst hm
    have HN := Lib.hid hN
    clear hN
    go_wp2_with fail
    exact ⟨rfl, HK1.out, by unfold setP; rw [HN.out]; rfl⟩
  | ok xc s1 l1 =>
    rw [hN] at hm
    obtain ⟨u, rfl, hr, A, c, us, rfl, hy⟩ := hm
    have HN := Lib.hid hN
    have HS1 := Lib.hid (show l1 + s1.length ≤ 1000000 by have := nums_lens HN.out; omega)
    have HY := Lib.hid (Ly.int (hy.imp (fun _ hh => hh.sl)))
    have HR1 := Lib.hid (show Rd g s1 l1 (w1.alloc (.cells #[.slice A xc.length c, .slice none 0 0, .slice none 0 0] 39)) from hr.alloc _)
    have hb2 := ballo w1 (.cells #[.slice A xc.length c, .slice none 0 0, .slice none 0 0] 39)
    have HK2 := Lib.hid (HK1.out.trans (KR.of hb2))
    have HE2 := Lib.hid (HE.out.next (show Below g w0 _ from ⟨hb2.os.trans (HK1.out.os.trans HK.out.os.symm), hb2.tape.trans (HK1.out.tape.trans HK.out.tape.symm), hb2.output.trans (HK1.out.output.trans HK.out.output.symm), Nat.le_trans hs1 hb2.size, fun b hb => (hb2.block b (by omega)).trans ((HK1.out.block b (by omega) (by omega)).trans (HK.out.block b (by omega) (by omega)).symm)⟩))
    have HZ2 := Lib.hid (HZ1.out.below hb2 HZ1.out.lt)
    have HY2 := Lib.hid (HY.out.below hb2 (Nat.le_refl _))
    have HF2 := Lib.hid (Blk.new w1 39 #[.slice A xc.length c, .slice none 0 0, .slice none 0 0])
    have hs2 : (w1.alloc (.cells #[.slice A xc.length c, .slice none 0 0, .slice none 0 0] 39)).heap.size = w1.heap.size + 1 := by simp
    clear hN hr hy hb2 HR HE HK HZ HZ1 HY HK1
    go_wp2_with fail
    generalize w1.alloc (.cells #[.slice A xc.length c, .slice none 0 0, .slice none 0 0] 39) = w2 at *
    generalize hgf : w1.heap.size = gf at *
    clear hgf w1
    refine (rows_any g s1 [97] l1 n _ HR1.out HE2.out HS1.out (by omega)).mono ?_
    rintro e w3 ⟨hk3, hm⟩
    have hs3 := hk3.size
    have HK3 := Lib.hid (HK2.out.trans hk3)
    have HE3 := Lib.hid (HE2.out.next (hk3.below (by omega)))
    have HZ3 := Lib.hid (hk3.blk HZ2.out (by omega))
    have HF3 := Lib.hid (hk3.blk HF2.out (by omega))
    have HY3 := Lib.hid (HY2.out.kr hk3 (by omega) (by omega))
    clear hk3 HK2 HE2 HZ2 HF2 HY2 HR1
    cases hN : rowsP [97] n n s1 l1 with
    | bad kk cc x =>
      rw [hN] at hm
      simp only [] at hm
      subst hm
      have HN' := Lib.hid hN
      clear hN
      go_wp2_with fail
      exact ⟨rfl, HK3.out, by unfold setP; rw [HN.out, bind_ok, HN'.out]; rfl⟩
    | ok xa s2 l2 =>
      rw [hN] at hm
      obtain ⟨u, rfl, hr, A', c', rfl, hy⟩ := hm
      have HN' := Lib.hid hN
      have HS2 := Lib.hid (show l2 + s2.length ≤ 1000000 by have := rows_lens HN'.out; have := HS1.out; omega)
      have HYa := Lib.hid (Ly.int hy)
      have q1 : w3.cell? ⟨gf, 1, none⟩ = some (.slice none 0 0) := by rw [Blk.cell HF3.out]; rfl
      have f1 : w3.frozen? ⟨gf, 1, none⟩ = false := HF3.out.frozen 1
      have HF4 := Lib.hid (HF3.out.set_ 1 (.slice A' xa.length c'))
      have HZ4 := Lib.hid (HZ3.out.far (p := ⟨gf, 1, none⟩) (show w.heap.size ≠ gf by omega) (.slice A' xa.length c'))
      have HR4 := Lib.hid (show Rd g s2 l2 (w3.setCell ⟨gf, 1, none⟩ (.slice A' xa.length c')) from hr.far (p := ⟨gf, 1, none⟩) (show g ≠ gf by omega) _)
      have HK4 := Lib.hid (HK3.out.setNew (b := gf) (i := 1) (by omega) (.slice A' xa.length c'))
      have HE4 := Lib.hid (HE3.out.next ((Below.refl g w3).setCell (p := ⟨gf, 1, none⟩) (show g ≤ gf by omega) (.slice A' xa.length c')))
      have HY4 := Lib.hid (HY3.out.set (b := gf) (i := 1) (v := .slice A' xa.length c') (.inr (by omega)))
      have HYa4 := Lib.hid (HYa.out.set (b := gf) (i := 1) (v := .slice A' xa.length c') (.inl (by omega)))
      have hs4 := setCell_size w3 ⟨gf, 1, none⟩ (.slice A' xa.length c')
      clear hN hr hy HF3 HZ3 HK3 HE3 HY3 HYa
      go_wp2_with fail
      clear q1 f1
      generalize w3.setCell ⟨gf, 1, none⟩ (.slice A' xa.length c') = w4 at *
      refine (intervals_any g s2 [114] l2 n _ HR4.out HE4.out HS2.out (by omega)).mono ?_
      rintro e w5 ⟨hk5, hm⟩
      have hs5 := hk5.size
      have HK5 := Lib.hid (HK4.out.trans hk5)
      have HZ5 := Lib.hid (hk5.blk HZ4.out (by omega))
      have HF5 := Lib.hid (hk5.blk HF4.out (by omega))
      have HY5 := Lib.hid (HY4.out.kr hk5 (by omega) (by omega))
      have HYa5 := Lib.hid (HYa4.out.kr hk5 (by omega) (by omega))
      clear hk5 HK4 HE4 HZ4 HF4 HY4 HYa4 HR4
      cases hN : ivsP [114] n s2 l2 with
      | bad kk cc x =>
        rw [hN] at hm
        simp only [] at hm
        subst hm
        have HN'' := Lib.hid hN
        clear hN
        go_wp2_with fail
        exact ⟨rfl, HK5.out, by unfold setP; rw [HN.out, bind_ok, HN'.out, bind_ok, HN''.out]; rfl⟩
      | ok xr s3 l3 =>
        rw [hN] at hm
        obtain ⟨u, rfl, hr, A'', c'', rfl, hy⟩ := hm
        have HN'' := Lib.hid hN
        have HYr := Lib.hid (Ly.int hy)
        have q2 : w5.cell? ⟨gf, 2, none⟩ = some (.slice none 0 0) := by rw [Blk.cell HF5.out]; rfl
        have f2 : w5.frozen? ⟨gf, 2, none⟩ = false := HF5.out.frozen 2
        have HF6 := Lib.hid (HF5.out.set_ 2 (.slice A'' xr.length c''))
        have HZ6 := Lib.hid (HZ5.out.far (p := ⟨gf, 2, none⟩) (show w.heap.size ≠ gf by omega) (.slice A'' xr.length c''))
        have HR6 := Lib.hid (show Rd g s3 l3 (w5.setCell ⟨gf, 2, none⟩ (.slice A'' xr.length c'')) from hr.far (p := ⟨gf, 2, none⟩) (show g ≠ gf by omega) _)
        have HK6 := Lib.hid (HK5.out.setNew (b := gf) (i := 2) (by omega) (.slice A'' xr.length c''))
        have HY6 := Lib.hid (HY5.out.set (b := gf) (i := 2) (v := .slice A'' xr.length c'') (.inr (by omega)))
        have HYa6 := Lib.hid (HYa5.out.set (b := gf) (i := 2) (v := .slice A'' xr.length c'') (.inl (by omega)))
        have HYr6 := Lib.hid (HYr.out.set (b := gf) (i := 2) (v := .slice A'' xr.length c'') (.inl (by omega)))
        have hs6 := setCell_size w5 ⟨gf, 2, none⟩ (.slice A'' xr.length c'')
        clear hN hr hy HF5 HZ5 HK5 HY5 HYa5 HYr
        have HX : Hid (setP n s l = .ok ⟨xc, xa, xr⟩ s3 l3) := by show _ = _; unfold setP; rw [HN.out, bind_ok, HN'.out, bind_ok, HN''.out]; rfl
        have p0 : (w5.setCell ⟨gf, 2, none⟩ (.slice A'' xr.length c'')).cell? ⟨gf, 0, none⟩ = some (.slice A xc.length c) := by rw [Blk.cell HF6.out]; rfl
        have p1 : (w5.setCell ⟨gf, 2, none⟩ (.slice A'' xr.length c'')).cell? ⟨gf, 1, none⟩ = some (.slice A' xa.length c') := by rw [Blk.cell HF6.out]; rfl
        have p2 : (w5.setCell ⟨gf, 2, none⟩ (.slice A'' xr.length c'')).cell? ⟨gf, 2, none⟩ = some (.slice A'' xr.length c'') := by rw [Blk.cell HF6.out]; rfl
        obtain ⟨z0, z1, z2⟩ := HZ6.out.cells3
        have y0 := HZ6.out.frozen 0
        have y1 := HZ6.out.frozen 1
        have y2 := HZ6.out.frozen 2
        go_wp2_with fail
        generalize w5.setCell ⟨gf, 2, none⟩ (.slice A'' xr.length c'') = w6 at *
        have HZ7 := Lib.hid (HZ6.out.set3 (.slice A xc.length c) (.slice A' xa.length c') (.slice A'' xr.length c''))
        refine bodyPost_ret (resF Tryz.results146 (by rfl) HZ7.out) rfl ⟨((HK6.out.setNew (b := w.heap.size) (Nat.le_refl _) _).setNew (b := w.heap.size) (Nat.le_refl _) _).setNew (b := w.heap.size) (Nat.le_refl _) _, ?_⟩
        rw [HX.out]
        have hL := fun (P : World → Prop) (B E : Nat) (hP : LyI B E w6 P) (hB : w.heap.size < B) => ((hP.set (b := w.heap.size) (i := 0) (v := .slice A xc.length c) (.inl hB)).set (b := w.heap.size) (i := 1) (v := .slice A' xa.length c') (.inl hB)).set (b := w.heap.size) (i := 2) (v := .slice A'' xr.length c'') (.inl hB)
        refine ⟨_, rfl, ?_, _, _, _, _, _, _, _, _, _, rfl, ?_⟩
        · exact ((HR6.out.far (p := ⟨w.heap.size, 0, none⟩) (show g ≠ w.heap.size by omega) _).far (p := ⟨w.heap.size, 1, none⟩) (show g ≠ w.heap.size by omega) _).far (p := ⟨w.heap.size, 2, none⟩) (show g ≠ w.heap.size by omega) _
        · refine (((hL _ _ _ HY6.out (by omega)).ly (lo := w.heap.size) (by omega) (by simp only [setCell_size]; omega)).and (((hL _ _ _ HYa6.out (by omega)).ly (lo := w.heap.size) (by omega) (by simp only [setCell_size]; omega)).and ((hL _ _ _ HYr6.out (by omega)).ly (lo := w.heap.size) (by omega) (by simp only [setCell_size]; omega)))).imp ?_
          rintro W ⟨h1, h2, h3⟩
          exact ⟨_, _, _, _, _, _, _, _, _, rfl, h1, h2, h3⟩

end Go.Proofs.YtekajoifgdpmlaaGreatDoor
