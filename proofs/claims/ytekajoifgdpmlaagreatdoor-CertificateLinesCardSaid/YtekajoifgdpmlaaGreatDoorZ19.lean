/- Bundle 19: what the laws' walks stand on: I3. -/
import Derived.Test.YtekajoifgdpmlaaGreatDoorZ18
/-! I3 -/
namespace Go.Proofs.YtekajoifgdpmlaaGreatDoor
open Go.RowKit Pl Go.Shelf

theorem int_lens {t : List UInt8} {lo hi : Int} {s : List UInt8} {l : Nat} {v : Int} {r : List UInt8} {l' : Nat} (h : intR t lo hi s l = .ok v r l') : s = r ∧ l = l' ∧ lo ≤ v ∧ v ≤ hi := by
  obtain ⟨_, h1, h2, h3, h4⟩ := int_spec h
  exact ⟨h3.symm, h4.symm, h1, h2⟩
theorem linksP_step {n j : Nat} {s : List UInt8} {l : Nat} {xs : List Lk} {d : Lk} {s2 : List UInt8} {l2 : Nat} (h : linkP n s l = .ok d s2 l2) :
    (linksP n (j + 1) s l).bind (fun r s l => .ok (xs ++ r) s l) = (linksP n j s2 l2).bind (fun r s l => .ok ((xs ++ [d]) ++ r) s l) := by
  rw [linksP, h, bind_ok, bind_bind]
  congr 1
  funext r s l
  simp [bind_ok]
theorem linksP_bad {n j : Nat} {s : List UInt8} {l : Nat} {xs : List Lk} {k c e : Int} (h : linkP n s l = .bad k c e) :
    (linksP n (j + 1) s l).bind (fun r s l => .ok (xs ++ r) s l) = .bad k c e := by
  rw [linksP, h, bind_bad, bind_bad]
theorem infoL : (Tryz.prog.info? 98).map (fun i => (i.zero, i.size, i.bytes)) = some (some (.agg #[.bool false, .slice none 0 0, .int .i64 0, .slice none 0 0, .slice none 0 0, .slice none 0 0, .slice none 0 0, .slice none 0 0]), 8, 160) := by kernel_rfl
/-- What certificate hands back. -/
def VC (B : Nat) (x : Ct) (u : Value) (w' : World) : Prop := ∃ vs, u = .agg vs.toArray ∧ Ly B w' (fun W => RC W vs x)
/-- Four parts of a line in memory. -/
def Four (b off : Nat) (t0 t1 t2 t3 : List UInt8) (W : World) : Prop := W.cell? ⟨b, off, none⟩ = some (.string ⟨t0.toArray⟩) ∧ W.cell? ⟨b, off + 1, none⟩ = some (.string ⟨t1.toArray⟩) ∧ W.cell? ⟨b, off + 2, none⟩ = some (.string ⟨t2.toArray⟩) ∧ W.cell? ⟨b, off + 3, none⟩ = some (.string ⟨t3.toArray⟩)
theorem four_of {B : Nat} {w : World} {A : Option Addr} {c : Nat} {t0 t1 t2 t3 : List UInt8} (h : Ly B w (fun W => Sl 1 RS W A 4 c [t0, t1, t2, t3])) : ∃ b off, A = some ⟨b, off, none⟩ ∧ Ly B w (Four b off t0 t1 t2 t3) := by
  obtain ⟨b, off, rfl, _, _⟩ := h.here.at_ (by omega)
  refine ⟨b, off, rfl, h.imp (fun W hW => ?_)⟩
  have key : ∀ (j : Nat) (t : List UInt8), [t0, t1, t2, t3][j]? = some t → j < 4 → W.cell? ⟨b, off + j, none⟩ = some (.string ⟨t.toArray⟩) := by
    intro j t ht hj
    obtain ⟨x, vs, _, hx, hv, hr, hc⟩ := hW.get' hj
    rw [ht] at hx
    injection hx with hx
    subst hx
    unfold RS at hr
    subst hr
    have := hc 0 _ rfl
    simpa using this
  exact ⟨key 0 t0 rfl (by omega), key 1 t1 rfl (by omega), key 2 t2 rfl (by omega), key 3 t3 rfl (by omega)⟩
theorem resC {fn : Func} {k : Nat} (h : fn.results = #[.cell k 42]) {tmps : Array Value} {W : World} {g : Nat} {t : TypeId} {x0 x1 x2 x3 x4 x5 : Value} (hk : tmps.getD k undef = .pointer (some ⟨g, 0, none⟩)) (hB : Blk W g t #[x0, x1, x2, x3, x4, x5]) :
    (results fn tmps).run Tryz.prog W = .ok (.agg #[x0, x1, x2, x3, x4, x5]) W := by
  have c0 := hB.cell 0
  have c1 := hB.cell 1
  have c2 := hB.cell 2
  have c3 := hB.cell 3
  have c4 := hB.cell 4
  have c5 := hB.cell 5
  simp at c0 c1 c2 c3 c4 c5
  have hk' : tmps[k]?.getD undef = .pointer (some ⟨g, 0, none⟩) := by simpa using hk
  simp [results, h, hk', go_sem, c0, c1, c2, c3, c4, c5]

theorem rf_parts {W : World} {A B C : Option Addr} {n c m d p q : Nat} {f : Fr} (h : RF W [.slice A n c, .slice B m d, .slice C p q] f) : Sl 3 RD W A n c f.c ∧ Sl 1 RM W B m d f.a ∧ Sl 7 RI W C p q f.r := by
  obtain ⟨A', n', c', B', m', d', C', p', q', e, h1, h2, h3⟩ := h
  simp at e
  obtain ⟨⟨rfl, rfl, rfl⟩, ⟨rfl, rfl, rfl⟩, rfl, rfl, rfl⟩ := e
  exact ⟨h1, h2, h3⟩
/-- One number in a slice. -/
theorem one_of {B : Nat} {w : World} {A : Option Addr} {c : Nat} {us : List (List Value)} {d : Dy} (h : Ly B w (fun W => SlU 3 RD W A 1 c us [d])) : ∃ b off A' n' c', A = some ⟨b, off, none⟩ ∧ Ly B w (fun W => SL W A' n' c' d.l ∧ W.cell? ⟨b, off, none⟩ = some (.bool d.neg) ∧ W.cell? ⟨b, off + 1, none⟩ = some (.slice A' n' c') ∧ W.cell? ⟨b, off + 2, none⟩ = some (.int .i64 d.e)) := by
  obtain ⟨b, off, rfl, _⟩ := h.here.cell (by omega)
  have hul := h.here.ulen
  match us, hul with
  | [u], _ =>
    obtain ⟨A', n', c', rfl, _⟩ := h.here.each 0 _ _ rfl rfl
    refine ⟨b, off, A', n', c', rfl, h.imp (fun W hW => ?_)⟩
    obtain ⟨b', off', e, hc⟩ := hW.cell (by omega)
    injection e with e
    injection e with e1 e2
    subst e1 e2
    obtain ⟨A2, n2, c2, e, hs⟩ := hW.each 0 _ _ rfl rfl
    simp at e
    obtain ⟨rfl, rfl, rfl⟩ := e
    have k0 := hc 0 _ rfl 0 _ rfl
    have k1 := hc 0 _ rfl 1 _ rfl
    have k2 := hc 0 _ rfl 2 _ rfl
    simp at k0 k1 k2
    exact ⟨hs, k0, k1, k2⟩

set_option maxRecDepth 100000 in
set_option maxHeartbeats 8000000 in
theorem certificate_any (g : Nat) (s : List UInt8) (l : Nat) (w : World) (h : Rd g s l w) (he : Ev g w) (hs : l + s.length ≤ 1000000) :
    Calls Tryz.prog 89 #[.pointer (some ⟨g, 0, none⟩)] w (Reads g (certP s l) (VC w.heap.size) w) := by
  have hgl := h.lt
  have hb0 := bnext (ballo w (.cells #[.int .i64 0, .int .i64 0, .slice none 0 0, .slice none 0 0, .slice none 0 0, .slice none 0 0] 42)) (ballo (w.alloc (.cells #[.int .i64 0, .int .i64 0, .slice none 0 0, .slice none 0 0, .slice none 0 0, .slice none 0 0] 42)) (.cells #[.int .i64 0, .int .i64 0, .slice none 0 0, .slice none 0 0, .slice none 0 0, .slice none 0 0] 42))
  have HRd : Hid (Rd g s l ((w.alloc (.cells #[.int .i64 0, .int .i64 0, .slice none 0 0, .slice none 0 0, .slice none 0 0, .slice none 0 0] 42)).alloc (.cells #[.int .i64 0, .int .i64 0, .slice none 0 0, .slice none 0 0, .slice none 0 0, .slice none 0 0] 42))) := (h.alloc _).alloc _
  have HK := Lib.hid (KR.of (g := g) hb0)
  have HE := Lib.hid (he.next (HK.out.below (Nat.le_of_lt hgl)))
  have HZ := Lib.hid ((Blk.new w 42 #[.int .i64 0, .int .i64 0, .slice none 0 0, .slice none 0 0, .slice none 0 0, .slice none 0 0]).alloc (.cells #[.int .i64 0, .int .i64 0, .slice none 0 0, .slice none 0 0, .slice none 0 0, .slice none 0 0] 42))
  have HC := Lib.hid (Blk.newAt (w.alloc (.cells #[.int .i64 0, .int .i64 0, .slice none 0 0, .slice none 0 0, .slice none 0 0, .slice none 0 0] 42)) 42 #[.int .i64 0, .int .i64 0, .slice none 0 0, .slice none 0 0, .slice none 0 0, .slice none 0 0] (g := w.heap.size + 1) (by simp))
  have hs0 : ((w.alloc (.cells #[.int .i64 0, .int .i64 0, .slice none 0 0, .slice none 0 0, .slice none 0 0, .slice none 0 0] 42)).alloc (.cells #[.int .i64 0, .int .i64 0, .slice none 0 0, .slice none 0 0, .slice none 0 0, .slice none 0 0] 42)).heap.size = w.heap.size + 2 := by simp
  clear h he hb0
  go_enter Tryz.func89, Tryz.ntmps89
  go_wp2_with fail
  generalize ((w.alloc (.cells #[.int .i64 0, .int .i64 0, .slice none 0 0, .slice none 0 0, .slice none 0 0, .slice none 0 0] 42)).alloc (.cells #[.int .i64 0, .int .i64 0, .slice none 0 0, .slice none 0 0, .slice none 0 0, .slice none 0 0] 42)) = w0 at *
  generalize hgr : w.heap.size = gr at *
  generalize hgc : gr + 1 = gc at *
  refine (next_any g s certW l 4 _ HRd.out HE.out (by omega) (by omega) (by omega)).mono ?_
  rintro e w1 ⟨hk, hm⟩
  have hsz := hk.size
  replace HK := Lib.hid (HK.out.trans hk)
  replace HE := Lib.hid (HE.out.next (hk.below (by omega)))
  replace HZ := Lib.hid (hk.blk HZ.out (by omega))
  replace HC := Lib.hid (hk.blk HC.out (by omega))
  clear hk
  cases hN : nextP certW 4 s l with
  | bad kk cc x =>
    rw [hN] at hm
    simp only [] at hm
    subst hm
    have HX := Lib.hid hN
    clear hN
    go_wp2_with fail
    exact ⟨rfl, HK.out, by unfold certP; rw [HX.out]; rfl⟩
  | ok p s1 l1 =>
    rw [hN] at hm
    obtain ⟨u, rfl, hr, A, c, rfl, hy⟩ := hm
    replace HRd := Lib.hid hr
    have HN0 := Lib.hid hN
    have hpl := (next_spec hN).2.1
    have hl1 := (next_lens hN).1
    have HTL := Lib.hid (next_lens hN).2
    clear hN hr
    match p, hpl, HN0, HTL, hy with
    | [t0, t1, t2, t3], _, HN0, HTL, hy =>
    obtain ⟨b, off, rfl, hf⟩ := four_of hy
    have HF := Lib.hid (Ly.int hf)
    have hT0 : t0.length ≤ 1000000 := by have := HTL.out t0 (by simp); omega
    have hT1 : t1.length ≤ 1000000 := by have := HTL.out t1 (by simp); omega
    have hT2 : t2.length ≤ 1000000 := by have := HTL.out t2 (by simp); omega
    have hT3 : t3.length ≤ 1000000 := by have := HTL.out t3 (by simp); omega
    have HL4 : Hid ([t0, t1, t2, t3].length = 4) := rfl
    clear hf hy HTL
    generalize [t0, t1, t2, t3].length = n4 at *
    obtain rfl : n4 = 4 := HL4.out
    obtain ⟨q0, q1, q2, q3⟩ := HF.out w1 (by omega) (fun _ _ _ => rfl)
    go_wp2_with fail
    clear q0 q1 q2 q3
    refine (integer_any g s1 t0 l1 8 256 _ HRd.out HE.out hT0).mono ?_
    rintro e wi0 ⟨hk, hm⟩
    have hsz := hk.size
    replace HK := Lib.hid (HK.out.trans hk)
    replace HE := Lib.hid (HE.out.next (hk.below (by omega)))
    replace HZ := Lib.hid (hk.blk HZ.out (by omega))
    replace HC := Lib.hid (hk.blk HC.out (by omega))
    replace HF := Lib.hid (HF.out.kr hk (by omega) (by omega))
    clear hk
    cases hN : intR t0 8 256 s1 l1 with
    | bad kk cc x =>
      rw [hN] at hm
      simp only [] at hm
      subst hm
      have HX := Lib.hid hN
      clear hN
      go_wp2_with fail
      exact ⟨rfl, HK.out, by unfold certP; rw [HN0.out, bind_ok, show [t0, t1, t2, t3].getD 0 [] = t0 from rfl, HX.out]; rfl⟩
    | ok v0 s1x l1x =>
    obtain ⟨rfl, rfl, hlo0, hhi0⟩ := int_lens hN
    rw [hN] at hm
    obtain ⟨u, rfl, hr, rfl⟩ := hm
    replace HRd := Lib.hid hr
    have HI0 := Lib.hid hN
    clear hN hr
    have c0 : wi0.cell? ⟨gc, 0, none⟩ = some (.int .i64 0) := by rw [Blk.cell HC.out]; rfl
    have f0 : wi0.frozen? ⟨gc, 0, none⟩ = false := HC.out.frozen 0
    replace HRd := Lib.hid (show Rd g _ _ (wi0.setCell ⟨gc, 0, none⟩ (.int .i64 v0)) from HRd.out.far (p := ⟨gc, 0, none⟩) (show g ≠ gc by omega) (.int .i64 v0))
    replace HK := Lib.hid (HK.out.setNew (b := gc) (i := 0) (by omega) (.int .i64 v0))
    replace HE := Lib.hid (HE.out.next ((Below.refl g wi0).setCell (p := ⟨gc, 0, none⟩) (show g ≤ gc by omega) (.int .i64 v0)))
    replace HZ := Lib.hid (HZ.out.far (p := ⟨gc, 0, none⟩) (show gr ≠ gc by omega) (.int .i64 v0))
    replace HC : Hid (Blk (wi0.setCell ⟨gc, 0, none⟩ (.int .i64 v0)) gc 42 #[.int .i64 v0, .int .i64 0, .slice none 0 0, .slice none 0 0, .slice none 0 0, .slice none 0 0]) := HC.out.set_ 0 (.int .i64 v0)
    replace HF := Lib.hid (HF.out.set (b := gc) (i := 0) (v := .int .i64 v0) (by omega))
    have hss := Nat.le_of_eq (setCell_size wi0 ⟨gc, 0, none⟩ (.int .i64 v0))
    have hst := Nat.le_of_eq (setCell_size wi0 ⟨gc, 0, none⟩ (.int .i64 v0)).symm
    obtain ⟨q0, q1, q2, q3⟩ := HF.out (wi0.setCell ⟨gc, 0, none⟩ (.int .i64 v0)) (by omega) (fun _ _ _ => rfl)
    go_wp2_with fail
    clear q0 q1 q2 q3 c0 f0
    generalize (wi0.setCell ⟨gc, 0, none⟩ (.int .i64 v0)) = ws0 at *
    refine (integer_any g s1 t1 l1 1 15 _ HRd.out HE.out hT1).mono ?_
    rintro e wi1 ⟨hk, hm⟩
    have hsz := hk.size
    replace HK := Lib.hid (HK.out.trans hk)
    replace HE := Lib.hid (HE.out.next (hk.below (by omega)))
    replace HZ := Lib.hid (hk.blk HZ.out (by omega))
    replace HC := Lib.hid (hk.blk HC.out (by omega))
    replace HF := Lib.hid (HF.out.kr hk (by omega) (by omega))
    clear hk
    cases hN : intR t1 1 15 s1 l1 with
    | bad kk cc x =>
      rw [hN] at hm
      simp only [] at hm
      subst hm
      have HX := Lib.hid hN
      clear hN
      go_wp2_with fail
      exact ⟨rfl, HK.out, by unfold certP; rw [HN0.out, bind_ok, show [t0, t1, t2, t3].getD 0 [] = t0 from rfl, HI0.out, bind_ok, show [t0, t1, t2, t3].getD 1 [] = t1 from rfl, HX.out]; rfl⟩
    | ok v1 s1x l1x =>
    obtain ⟨rfl, rfl, hlo1, hhi1⟩ := int_lens hN
    rw [hN] at hm
    obtain ⟨u, rfl, hr, rfl⟩ := hm
    replace HRd := Lib.hid hr
    have HI1 := Lib.hid hN
    clear hN hr
    have c1 : wi1.cell? ⟨gc, 1, none⟩ = some (.int .i64 0) := by rw [Blk.cell HC.out]; rfl
    have f1 : wi1.frozen? ⟨gc, 1, none⟩ = false := HC.out.frozen 1
    replace HRd := Lib.hid (show Rd g _ _ (wi1.setCell ⟨gc, 1, none⟩ (.int .i64 v1)) from HRd.out.far (p := ⟨gc, 1, none⟩) (show g ≠ gc by omega) (.int .i64 v1))
    replace HK := Lib.hid (HK.out.setNew (b := gc) (i := 1) (by omega) (.int .i64 v1))
    replace HE := Lib.hid (HE.out.next ((Below.refl g wi1).setCell (p := ⟨gc, 1, none⟩) (show g ≤ gc by omega) (.int .i64 v1)))
    replace HZ := Lib.hid (HZ.out.far (p := ⟨gc, 1, none⟩) (show gr ≠ gc by omega) (.int .i64 v1))
    replace HC : Hid (Blk (wi1.setCell ⟨gc, 1, none⟩ (.int .i64 v1)) gc 42 #[.int .i64 v0, .int .i64 v1, .slice none 0 0, .slice none 0 0, .slice none 0 0, .slice none 0 0]) := HC.out.set_ 1 (.int .i64 v1)
    replace HF := Lib.hid (HF.out.set (b := gc) (i := 1) (v := .int .i64 v1) (by omega))
    have hss := Nat.le_of_eq (setCell_size wi1 ⟨gc, 1, none⟩ (.int .i64 v1))
    have hst := Nat.le_of_eq (setCell_size wi1 ⟨gc, 1, none⟩ (.int .i64 v1)).symm
    obtain ⟨q0, q1, q2, q3⟩ := HF.out (wi1.setCell ⟨gc, 1, none⟩ (.int .i64 v1)) (by omega) (fun _ _ _ => rfl)
    go_wp2_with fail
    clear q0 q1 q2 q3 c1 f1
    generalize (wi1.setCell ⟨gc, 1, none⟩ (.int .i64 v1)) = ws1 at *
    refine (integer_any g s1 t2 l1 1 4 _ HRd.out HE.out hT2).mono ?_
    rintro e wi2 ⟨hk, hm⟩
    have hsz := hk.size
    replace HK := Lib.hid (HK.out.trans hk)
    replace HE := Lib.hid (HE.out.next (hk.below (by omega)))
    replace HZ := Lib.hid (hk.blk HZ.out (by omega))
    replace HC := Lib.hid (hk.blk HC.out (by omega))
    replace HF := Lib.hid (HF.out.kr hk (by omega) (by omega))
    clear hk
    cases hN : intR t2 1 4 s1 l1 with
    | bad kk cc x =>
      rw [hN] at hm
      simp only [] at hm
      subst hm
      have HX := Lib.hid hN
      clear hN
      go_wp2_with fail
      exact ⟨rfl, HK.out, by unfold certP; rw [HN0.out, bind_ok, show [t0, t1, t2, t3].getD 0 [] = t0 from rfl, HI0.out, bind_ok, show [t0, t1, t2, t3].getD 1 [] = t1 from rfl, HI1.out, bind_ok, show [t0, t1, t2, t3].getD 2 [] = t2 from rfl, HX.out]; rfl⟩
    | ok v2 s1x l1x =>
    obtain ⟨rfl, rfl, hlo2, hhi2⟩ := int_lens hN
    rw [hN] at hm
    obtain ⟨u, rfl, hr, rfl⟩ := hm
    replace HRd := Lib.hid hr
    have HI2 := Lib.hid hN
    clear hN hr
    obtain ⟨q0, q1, q2, q3⟩ := HF.out wi2 (by omega) (fun _ _ _ => rfl)
    go_wp2_with fail
    clear q0 q1 q2 q3
    refine (integer_any g s1 t3 l1 0 1000 _ HRd.out HE.out hT3).mono ?_
    rintro e wi3 ⟨hk, hm⟩
    have hsz := hk.size
    replace HK := Lib.hid (HK.out.trans hk)
    replace HE := Lib.hid (HE.out.next (hk.below (by omega)))
    replace HZ := Lib.hid (hk.blk HZ.out (by omega))
    replace HC := Lib.hid (hk.blk HC.out (by omega))
    replace HF := Lib.hid (HF.out.kr hk (by omega) (by omega))
    clear hk
    cases hN : intR t3 0 1000 s1 l1 with
    | bad kk cc x =>
      rw [hN] at hm
      simp only [] at hm
      subst hm
      have HX := Lib.hid hN
      clear hN
      go_wp2_with fail
      exact ⟨rfl, HK.out, by unfold certP; rw [HN0.out, bind_ok, show [t0, t1, t2, t3].getD 0 [] = t0 from rfl, HI0.out, bind_ok, show [t0, t1, t2, t3].getD 1 [] = t1 from rfl, HI1.out, bind_ok, show [t0, t1, t2, t3].getD 2 [] = t2 from rfl, HI2.out, bind_ok, show [t0, t1, t2, t3].getD 3 [] = t3 from rfl, HX.out]; rfl⟩
    | ok v3 s1x l1x =>
    obtain ⟨rfl, rfl, hlo3, hhi3⟩ := int_lens hN
    rw [hN] at hm
    obtain ⟨u, rfl, hr, rfl⟩ := hm
    replace HRd := Lib.hid hr
    have HI3 := Lib.hid hN
    clear hN hr
    obtain ⟨n, rfl⟩ : ∃ n : Nat, v2 = (n : Int) := ⟨v2.toNat, by omega⟩
    obtain ⟨K, rfl⟩ : ∃ K : Nat, v3 = (K : Int) := ⟨v3.toNat, by omega⟩
    clear HF
    go_wp2_with fail
    refine (set_any g s1 l1 n _ HRd.out HE.out (by omega) (by omega)).mono ?_
    rintro e w2 ⟨hk, hm⟩
    have hsz := hk.size
    replace HK := Lib.hid (HK.out.trans hk)
    replace HE := Lib.hid (HE.out.next (hk.below (by omega)))
    replace HZ := Lib.hid (hk.blk HZ.out (by omega))
    replace HC := Lib.hid (hk.blk HC.out (by omega))
    clear hk
    cases hN : setP n s1 l1 with
    | bad kk cc x =>
      rw [hN] at hm
      simp only [] at hm
      subst hm
      have HX := Lib.hid hN
      clear hN
      go_wp2_with fail
      exact ⟨rfl, HK.out, by unfold certP; rw [HN0.out, bind_ok, show [t0, t1, t2, t3].getD 0 [] = t0 from rfl, HI0.out, bind_ok, show [t0, t1, t2, t3].getD 1 [] = t1 from rfl, HI1.out, bind_ok, show [t0, t1, t2, t3].getD 2 [] = t2 from rfl, HI2.out, bind_ok, show [t0, t1, t2, t3].getD 3 [] = t3 from rfl, HI3.out, bind_ok, Int.toNat_natCast, Int.toNat_natCast, HX.out]; rfl⟩
    | ok st s2 l2 =>
    rw [hN] at hm
    obtain ⟨u, rfl, hr, SA, sn, sc, SB, sm, sd, SC, sp, sq, rfl, hy⟩ := hm
    replace HRd := Lib.hid hr
    have HSt := Lib.hid hN
    have hl2 : l2 + s2.length ≤ 1000000 := by have := set_lens hN; omega
    have HS := Lib.hid (Ly.int (hy.imp (fun _ hh => rf_parts hh)))
    clear hN hr hy
    have c0 : w2.cell? ⟨gc, 2, none⟩ = some (.slice none 0 0) := by rw [Blk.cell HC.out]; rfl
    have f0 : w2.frozen? ⟨gc, 2, none⟩ = false := HC.out.frozen 2
    have c1 : w2.cell? ⟨gc, 3, none⟩ = some (.slice none 0 0) := by rw [Blk.cell HC.out]; rfl
    have f1 : w2.frozen? ⟨gc, 3, none⟩ = false := HC.out.frozen 3
    have c2 : w2.cell? ⟨gc, 4, none⟩ = some (.slice none 0 0) := by rw [Blk.cell HC.out]; rfl
    have f2 : w2.frozen? ⟨gc, 4, none⟩ = false := HC.out.frozen 4
    replace HRd := Lib.hid (show Rd g _ _ (w2.setCell ⟨gc, 2, none⟩ (.slice SA sn sc)) from HRd.out.far (p := ⟨gc, 2, none⟩) (show g ≠ gc by omega) (.slice SA sn sc))
    replace HK := Lib.hid (HK.out.setNew (b := gc) (i := 2) (by omega) (.slice SA sn sc))
    replace HE := Lib.hid (HE.out.next ((Below.refl g w2).setCell (p := ⟨gc, 2, none⟩) (show g ≤ gc by omega) (.slice SA sn sc)))
    replace HZ := Lib.hid (HZ.out.far (p := ⟨gc, 2, none⟩) (show gr ≠ gc by omega) (.slice SA sn sc))
    replace HC : Hid (Blk (w2.setCell ⟨gc, 2, none⟩ (.slice SA sn sc)) gc 42 #[.int .i64 v0, .int .i64 v1, .slice SA sn sc, .slice none 0 0, .slice none 0 0, .slice none 0 0]) := HC.out.set_ 2 (.slice SA sn sc)
    replace HS := Lib.hid (HS.out.set (b := gc) (i := 2) (v := .slice SA sn sc) (by omega))
    have hss := Nat.le_of_eq (setCell_size w2 ⟨gc, 2, none⟩ (.slice SA sn sc))
    have hst := Nat.le_of_eq (setCell_size w2 ⟨gc, 2, none⟩ (.slice SA sn sc)).symm
    replace HRd := Lib.hid (show Rd g _ _ ((w2.setCell ⟨gc, 2, none⟩ (.slice SA sn sc)).setCell ⟨gc, 3, none⟩ (.slice SB sm sd)) from HRd.out.far (p := ⟨gc, 3, none⟩) (show g ≠ gc by omega) (.slice SB sm sd))
    replace HK := Lib.hid (HK.out.setNew (b := gc) (i := 3) (by omega) (.slice SB sm sd))
    replace HE := Lib.hid (HE.out.next ((Below.refl g (w2.setCell ⟨gc, 2, none⟩ (.slice SA sn sc))).setCell (p := ⟨gc, 3, none⟩) (show g ≤ gc by omega) (.slice SB sm sd)))
    replace HZ := Lib.hid (HZ.out.far (p := ⟨gc, 3, none⟩) (show gr ≠ gc by omega) (.slice SB sm sd))
    replace HC : Hid (Blk ((w2.setCell ⟨gc, 2, none⟩ (.slice SA sn sc)).setCell ⟨gc, 3, none⟩ (.slice SB sm sd)) gc 42 #[.int .i64 v0, .int .i64 v1, .slice SA sn sc, .slice SB sm sd, .slice none 0 0, .slice none 0 0]) := HC.out.set_ 3 (.slice SB sm sd)
    replace HS := Lib.hid (HS.out.set (b := gc) (i := 3) (v := .slice SB sm sd) (by omega))
    have hss := Nat.le_of_eq (setCell_size (w2.setCell ⟨gc, 2, none⟩ (.slice SA sn sc)) ⟨gc, 3, none⟩ (.slice SB sm sd))
    have hst := Nat.le_of_eq (setCell_size (w2.setCell ⟨gc, 2, none⟩ (.slice SA sn sc)) ⟨gc, 3, none⟩ (.slice SB sm sd)).symm
    replace HRd := Lib.hid (show Rd g _ _ (((w2.setCell ⟨gc, 2, none⟩ (.slice SA sn sc)).setCell ⟨gc, 3, none⟩ (.slice SB sm sd)).setCell ⟨gc, 4, none⟩ (.slice SC sp sq)) from HRd.out.far (p := ⟨gc, 4, none⟩) (show g ≠ gc by omega) (.slice SC sp sq))
    replace HK := Lib.hid (HK.out.setNew (b := gc) (i := 4) (by omega) (.slice SC sp sq))
    replace HE := Lib.hid (HE.out.next ((Below.refl g ((w2.setCell ⟨gc, 2, none⟩ (.slice SA sn sc)).setCell ⟨gc, 3, none⟩ (.slice SB sm sd))).setCell (p := ⟨gc, 4, none⟩) (show g ≤ gc by omega) (.slice SC sp sq)))
    replace HZ := Lib.hid (HZ.out.far (p := ⟨gc, 4, none⟩) (show gr ≠ gc by omega) (.slice SC sp sq))
    replace HC : Hid (Blk (((w2.setCell ⟨gc, 2, none⟩ (.slice SA sn sc)).setCell ⟨gc, 3, none⟩ (.slice SB sm sd)).setCell ⟨gc, 4, none⟩ (.slice SC sp sq)) gc 42 #[.int .i64 v0, .int .i64 v1, .slice SA sn sc, .slice SB sm sd, .slice SC sp sq, .slice none 0 0]) := HC.out.set_ 4 (.slice SC sp sq)
    replace HS := Lib.hid (HS.out.set (b := gc) (i := 4) (v := .slice SC sp sq) (by omega))
    have hss := Nat.le_of_eq (setCell_size ((w2.setCell ⟨gc, 2, none⟩ (.slice SA sn sc)).setCell ⟨gc, 3, none⟩ (.slice SB sm sd)) ⟨gc, 4, none⟩ (.slice SC sp sq))
    have hst := Nat.le_of_eq (setCell_size ((w2.setCell ⟨gc, 2, none⟩ (.slice SA sn sc)).setCell ⟨gc, 3, none⟩ (.slice SB sm sd)) ⟨gc, 4, none⟩ (.slice SC sp sq)).symm
    go_wp2_with fail
    clear c0 f0 c1 f1 c2 f2
    have hs2x := HK.out.size
    generalize (((w2.setCell ⟨gc, 2, none⟩ (.slice SA sn sc)).setCell ⟨gc, 3, none⟩ (.slice SB sm sd)).setCell ⟨gc, 4, none⟩ (.slice SC sp sq)) = wL at *
    generalize hnb : wL.heap.size = nb at *
    have hgcl := HC.out.lt
    rw [hnb] at hgcl
    generalize hES : w2.heap.size = ES at *
    have hESn : ES ≤ nb := by omega
    clear hES
    obtain ⟨BS, HBS, HS⟩ : ∃ BS, Hid (gc < BS) ∧ Hid (LyI BS ES wL (fun W => Sl 3 RD W SA sn sc st.c ∧ Sl 1 RM W SB sm sd st.a ∧ Sl 7 RI W SC sp sq st.r)) := ⟨_, by show _ < _; omega, HS⟩
    go_loopw [37] (fun i wr => ∃ (k : Nat) (fs : List (List Value)) (xs : List Lk) (sk : List UInt8) (lk : Nat) (v : Value), k ≤ K ∧ i = .int .i64 k ∧ Hid (xs.length = k) ∧ Hid (Acc 98 8 RL nb nb wr v fs xs) ∧ Hid (KR g w wr) ∧ Hid (Ev g wr) ∧ Hid (Rd g sk lk wr) ∧ lk + sk.length ≤ 1000000 ∧ Hid (Blk wr gr 42 #[.int .i64 0, .int .i64 0, .slice none 0 0, .slice none 0 0, .slice none 0 0, .slice none 0 0]) ∧ Hid (Blk wr gc 42 #[.int .i64 v0, .int .i64 v1, .slice SA sn sc, .slice SB sm sd, .slice SC sp sq, v]) ∧ Hid (LyI BS ES wr (fun W => Sl 3 RD W SA sn sc st.c ∧ Sl 1 RM W SB sm sd st.a ∧ Sl 7 RI W SC sp sq st.r)) ∧ nb ≤ wr.heap.size ∧ Hid (linksP n K s2 l2 = (linksP n (K - k) sk lk).bind (fun r s l => .ok (xs ++ r) s l))) (fun i _ => K - (intOf i).toNat)
    case atStart =>
      refine ⟨0, [], [], s2, l2, _, by omega, rfl, rfl, Acc.nil _ _ _ (Nat.le_refl _) _, HK, HE, HRd, hl2, HZ, HC, HS, by omega, ?_⟩
      show _ = _
      rw [Nat.sub_zero]
      cases linksP n K s2 l2 <;> rfl
    case round =>
      clear HK HE HRd HZ HC HS
      obtain ⟨k, fs, xs, sk, lk, v, hk, rfl, HD, HA, HK, HE, HRd, hlk, HZ, HC, HS, hnw, HP⟩ := hrel
      have hBS := HBS.out
      by_cases hlt : k < K
      · have HNK := Lib.hid (show K - k = (K - (k + 1)) + 1 by omega)
        have hfl : fs.length ≤ 1000 := by have := HA.out.len; have := HD.out; omega
        have HAl : Hid (LyI nb wr.heap.size wr (fun W => Acc 98 8 RL nb nb W v fs xs)) := fun W h1 h2 => HA.out.keep h1 h2
        have HOW := Lib.hid (fun o (ho : v.ownBlock = some o) => (HA.out.own.lt o ho).2)
        have hb := ballo wr (.cells #[.bool false, .slice none 0 0, .int .i64 0, .slice none 0 0, .slice none 0 0, .slice none 0 0, .slice none 0 0, .slice none 0 0] 98)
        replace HRd := Lib.hid (show Rd g sk lk (wr.alloc (.cells #[.bool false, .slice none 0 0, .int .i64 0, .slice none 0 0, .slice none 0 0, .slice none 0 0, .slice none 0 0, .slice none 0 0] 98)) from HRd.out.alloc _)
        replace HK := Lib.hid (HK.out.trans (KR.of hb))
        replace HE := Lib.hid (HE.out.next (hb.mono (by omega)))
        replace HZ := Lib.hid (HZ.out.below hb HZ.out.lt)
        replace HC := Lib.hid (HC.out.below hb HC.out.lt)
        replace HS := Lib.hid (HS.out.below hb (by omega))
        replace HAl := Lib.hid (HAl.out.below hb (Nat.le_refl _))
        have HL := Lib.hid (Blk.new wr 98 #[.bool false, .slice none 0 0, .int .i64 0, .slice none 0 0, .slice none 0 0, .slice none 0 0, .slice none 0 0, .slice none 0 0])
        have hsa : (wr.alloc (.cells #[.bool false, .slice none 0 0, .int .i64 0, .slice none 0 0, .slice none 0 0, .slice none 0 0, .slice none 0 0, .slice none 0 0] 98)).heap.size = wr.heap.size + 1 := by simp
        clear hb HA
        go_wp2_with fail
        generalize (wr.alloc (.cells #[.bool false, .slice none 0 0, .int .i64 0, .slice none 0 0, .slice none 0 0, .slice none 0 0, .slice none 0 0, .slice none 0 0] 98)) = wa at *
        generalize hgl8 : wr.heap.size = gl at *
        refine (numbers_R g sk stepW lk 1 _ HRd.out HE.out (by omega) (by omega)).mono ?_
        rintro e w3 ⟨hk, hm⟩
        have hsz := hk.size
        replace HK := Lib.hid (HK.out.trans hk)
        replace HE := Lib.hid (HE.out.next (hk.below (by omega)))
        replace HZ := Lib.hid (hk.blk HZ.out (by omega))
        replace HC := Lib.hid (hk.blk HC.out (by omega))
        replace HL := Lib.hid (hk.blk HL.out (by omega))
        replace HS := Lib.hid (HS.out.kr hk (by omega) (by omega))
        replace HAl := Lib.hid (HAl.out.kr hk (by omega) (by omega))
        clear hk
        cases hN : numsP stepW 1 sk lk with
        | bad kk cc x =>
          rw [hN] at hm
          simp only [] at hm
          subst hm
          have HX := Lib.hid hN
          clear hN
          go_wp2_with fail
          have hbad : linkP n sk lk = .bad kk cc x := by unfold linkP; rw [HX.out]; rfl
          exact ⟨rfl, HK.out, by unfold certP; rw [HN0.out, bind_ok, show [t0, t1, t2, t3].getD 0 [] = t0 from rfl, HI0.out, bind_ok, show [t0, t1, t2, t3].getD 1 [] = t1 from rfl, HI1.out, bind_ok, show [t0, t1, t2, t3].getD 2 [] = t2 from rfl, HI2.out, bind_ok, show [t0, t1, t2, t3].getD 3 [] = t3 from rfl, HI3.out, bind_ok, Int.toNat_natCast, Int.toNat_natCast, HSt.out, bind_ok, HP.out, HNK.out, linksP_bad hbad]; rfl⟩
        | ok hh s3 l3 =>
        rw [hN] at hm
        obtain ⟨u, rfl, hr, A, c, us, rfl, hy⟩ := hm
        replace HRd := Lib.hid hr
        have hl3 : l3 + s3.length ≤ 1000000 := by have := nums_lens hN; omega
        have hhl := (nums_spec hN).2.1
        have HX1 := Lib.hid hN
        clear hN hr
        match hh, hhl, HX1, hy with
        | [dh], _, HX1, hy =>
        obtain ⟨b, off, HA1, hn1, hc1, rfl, hy1⟩ := one_of hy
        have HH := Lib.hid (Ly.int hy1)
        have HL4 : Hid ([dh].length = 1) := rfl
        clear hy hy1
        generalize [dh].length = n1 at *
        obtain rfl : n1 = 1 := HL4.out
        obtain ⟨_, q0, q1, q2⟩ := HH.out w3 (by omega) (fun _ _ _ => rfl)
        have c0 : w3.cell? ⟨gl, 0, none⟩ = some (.bool false) := by rw [Blk.cell HL.out]; rfl
        have f0 : w3.frozen? ⟨gl, 0, none⟩ = false := HL.out.frozen 0
        have c1 : w3.cell? ⟨gl, 1, none⟩ = some (.slice none 0 0) := by rw [Blk.cell HL.out]; rfl
        have f1 : w3.frozen? ⟨gl, 1, none⟩ = false := HL.out.frozen 1
        have c2 : w3.cell? ⟨gl, 2, none⟩ = some (.int .i64 0) := by rw [Blk.cell HL.out]; rfl
        have f2 : w3.frozen? ⟨gl, 2, none⟩ = false := HL.out.frozen 2
        replace HRd := Lib.hid (show Rd g _ _ (w3.setCell ⟨gl, 0, none⟩ (.bool dh.neg)) from HRd.out.far (p := ⟨gl, 0, none⟩) (show g ≠ gl by omega) (.bool dh.neg))
        replace HK := Lib.hid (HK.out.setNew (b := gl) (i := 0) (by omega) (.bool dh.neg))
        replace HE := Lib.hid (HE.out.next ((Below.refl g w3).setCell (p := ⟨gl, 0, none⟩) (show g ≤ gl by omega) (.bool dh.neg)))
        replace HZ := Lib.hid (HZ.out.far (p := ⟨gl, 0, none⟩) (show gr ≠ gl by omega) (.bool dh.neg))
        replace HC := Lib.hid (HC.out.far (p := ⟨gl, 0, none⟩) (show gc ≠ gl by omega) (.bool dh.neg))
        replace HL : Hid (Blk (w3.setCell ⟨gl, 0, none⟩ (.bool dh.neg)) gl 98 #[.bool dh.neg, .slice none 0 0, .int .i64 0, .slice none 0 0, .slice none 0 0, .slice none 0 0, .slice none 0 0, .slice none 0 0]) := HL.out.set_ 0 (.bool dh.neg)
        replace HS := Lib.hid (HS.out.set (b := gl) (i := 0) (v := .bool dh.neg) (by omega))
        replace HAl := Lib.hid (HAl.out.set (b := gl) (i := 0) (v := .bool dh.neg) (by omega))
        replace HH := Lib.hid (HH.out.set (b := gl) (i := 0) (v := .bool dh.neg) (by omega))
        have hss := Nat.le_of_eq (setCell_size w3 ⟨gl, 0, none⟩ (.bool dh.neg))
        have hst := Nat.le_of_eq (setCell_size w3 ⟨gl, 0, none⟩ (.bool dh.neg)).symm
        replace HRd := Lib.hid (show Rd g _ _ ((w3.setCell ⟨gl, 0, none⟩ (.bool dh.neg)).setCell ⟨gl, 1, none⟩ (.slice HA1 hn1 hc1)) from HRd.out.far (p := ⟨gl, 1, none⟩) (show g ≠ gl by omega) (.slice HA1 hn1 hc1))
        replace HK := Lib.hid (HK.out.setNew (b := gl) (i := 1) (by omega) (.slice HA1 hn1 hc1))
        replace HE := Lib.hid (HE.out.next ((Below.refl g (w3.setCell ⟨gl, 0, none⟩ (.bool dh.neg))).setCell (p := ⟨gl, 1, none⟩) (show g ≤ gl by omega) (.slice HA1 hn1 hc1)))
        replace HZ := Lib.hid (HZ.out.far (p := ⟨gl, 1, none⟩) (show gr ≠ gl by omega) (.slice HA1 hn1 hc1))
        replace HC := Lib.hid (HC.out.far (p := ⟨gl, 1, none⟩) (show gc ≠ gl by omega) (.slice HA1 hn1 hc1))
        replace HL : Hid (Blk ((w3.setCell ⟨gl, 0, none⟩ (.bool dh.neg)).setCell ⟨gl, 1, none⟩ (.slice HA1 hn1 hc1)) gl 98 #[.bool dh.neg, .slice HA1 hn1 hc1, .int .i64 0, .slice none 0 0, .slice none 0 0, .slice none 0 0, .slice none 0 0, .slice none 0 0]) := HL.out.set_ 1 (.slice HA1 hn1 hc1)
        replace HS := Lib.hid (HS.out.set (b := gl) (i := 1) (v := .slice HA1 hn1 hc1) (by omega))
        replace HAl := Lib.hid (HAl.out.set (b := gl) (i := 1) (v := .slice HA1 hn1 hc1) (by omega))
        replace HH := Lib.hid (HH.out.set (b := gl) (i := 1) (v := .slice HA1 hn1 hc1) (by omega))
        have hss := Nat.le_of_eq (setCell_size (w3.setCell ⟨gl, 0, none⟩ (.bool dh.neg)) ⟨gl, 1, none⟩ (.slice HA1 hn1 hc1))
        have hst := Nat.le_of_eq (setCell_size (w3.setCell ⟨gl, 0, none⟩ (.bool dh.neg)) ⟨gl, 1, none⟩ (.slice HA1 hn1 hc1)).symm
        replace HRd := Lib.hid (show Rd g _ _ (((w3.setCell ⟨gl, 0, none⟩ (.bool dh.neg)).setCell ⟨gl, 1, none⟩ (.slice HA1 hn1 hc1)).setCell ⟨gl, 2, none⟩ (.int .i64 dh.e)) from HRd.out.far (p := ⟨gl, 2, none⟩) (show g ≠ gl by omega) (.int .i64 dh.e))
        replace HK := Lib.hid (HK.out.setNew (b := gl) (i := 2) (by omega) (.int .i64 dh.e))
        replace HE := Lib.hid (HE.out.next ((Below.refl g ((w3.setCell ⟨gl, 0, none⟩ (.bool dh.neg)).setCell ⟨gl, 1, none⟩ (.slice HA1 hn1 hc1))).setCell (p := ⟨gl, 2, none⟩) (show g ≤ gl by omega) (.int .i64 dh.e)))
        replace HZ := Lib.hid (HZ.out.far (p := ⟨gl, 2, none⟩) (show gr ≠ gl by omega) (.int .i64 dh.e))
        replace HC := Lib.hid (HC.out.far (p := ⟨gl, 2, none⟩) (show gc ≠ gl by omega) (.int .i64 dh.e))
        replace HL : Hid (Blk (((w3.setCell ⟨gl, 0, none⟩ (.bool dh.neg)).setCell ⟨gl, 1, none⟩ (.slice HA1 hn1 hc1)).setCell ⟨gl, 2, none⟩ (.int .i64 dh.e)) gl 98 #[.bool dh.neg, .slice HA1 hn1 hc1, .int .i64 dh.e, .slice none 0 0, .slice none 0 0, .slice none 0 0, .slice none 0 0, .slice none 0 0]) := HL.out.set_ 2 (.int .i64 dh.e)
        replace HS := Lib.hid (HS.out.set (b := gl) (i := 2) (v := .int .i64 dh.e) (by omega))
        replace HAl := Lib.hid (HAl.out.set (b := gl) (i := 2) (v := .int .i64 dh.e) (by omega))
        replace HH := Lib.hid (HH.out.set (b := gl) (i := 2) (v := .int .i64 dh.e) (by omega))
        have hss := Nat.le_of_eq (setCell_size ((w3.setCell ⟨gl, 0, none⟩ (.bool dh.neg)).setCell ⟨gl, 1, none⟩ (.slice HA1 hn1 hc1)) ⟨gl, 2, none⟩ (.int .i64 dh.e))
        have hst := Nat.le_of_eq (setCell_size ((w3.setCell ⟨gl, 0, none⟩ (.bool dh.neg)).setCell ⟨gl, 1, none⟩ (.slice HA1 hn1 hc1)) ⟨gl, 2, none⟩ (.int .i64 dh.e)).symm
        go_wp2_with fail
        clear c0 f0 c1 f1 c2 f2 q0 q1 q2
        generalize (((w3.setCell ⟨gl, 0, none⟩ (.bool dh.neg)).setCell ⟨gl, 1, none⟩ (.slice HA1 hn1 hc1)).setCell ⟨gl, 2, none⟩ (.int .i64 dh.e)) = w4 at *
        refine (intervals_any g s3 tubeW l3 n _ HRd.out HE.out hl3 (by omega)).mono ?_
        rintro e w5 ⟨hk, hm⟩
        have hsz := hk.size
        replace HK := Lib.hid (HK.out.trans hk)
        replace HE := Lib.hid (HE.out.next (hk.below (by omega)))
        replace HZ := Lib.hid (hk.blk HZ.out (by omega))
        replace HC := Lib.hid (hk.blk HC.out (by omega))
        replace HL := Lib.hid (hk.blk HL.out (by omega))
        replace HS := Lib.hid (HS.out.kr hk (by omega) (by omega))
        replace HAl := Lib.hid (HAl.out.kr hk (by omega) (by omega))
        replace HH := Lib.hid (HH.out.kr hk (by omega) (by omega))
        clear hk
        cases hN : ivsP tubeW n s3 l3 with
        | bad kk cc x =>
          rw [hN] at hm
          simp only [] at hm
          subst hm
          have HX := Lib.hid hN
          clear hN
          go_wp2_with fail
          have hbad : linkP n sk lk = .bad kk cc x := by unfold linkP; rw [HX1.out, bind_ok, HX.out]; rfl
          exact ⟨rfl, HK.out, by unfold certP; rw [HN0.out, bind_ok, show [t0, t1, t2, t3].getD 0 [] = t0 from rfl, HI0.out, bind_ok, show [t0, t1, t2, t3].getD 1 [] = t1 from rfl, HI1.out, bind_ok, show [t0, t1, t2, t3].getD 2 [] = t2 from rfl, HI2.out, bind_ok, show [t0, t1, t2, t3].getD 3 [] = t3 from rfl, HI3.out, bind_ok, Int.toNat_natCast, Int.toNat_natCast, HSt.out, bind_ok, HP.out, HNK.out, linksP_bad hbad]; rfl⟩
        | ok xt s4 l4 =>
        rw [hN] at hm
        obtain ⟨u, rfl, hr, TA, tc, rfl, hy⟩ := hm
        replace HRd := Lib.hid hr
        have hl4 : l4 + s4.length ≤ 1000000 := by have := ivs_lens hN; omega
        have HX2 := Lib.hid hN
        have HT := Lib.hid (Ly.int hy)
        clear hN hr hy
        have c0 : w5.cell? ⟨gl, 3, none⟩ = some (.slice none 0 0) := by rw [Blk.cell HL.out]; rfl
        have f0 : w5.frozen? ⟨gl, 3, none⟩ = false := HL.out.frozen 3
        replace HRd := Lib.hid (show Rd g _ _ (w5.setCell ⟨gl, 3, none⟩ (.slice TA xt.length tc)) from HRd.out.far (p := ⟨gl, 3, none⟩) (show g ≠ gl by omega) (.slice TA xt.length tc))
        replace HK := Lib.hid (HK.out.setNew (b := gl) (i := 3) (by omega) (.slice TA xt.length tc))
        replace HE := Lib.hid (HE.out.next ((Below.refl g w5).setCell (p := ⟨gl, 3, none⟩) (show g ≤ gl by omega) (.slice TA xt.length tc)))
        replace HZ := Lib.hid (HZ.out.far (p := ⟨gl, 3, none⟩) (show gr ≠ gl by omega) (.slice TA xt.length tc))
        replace HC := Lib.hid (HC.out.far (p := ⟨gl, 3, none⟩) (show gc ≠ gl by omega) (.slice TA xt.length tc))
        replace HL : Hid (Blk (w5.setCell ⟨gl, 3, none⟩ (.slice TA xt.length tc)) gl 98 #[.bool dh.neg, .slice HA1 hn1 hc1, .int .i64 dh.e, .slice TA xt.length tc, .slice none 0 0, .slice none 0 0, .slice none 0 0, .slice none 0 0]) := HL.out.set_ 3 (.slice TA xt.length tc)
        replace HS := Lib.hid (HS.out.set (b := gl) (i := 3) (v := .slice TA xt.length tc) (by omega))
        replace HAl := Lib.hid (HAl.out.set (b := gl) (i := 3) (v := .slice TA xt.length tc) (by omega))
        replace HH := Lib.hid (HH.out.set (b := gl) (i := 3) (v := .slice TA xt.length tc) (by omega))
        replace HT := Lib.hid (HT.out.set (b := gl) (i := 3) (v := .slice TA xt.length tc) (by omega))
        have hss := Nat.le_of_eq (setCell_size w5 ⟨gl, 3, none⟩ (.slice TA xt.length tc))
        have hst := Nat.le_of_eq (setCell_size w5 ⟨gl, 3, none⟩ (.slice TA xt.length tc)).symm
        go_wp2_with fail
        clear c0 f0
        generalize (w5.setCell ⟨gl, 3, none⟩ (.slice TA xt.length tc)) = w6 at *
        refine (set_any g s4 l4 n _ HRd.out HE.out hl4 (by omega)).mono ?_
        rintro e w7 ⟨hk, hm⟩
        have hsz := hk.size
        replace HK := Lib.hid (HK.out.trans hk)
        replace HE := Lib.hid (HE.out.next (hk.below (by omega)))
        replace HZ := Lib.hid (hk.blk HZ.out (by omega))
        replace HC := Lib.hid (hk.blk HC.out (by omega))
        replace HL := Lib.hid (hk.blk HL.out (by omega))
        replace HS := Lib.hid (HS.out.kr hk (by omega) (by omega))
        replace HAl := Lib.hid (HAl.out.kr hk (by omega) (by omega))
        replace HH := Lib.hid (HH.out.kr hk (by omega) (by omega))
        replace HT := Lib.hid (HT.out.kr hk (by omega) (by omega))
        clear hk
        cases hN : setP n s4 l4 with
        | bad kk cc x =>
          rw [hN] at hm
          simp only [] at hm
          subst hm
          have HX := Lib.hid hN
          clear hN
          go_wp2_with fail
          have hbad : linkP n sk lk = .bad kk cc x := by unfold linkP; rw [HX1.out, bind_ok, HX2.out, bind_ok, HX.out]; rfl
          exact ⟨rfl, HK.out, by unfold certP; rw [HN0.out, bind_ok, show [t0, t1, t2, t3].getD 0 [] = t0 from rfl, HI0.out, bind_ok, show [t0, t1, t2, t3].getD 1 [] = t1 from rfl, HI1.out, bind_ok, show [t0, t1, t2, t3].getD 2 [] = t2 from rfl, HI2.out, bind_ok, show [t0, t1, t2, t3].getD 3 [] = t3 from rfl, HI3.out, bind_ok, Int.toNat_natCast, Int.toNat_natCast, HSt.out, bind_ok, HP.out, HNK.out, linksP_bad hbad]; rfl⟩
        | ok xe s5 l5 =>
        rw [hN] at hm
        obtain ⟨u, rfl, hr, EA, en, ec, EB, em, ed, EC, ep, eq, rfl, hy⟩ := hm
        replace HRd := Lib.hid hr
        have hl5 : l5 + s5.length ≤ 1000000 := by have := set_lens hN; omega
        have HX3 := Lib.hid hN
        have HEn := Lib.hid (Ly.int (hy.imp (fun _ hh => rf_parts hh)))
        clear hN hr hy
        have c0 : w7.cell? ⟨gl, 4, none⟩ = some (.slice none 0 0) := by rw [Blk.cell HL.out]; rfl
        have f0 : w7.frozen? ⟨gl, 4, none⟩ = false := HL.out.frozen 4
        have c1 : w7.cell? ⟨gl, 5, none⟩ = some (.slice none 0 0) := by rw [Blk.cell HL.out]; rfl
        have f1 : w7.frozen? ⟨gl, 5, none⟩ = false := HL.out.frozen 5
        have c2 : w7.cell? ⟨gl, 6, none⟩ = some (.slice none 0 0) := by rw [Blk.cell HL.out]; rfl
        have f2 : w7.frozen? ⟨gl, 6, none⟩ = false := HL.out.frozen 6
        replace HRd := Lib.hid (show Rd g _ _ (w7.setCell ⟨gl, 4, none⟩ (.slice EA en ec)) from HRd.out.far (p := ⟨gl, 4, none⟩) (show g ≠ gl by omega) (.slice EA en ec))
        replace HK := Lib.hid (HK.out.setNew (b := gl) (i := 4) (by omega) (.slice EA en ec))
        replace HE := Lib.hid (HE.out.next ((Below.refl g w7).setCell (p := ⟨gl, 4, none⟩) (show g ≤ gl by omega) (.slice EA en ec)))
        replace HZ := Lib.hid (HZ.out.far (p := ⟨gl, 4, none⟩) (show gr ≠ gl by omega) (.slice EA en ec))
        replace HC := Lib.hid (HC.out.far (p := ⟨gl, 4, none⟩) (show gc ≠ gl by omega) (.slice EA en ec))
        replace HL : Hid (Blk (w7.setCell ⟨gl, 4, none⟩ (.slice EA en ec)) gl 98 #[.bool dh.neg, .slice HA1 hn1 hc1, .int .i64 dh.e, .slice TA xt.length tc, .slice EA en ec, .slice none 0 0, .slice none 0 0, .slice none 0 0]) := HL.out.set_ 4 (.slice EA en ec)
        replace HS := Lib.hid (HS.out.set (b := gl) (i := 4) (v := .slice EA en ec) (by omega))
        replace HAl := Lib.hid (HAl.out.set (b := gl) (i := 4) (v := .slice EA en ec) (by omega))
        replace HH := Lib.hid (HH.out.set (b := gl) (i := 4) (v := .slice EA en ec) (by omega))
        replace HT := Lib.hid (HT.out.set (b := gl) (i := 4) (v := .slice EA en ec) (by omega))
        replace HEn := Lib.hid (HEn.out.set (b := gl) (i := 4) (v := .slice EA en ec) (by omega))
        have hss := Nat.le_of_eq (setCell_size w7 ⟨gl, 4, none⟩ (.slice EA en ec))
        have hst := Nat.le_of_eq (setCell_size w7 ⟨gl, 4, none⟩ (.slice EA en ec)).symm
        replace HRd := Lib.hid (show Rd g _ _ ((w7.setCell ⟨gl, 4, none⟩ (.slice EA en ec)).setCell ⟨gl, 5, none⟩ (.slice EB em ed)) from HRd.out.far (p := ⟨gl, 5, none⟩) (show g ≠ gl by omega) (.slice EB em ed))
        replace HK := Lib.hid (HK.out.setNew (b := gl) (i := 5) (by omega) (.slice EB em ed))
        replace HE := Lib.hid (HE.out.next ((Below.refl g (w7.setCell ⟨gl, 4, none⟩ (.slice EA en ec))).setCell (p := ⟨gl, 5, none⟩) (show g ≤ gl by omega) (.slice EB em ed)))
        replace HZ := Lib.hid (HZ.out.far (p := ⟨gl, 5, none⟩) (show gr ≠ gl by omega) (.slice EB em ed))
        replace HC := Lib.hid (HC.out.far (p := ⟨gl, 5, none⟩) (show gc ≠ gl by omega) (.slice EB em ed))
        replace HL : Hid (Blk ((w7.setCell ⟨gl, 4, none⟩ (.slice EA en ec)).setCell ⟨gl, 5, none⟩ (.slice EB em ed)) gl 98 #[.bool dh.neg, .slice HA1 hn1 hc1, .int .i64 dh.e, .slice TA xt.length tc, .slice EA en ec, .slice EB em ed, .slice none 0 0, .slice none 0 0]) := HL.out.set_ 5 (.slice EB em ed)
        replace HS := Lib.hid (HS.out.set (b := gl) (i := 5) (v := .slice EB em ed) (by omega))
        replace HAl := Lib.hid (HAl.out.set (b := gl) (i := 5) (v := .slice EB em ed) (by omega))
        replace HH := Lib.hid (HH.out.set (b := gl) (i := 5) (v := .slice EB em ed) (by omega))
        replace HT := Lib.hid (HT.out.set (b := gl) (i := 5) (v := .slice EB em ed) (by omega))
        replace HEn := Lib.hid (HEn.out.set (b := gl) (i := 5) (v := .slice EB em ed) (by omega))
        have hss := Nat.le_of_eq (setCell_size (w7.setCell ⟨gl, 4, none⟩ (.slice EA en ec)) ⟨gl, 5, none⟩ (.slice EB em ed))
        have hst := Nat.le_of_eq (setCell_size (w7.setCell ⟨gl, 4, none⟩ (.slice EA en ec)) ⟨gl, 5, none⟩ (.slice EB em ed)).symm
        replace HRd := Lib.hid (show Rd g _ _ (((w7.setCell ⟨gl, 4, none⟩ (.slice EA en ec)).setCell ⟨gl, 5, none⟩ (.slice EB em ed)).setCell ⟨gl, 6, none⟩ (.slice EC ep eq)) from HRd.out.far (p := ⟨gl, 6, none⟩) (show g ≠ gl by omega) (.slice EC ep eq))
        replace HK := Lib.hid (HK.out.setNew (b := gl) (i := 6) (by omega) (.slice EC ep eq))
        replace HE := Lib.hid (HE.out.next ((Below.refl g ((w7.setCell ⟨gl, 4, none⟩ (.slice EA en ec)).setCell ⟨gl, 5, none⟩ (.slice EB em ed))).setCell (p := ⟨gl, 6, none⟩) (show g ≤ gl by omega) (.slice EC ep eq)))
        replace HZ := Lib.hid (HZ.out.far (p := ⟨gl, 6, none⟩) (show gr ≠ gl by omega) (.slice EC ep eq))
        replace HC := Lib.hid (HC.out.far (p := ⟨gl, 6, none⟩) (show gc ≠ gl by omega) (.slice EC ep eq))
        replace HL : Hid (Blk (((w7.setCell ⟨gl, 4, none⟩ (.slice EA en ec)).setCell ⟨gl, 5, none⟩ (.slice EB em ed)).setCell ⟨gl, 6, none⟩ (.slice EC ep eq)) gl 98 #[.bool dh.neg, .slice HA1 hn1 hc1, .int .i64 dh.e, .slice TA xt.length tc, .slice EA en ec, .slice EB em ed, .slice EC ep eq, .slice none 0 0]) := HL.out.set_ 6 (.slice EC ep eq)
        replace HS := Lib.hid (HS.out.set (b := gl) (i := 6) (v := .slice EC ep eq) (by omega))
        replace HAl := Lib.hid (HAl.out.set (b := gl) (i := 6) (v := .slice EC ep eq) (by omega))
        replace HH := Lib.hid (HH.out.set (b := gl) (i := 6) (v := .slice EC ep eq) (by omega))
        replace HT := Lib.hid (HT.out.set (b := gl) (i := 6) (v := .slice EC ep eq) (by omega))
        replace HEn := Lib.hid (HEn.out.set (b := gl) (i := 6) (v := .slice EC ep eq) (by omega))
        have hss := Nat.le_of_eq (setCell_size ((w7.setCell ⟨gl, 4, none⟩ (.slice EA en ec)).setCell ⟨gl, 5, none⟩ (.slice EB em ed)) ⟨gl, 6, none⟩ (.slice EC ep eq))
        have hst := Nat.le_of_eq (setCell_size ((w7.setCell ⟨gl, 4, none⟩ (.slice EA en ec)).setCell ⟨gl, 5, none⟩ (.slice EB em ed)) ⟨gl, 6, none⟩ (.slice EC ep eq)).symm
        go_wp2_with fail
        clear c0 f0 c1 f1 c2 f2
        generalize (((w7.setCell ⟨gl, 4, none⟩ (.slice EA en ec)).setCell ⟨gl, 5, none⟩ (.slice EB em ed)).setCell ⟨gl, 6, none⟩ (.slice EC ep eq)) = w8 at *
        refine (rows_any g s5 [118] l5 n _ HRd.out HE.out hl5 (by omega)).mono ?_
        rintro e w9 ⟨hk, hm⟩
        have hsz := hk.size
        replace HK := Lib.hid (HK.out.trans hk)
        replace HE := Lib.hid (HE.out.next (hk.below (by omega)))
        replace HZ := Lib.hid (hk.blk HZ.out (by omega))
        replace HC := Lib.hid (hk.blk HC.out (by omega))
        replace HL := Lib.hid (hk.blk HL.out (by omega))
        replace HS := Lib.hid (HS.out.kr hk (by omega) (by omega))
        replace HAl := Lib.hid (HAl.out.kr hk (by omega) (by omega))
        replace HH := Lib.hid (HH.out.kr hk (by omega) (by omega))
        replace HT := Lib.hid (HT.out.kr hk (by omega) (by omega))
        replace HEn := Lib.hid (HEn.out.kr hk (by omega) (by omega))
        clear hk
        cases hN : rowsP [118] n n s5 l5 with
        | bad kk cc x =>
          rw [hN] at hm
          simp only [] at hm
          subst hm
          have HX := Lib.hid hN
          clear hN
          go_wp2_with fail
          have hbad : linkP n sk lk = .bad kk cc x := by unfold linkP; rw [HX1.out, bind_ok, HX2.out, bind_ok, HX3.out, bind_ok, HX.out]; rfl
          exact ⟨rfl, HK.out, by unfold certP; rw [HN0.out, bind_ok, show [t0, t1, t2, t3].getD 0 [] = t0 from rfl, HI0.out, bind_ok, show [t0, t1, t2, t3].getD 1 [] = t1 from rfl, HI1.out, bind_ok, show [t0, t1, t2, t3].getD 2 [] = t2 from rfl, HI2.out, bind_ok, show [t0, t1, t2, t3].getD 3 [] = t3 from rfl, HI3.out, bind_ok, Int.toNat_natCast, Int.toNat_natCast, HSt.out, bind_ok, HP.out, HNK.out, linksP_bad hbad]; rfl⟩
        | ok xv s6 l6 =>
        rw [hN] at hm
        obtain ⟨u, rfl, hr, RA, rc, rfl, hy⟩ := hm
        replace HRd := Lib.hid hr
        have hl6 : l6 + s6.length ≤ 1000000 := by have := rows_lens hN; omega
        have HX4 := Lib.hid hN
        have HV := Lib.hid (Ly.int hy)
        clear hN hr hy
        have c0 : w9.cell? ⟨gl, 7, none⟩ = some (.slice none 0 0) := by rw [Blk.cell HL.out]; rfl
        have f0 : w9.frozen? ⟨gl, 7, none⟩ = false := HL.out.frozen 7
        replace HRd := Lib.hid (show Rd g _ _ (w9.setCell ⟨gl, 7, none⟩ (.slice RA xv.length rc)) from HRd.out.far (p := ⟨gl, 7, none⟩) (show g ≠ gl by omega) (.slice RA xv.length rc))
        replace HK := Lib.hid (HK.out.setNew (b := gl) (i := 7) (by omega) (.slice RA xv.length rc))
        replace HE := Lib.hid (HE.out.next ((Below.refl g w9).setCell (p := ⟨gl, 7, none⟩) (show g ≤ gl by omega) (.slice RA xv.length rc)))
        replace HZ := Lib.hid (HZ.out.far (p := ⟨gl, 7, none⟩) (show gr ≠ gl by omega) (.slice RA xv.length rc))
        replace HC := Lib.hid (HC.out.far (p := ⟨gl, 7, none⟩) (show gc ≠ gl by omega) (.slice RA xv.length rc))
        replace HL : Hid (Blk (w9.setCell ⟨gl, 7, none⟩ (.slice RA xv.length rc)) gl 98 #[.bool dh.neg, .slice HA1 hn1 hc1, .int .i64 dh.e, .slice TA xt.length tc, .slice EA en ec, .slice EB em ed, .slice EC ep eq, .slice RA xv.length rc]) := HL.out.set_ 7 (.slice RA xv.length rc)
        replace HS := Lib.hid (HS.out.set (b := gl) (i := 7) (v := .slice RA xv.length rc) (by omega))
        replace HAl := Lib.hid (HAl.out.set (b := gl) (i := 7) (v := .slice RA xv.length rc) (by omega))
        replace HH := Lib.hid (HH.out.set (b := gl) (i := 7) (v := .slice RA xv.length rc) (by omega))
        replace HT := Lib.hid (HT.out.set (b := gl) (i := 7) (v := .slice RA xv.length rc) (by omega))
        replace HEn := Lib.hid (HEn.out.set (b := gl) (i := 7) (v := .slice RA xv.length rc) (by omega))
        replace HV := Lib.hid (HV.out.set (b := gl) (i := 7) (v := .slice RA xv.length rc) (by omega))
        have hss := Nat.le_of_eq (setCell_size w9 ⟨gl, 7, none⟩ (.slice RA xv.length rc))
        have hst := Nat.le_of_eq (setCell_size w9 ⟨gl, 7, none⟩ (.slice RA xv.length rc)).symm
        have HXL : Hid (linkP n sk lk = .ok ⟨dh, xt, xe, xv⟩ s6 l6) := by show _ = _; unfold linkP; rw [HX1.out, bind_ok, HX2.out, bind_ok, HX3.out, bind_ok, HX4.out]; rfl
        have p0 : (w9.setCell ⟨gl, 7, none⟩ (.slice RA xv.length rc)).cell? ⟨gl, 0, none⟩ = some (.bool dh.neg) := by rw [Blk.cell HL.out]; rfl
        have p1 : (w9.setCell ⟨gl, 7, none⟩ (.slice RA xv.length rc)).cell? ⟨gl, 1, none⟩ = some (.slice HA1 hn1 hc1) := by rw [Blk.cell HL.out]; rfl
        have p2 : (w9.setCell ⟨gl, 7, none⟩ (.slice RA xv.length rc)).cell? ⟨gl, 2, none⟩ = some (.int .i64 dh.e) := by rw [Blk.cell HL.out]; rfl
        have p3 : (w9.setCell ⟨gl, 7, none⟩ (.slice RA xv.length rc)).cell? ⟨gl, 3, none⟩ = some (.slice TA xt.length tc) := by rw [Blk.cell HL.out]; rfl
        have p4 : (w9.setCell ⟨gl, 7, none⟩ (.slice RA xv.length rc)).cell? ⟨gl, 4, none⟩ = some (.slice EA en ec) := by rw [Blk.cell HL.out]; rfl
        have p5 : (w9.setCell ⟨gl, 7, none⟩ (.slice RA xv.length rc)).cell? ⟨gl, 5, none⟩ = some (.slice EB em ed) := by rw [Blk.cell HL.out]; rfl
        have p6 : (w9.setCell ⟨gl, 7, none⟩ (.slice RA xv.length rc)).cell? ⟨gl, 6, none⟩ = some (.slice EC ep eq) := by rw [Blk.cell HL.out]; rfl
        have p7 : (w9.setCell ⟨gl, 7, none⟩ (.slice RA xv.length rc)).cell? ⟨gl, 7, none⟩ = some (.slice RA xv.length rc) := by rw [Blk.cell HL.out]; rfl
        have p8 : (w9.setCell ⟨gl, 7, none⟩ (.slice RA xv.length rc)).cell? ⟨gc, 5, none⟩ = some v := by rw [Blk.cell HC.out]; rfl
        have hbj := ballo (w9.setCell ⟨gl, 7, none⟩ (.slice RA xv.length rc)) (.cells #[.bool dh.neg, .slice HA1 hn1 hc1, .int .i64 dh.e, .slice TA xt.length tc, .slice EA en ec, .slice EB em ed, .slice EC ep eq, .slice RA xv.length rc] 98)
        have HBJ := Lib.hid hbj
        have hAj := HAl.out.below hbj (by omega)
        have HAj : Hid (Acc 98 8 RL nb nb ((w9.setCell ⟨gl, 7, none⟩ (.slice RA xv.length rc)).alloc (.cells #[.bool dh.neg, .slice HA1 hn1 hc1, .int .i64 dh.e, .slice TA xt.length tc, .slice EA en ec, .slice EB em ed, .slice EC ep eq, .slice RA xv.length rc] 98)) v fs xs) := hAj _ (by simp only [setCell_size] at hbj ⊢; have := hbj.size; omega) (fun _ _ _ => rfl)
        have HOW2 : Hid (∀ o, v.ownBlock = some o → o < gl ∨ w9.heap.size ≤ o) := fun o ho => .inl (HOW.out o ho)
        clear hbj hAj
        go_wp2_with (at_builtin; go_loud (refine wpList_acc rfl _ _ 40 rfl 98 8 160 _ infoL rfl (by omega) (by omega) Tryz.underlying40 nb nb _ fs xs rfl HAj.out ⟨w9.heap.size, 0, none⟩ 1 [.bool dh.neg, .slice HA1 hn1 hc1, .int .i64 dh.e, .slice TA xt.length tc, .slice EA en ec, .slice EB em ed, .slice EC ep eq, .slice RA xv.length rc] ⟨dh, xt, xe, xv⟩ rfl rfl ?c1 ?c2 ?c3 ?c4 gl w9.heap.size ?c5 ?c6 HOW2.out ?c7 ?_))
        case c1 =>
          intro j u hj
          rw [add_mk, Blk.cell (Blk.newAt (w9.setCell ⟨gl, 7, none⟩ (.slice RA xv.length rc)) 98 #[.bool dh.neg, .slice HA1 hn1 hc1, .int .i64 dh.e, .slice TA xt.length tc, .slice EA en ec, .slice EB em ed, .slice EC ep eq, .slice RA xv.length rc] (g := w9.heap.size) (by rw [setCell_size]))]
          simpa using hj
        case c2 => intro u hu; simp at hu; rcases hu with rfl | rfl | rfl | rfl | rfl | rfl | rfl | rfl <;> rfl
        case c3 => omega
        case c4 => have := HBJ.out.size; simp only [setCell_size] at this ⊢; omega
        case c5 => omega
        case c6 => have := HBJ.out.size; simp only [setCell_size] at this; exact this
        case c7 =>
          intro W h1 h2
          have h3 : ∀ b, gl ≤ b → b < w9.heap.size → W.heap[b]? = (w9.setCell ⟨gl, 7, none⟩ (.slice RA xv.length rc)).heap[b]? := fun b b1 b2 => (h2 b b1 b2).trans (HBJ.out.block b (by rw [setCell_size]; exact b2))
          have kHH := HH.out W (by omega) (fun b b1 b2 => h3 b (by omega) (by omega))
          have kHT := HT.out W (by omega) (fun b b1 b2 => h3 b (by omega) (by omega))
          have kHEn := HEn.out W (by omega) (fun b b1 b2 => h3 b (by omega) (by omega))
          have kHV := HV.out W (by omega) (fun b b1 b2 => h3 b (by omega) (by omega))
          exact ⟨_, _, _, _, _, _, _, _, _, _, _, _, _, _, _, _, _, _, rfl, kHH.1, kHT, kHEn.1, kHEn.2.1, kHEn.2.2, kHV⟩
        intro v' w10 hacc hb10
        obtain ⟨LA, lcp, hv10, _, _⟩ := hacc.own.form
        subst hv10
        clear HH
        clear HT
        clear HEn
        clear HV
        clear HL
        clear HAl
        replace HRd : Hid (Rd g s6 l6 w10) := ((HRd.out.below HBJ.out HRd.out.lt).below hb10 (by omega))
        replace HK := Lib.hid ((HK.out.trans (KR.of HBJ.out)).thenB (hb10.mono (by omega)))
        replace HE := Lib.hid ((HE.out.next (HBJ.out.mono (by simp only [setCell_size]; omega))).next (hb10.mono (by omega)))
        replace HZ := Lib.hid ((HZ.out.below HBJ.out HZ.out.lt).below hb10 (by omega))
        replace HC := Lib.hid ((HC.out.below HBJ.out HC.out.lt).below hb10 (by omega))
        replace HS := Lib.hid ((HS.out.below HBJ.out (by simp only [setCell_size]; omega)).belowB hb10 (by omega))
        have hs10 : nb ≤ w10.heap.size := by have h1 := HBJ.out.size; have h2 := hb10.size; rw [setCell_size] at h1; omega
        have HA10 := Lib.hid hacc
        clear hacc hb10 p0 p1 p2 p3 p4 p5 p6 p7 p8
        generalize hfsl : (fs ++ _).length = fl at *
        have c0 : w10.cell? ⟨gc, 5, none⟩ = some (v) := by rw [Blk.cell HC.out]; rfl
        have f0 : w10.frozen? ⟨gc, 5, none⟩ = false := HC.out.frozen 5
        replace HRd := Lib.hid (show Rd g _ _ (w10.setCell ⟨gc, 5, none⟩ (.slice LA fl lcp)) from HRd.out.far (p := ⟨gc, 5, none⟩) (show g ≠ gc by omega) (.slice LA fl lcp))
        replace HK := Lib.hid (HK.out.setNew (b := gc) (i := 5) (by omega) (.slice LA fl lcp))
        replace HE := Lib.hid (HE.out.next ((Below.refl g w10).setCell (p := ⟨gc, 5, none⟩) (show g ≤ gc by omega) (.slice LA fl lcp)))
        replace HZ := Lib.hid (HZ.out.far (p := ⟨gc, 5, none⟩) (show gr ≠ gc by omega) (.slice LA fl lcp))
        replace HC : Hid (Blk (w10.setCell ⟨gc, 5, none⟩ (.slice LA fl lcp)) gc 42 #[.int .i64 v0, .int .i64 v1, .slice SA sn sc, .slice SB sm sd, .slice SC sp sq, .slice LA fl lcp]) := HC.out.set_ 5 (.slice LA fl lcp)
        replace HS := Lib.hid (HS.out.set (b := gc) (i := 5) (v := .slice LA fl lcp) (by omega))
        have hss := Nat.le_of_eq (setCell_size w10 ⟨gc, 5, none⟩ (.slice LA fl lcp))
        have hst := Nat.le_of_eq (setCell_size w10 ⟨gc, 5, none⟩ (.slice LA fl lcp)).symm
        have HA11 := Lib.hid (HA10.out.keep (w' := w10.setCell ⟨gc, 5, none⟩ (.slice LA fl lcp)) (by rw [setCell_size]; exact Nat.le_refl _) (fun b hb _ => Below.heap_setCell _ _ _ _ (by show b ≠ gc; omega)))
        go_wp2_with fail
        go_roundw
        case rel =>
          refine ⟨k + 1, _, _, s6, l6, _, by omega, by go_num, ?_, HA11, HK, HE, HRd, hl6, HZ, HC, HS, by rw [setCell_size]; exact hs10, ?_⟩
          · show _ = _
            rw [List.length_append, HD.out]; rfl
          · show _ = _
            rw [HP.out, HNK.out, linksP_step HXL.out]
        case measure => simp [intOf]; omega
      · obtain rfl : k = K := by omega
        obtain ⟨LA, lcp, hv, hly⟩ := HA.out.ly
        subst hv
        have HLk := Lib.hid (Ly.int hly)
        clear hly HA
        go_wp2_with fail
        refine (next_any g sk [101, 110, 100] lk 0 _ HRd.out HE.out (by omega) (by omega) (by omega)).mono ?_
        rintro e w4 ⟨hk, hm⟩
        have hsz := hk.size
        replace HK := Lib.hid (HK.out.trans hk)
        replace HE := Lib.hid (HE.out.next (hk.below (by omega)))
        replace HZ := Lib.hid (hk.blk HZ.out (by omega))
        replace HC := Lib.hid (hk.blk HC.out (by omega))
        replace HS := Lib.hid (HS.out.kr hk (by omega) (by omega))
        replace HLk := Lib.hid (HLk.out.kr hk (by omega) (by omega))
        clear hk
        have HLP : Hid (linksP n k s2 l2 = .ok xs sk lk) := by show _ = _; rw [HP.out, Nat.sub_self, linksP, bind_ok, List.append_nil]
        cases hN : nextP [101, 110, 100] 0 sk lk with
        | bad kk cc x =>
          rw [hN] at hm
          simp only [] at hm
          subst hm
          have HX := Lib.hid hN
          clear hN
          go_wp2_with fail
          exact ⟨rfl, HK.out, by unfold certP; rw [HN0.out, bind_ok, show [t0, t1, t2, t3].getD 0 [] = t0 from rfl, HI0.out, bind_ok, show [t0, t1, t2, t3].getD 1 [] = t1 from rfl, HI1.out, bind_ok, show [t0, t1, t2, t3].getD 2 [] = t2 from rfl, HI2.out, bind_ok, show [t0, t1, t2, t3].getD 3 [] = t3 from rfl, HI3.out, bind_ok, Int.toNat_natCast, Int.toNat_natCast, HSt.out, bind_ok, HLP.out, bind_ok, HX.out]; rfl⟩
        | ok pe s9 l9 =>
        rw [hN] at hm
        obtain ⟨u, rfl, hr, EA, ec, rfl, _⟩ := hm
        replace HRd := Lib.hid hr
        have HXe := Lib.hid hN
        clear hN hr
        have p0 : w4.cell? ⟨gc, 0, none⟩ = some (.int .i64 v0) := by rw [Blk.cell HC.out]; rfl
        have p1 : w4.cell? ⟨gc, 1, none⟩ = some (.int .i64 v1) := by rw [Blk.cell HC.out]; rfl
        have p2 : w4.cell? ⟨gc, 2, none⟩ = some (.slice SA sn sc) := by rw [Blk.cell HC.out]; rfl
        have p3 : w4.cell? ⟨gc, 3, none⟩ = some (.slice SB sm sd) := by rw [Blk.cell HC.out]; rfl
        have p4 : w4.cell? ⟨gc, 4, none⟩ = some (.slice SC sp sq) := by rw [Blk.cell HC.out]; rfl
        have p5 : w4.cell? ⟨gc, 5, none⟩ = some (.slice LA xs.length lcp) := by rw [Blk.cell HC.out]; rfl
        have c0 : w4.cell? ⟨gr, 0, none⟩ = some (.int .i64 0) := by rw [Blk.cell HZ.out]; rfl
        have f0 : w4.frozen? ⟨gr, 0, none⟩ = false := HZ.out.frozen 0
        have c1 : w4.cell? ⟨gr, 1, none⟩ = some (.int .i64 0) := by rw [Blk.cell HZ.out]; rfl
        have f1 : w4.frozen? ⟨gr, 1, none⟩ = false := HZ.out.frozen 1
        have c2 : w4.cell? ⟨gr, 2, none⟩ = some (.slice none 0 0) := by rw [Blk.cell HZ.out]; rfl
        have f2 : w4.frozen? ⟨gr, 2, none⟩ = false := HZ.out.frozen 2
        have c3 : w4.cell? ⟨gr, 3, none⟩ = some (.slice none 0 0) := by rw [Blk.cell HZ.out]; rfl
        have f3 : w4.frozen? ⟨gr, 3, none⟩ = false := HZ.out.frozen 3
        have c4 : w4.cell? ⟨gr, 4, none⟩ = some (.slice none 0 0) := by rw [Blk.cell HZ.out]; rfl
        have f4 : w4.frozen? ⟨gr, 4, none⟩ = false := HZ.out.frozen 4
        have c5 : w4.cell? ⟨gr, 5, none⟩ = some (.slice none 0 0) := by rw [Blk.cell HZ.out]; rfl
        have f5 : w4.frozen? ⟨gr, 5, none⟩ = false := HZ.out.frozen 5
        replace HRd := Lib.hid (show Rd g _ _ (w4.setCell ⟨gr, 0, none⟩ (.int .i64 v0)) from HRd.out.far (p := ⟨gr, 0, none⟩) (show g ≠ gr by omega) (.int .i64 v0))
        replace HK := Lib.hid (HK.out.setNew (b := gr) (i := 0) (by omega) (.int .i64 v0))
        replace HE := Lib.hid (HE.out.next ((Below.refl g w4).setCell (p := ⟨gr, 0, none⟩) (show g ≤ gr by omega) (.int .i64 v0)))
        replace HZ : Hid (Blk (w4.setCell ⟨gr, 0, none⟩ (.int .i64 v0)) gr 42 #[.int .i64 v0, .int .i64 0, .slice none 0 0, .slice none 0 0, .slice none 0 0, .slice none 0 0]) := HZ.out.set_ 0 (.int .i64 v0)
        replace HC := Lib.hid (HC.out.far (p := ⟨gr, 0, none⟩) (show gc ≠ gr by omega) (.int .i64 v0))
        replace HS := Lib.hid (HS.out.set (b := gr) (i := 0) (v := .int .i64 v0) (by omega))
        replace HLk := Lib.hid (HLk.out.set (b := gr) (i := 0) (v := .int .i64 v0) (by omega))
        have hss := Nat.le_of_eq (setCell_size w4 ⟨gr, 0, none⟩ (.int .i64 v0))
        have hst := Nat.le_of_eq (setCell_size w4 ⟨gr, 0, none⟩ (.int .i64 v0)).symm
        replace HRd := Lib.hid (show Rd g _ _ ((w4.setCell ⟨gr, 0, none⟩ (.int .i64 v0)).setCell ⟨gr, 1, none⟩ (.int .i64 v1)) from HRd.out.far (p := ⟨gr, 1, none⟩) (show g ≠ gr by omega) (.int .i64 v1))
        replace HK := Lib.hid (HK.out.setNew (b := gr) (i := 1) (by omega) (.int .i64 v1))
        replace HE := Lib.hid (HE.out.next ((Below.refl g (w4.setCell ⟨gr, 0, none⟩ (.int .i64 v0))).setCell (p := ⟨gr, 1, none⟩) (show g ≤ gr by omega) (.int .i64 v1)))
        replace HZ : Hid (Blk ((w4.setCell ⟨gr, 0, none⟩ (.int .i64 v0)).setCell ⟨gr, 1, none⟩ (.int .i64 v1)) gr 42 #[.int .i64 v0, .int .i64 v1, .slice none 0 0, .slice none 0 0, .slice none 0 0, .slice none 0 0]) := HZ.out.set_ 1 (.int .i64 v1)
        replace HC := Lib.hid (HC.out.far (p := ⟨gr, 1, none⟩) (show gc ≠ gr by omega) (.int .i64 v1))
        replace HS := Lib.hid (HS.out.set (b := gr) (i := 1) (v := .int .i64 v1) (by omega))
        replace HLk := Lib.hid (HLk.out.set (b := gr) (i := 1) (v := .int .i64 v1) (by omega))
        have hss := Nat.le_of_eq (setCell_size (w4.setCell ⟨gr, 0, none⟩ (.int .i64 v0)) ⟨gr, 1, none⟩ (.int .i64 v1))
        have hst := Nat.le_of_eq (setCell_size (w4.setCell ⟨gr, 0, none⟩ (.int .i64 v0)) ⟨gr, 1, none⟩ (.int .i64 v1)).symm
        replace HRd := Lib.hid (show Rd g _ _ (((w4.setCell ⟨gr, 0, none⟩ (.int .i64 v0)).setCell ⟨gr, 1, none⟩ (.int .i64 v1)).setCell ⟨gr, 2, none⟩ (.slice SA sn sc)) from HRd.out.far (p := ⟨gr, 2, none⟩) (show g ≠ gr by omega) (.slice SA sn sc))
        replace HK := Lib.hid (HK.out.setNew (b := gr) (i := 2) (by omega) (.slice SA sn sc))
        replace HE := Lib.hid (HE.out.next ((Below.refl g ((w4.setCell ⟨gr, 0, none⟩ (.int .i64 v0)).setCell ⟨gr, 1, none⟩ (.int .i64 v1))).setCell (p := ⟨gr, 2, none⟩) (show g ≤ gr by omega) (.slice SA sn sc)))
        replace HZ : Hid (Blk (((w4.setCell ⟨gr, 0, none⟩ (.int .i64 v0)).setCell ⟨gr, 1, none⟩ (.int .i64 v1)).setCell ⟨gr, 2, none⟩ (.slice SA sn sc)) gr 42 #[.int .i64 v0, .int .i64 v1, .slice SA sn sc, .slice none 0 0, .slice none 0 0, .slice none 0 0]) := HZ.out.set_ 2 (.slice SA sn sc)
        replace HC := Lib.hid (HC.out.far (p := ⟨gr, 2, none⟩) (show gc ≠ gr by omega) (.slice SA sn sc))
        replace HS := Lib.hid (HS.out.set (b := gr) (i := 2) (v := .slice SA sn sc) (by omega))
        replace HLk := Lib.hid (HLk.out.set (b := gr) (i := 2) (v := .slice SA sn sc) (by omega))
        have hss := Nat.le_of_eq (setCell_size ((w4.setCell ⟨gr, 0, none⟩ (.int .i64 v0)).setCell ⟨gr, 1, none⟩ (.int .i64 v1)) ⟨gr, 2, none⟩ (.slice SA sn sc))
        have hst := Nat.le_of_eq (setCell_size ((w4.setCell ⟨gr, 0, none⟩ (.int .i64 v0)).setCell ⟨gr, 1, none⟩ (.int .i64 v1)) ⟨gr, 2, none⟩ (.slice SA sn sc)).symm
        replace HRd := Lib.hid (show Rd g _ _ ((((w4.setCell ⟨gr, 0, none⟩ (.int .i64 v0)).setCell ⟨gr, 1, none⟩ (.int .i64 v1)).setCell ⟨gr, 2, none⟩ (.slice SA sn sc)).setCell ⟨gr, 3, none⟩ (.slice SB sm sd)) from HRd.out.far (p := ⟨gr, 3, none⟩) (show g ≠ gr by omega) (.slice SB sm sd))
        replace HK := Lib.hid (HK.out.setNew (b := gr) (i := 3) (by omega) (.slice SB sm sd))
        replace HE := Lib.hid (HE.out.next ((Below.refl g (((w4.setCell ⟨gr, 0, none⟩ (.int .i64 v0)).setCell ⟨gr, 1, none⟩ (.int .i64 v1)).setCell ⟨gr, 2, none⟩ (.slice SA sn sc))).setCell (p := ⟨gr, 3, none⟩) (show g ≤ gr by omega) (.slice SB sm sd)))
        replace HZ : Hid (Blk ((((w4.setCell ⟨gr, 0, none⟩ (.int .i64 v0)).setCell ⟨gr, 1, none⟩ (.int .i64 v1)).setCell ⟨gr, 2, none⟩ (.slice SA sn sc)).setCell ⟨gr, 3, none⟩ (.slice SB sm sd)) gr 42 #[.int .i64 v0, .int .i64 v1, .slice SA sn sc, .slice SB sm sd, .slice none 0 0, .slice none 0 0]) := HZ.out.set_ 3 (.slice SB sm sd)
        replace HC := Lib.hid (HC.out.far (p := ⟨gr, 3, none⟩) (show gc ≠ gr by omega) (.slice SB sm sd))
        replace HS := Lib.hid (HS.out.set (b := gr) (i := 3) (v := .slice SB sm sd) (by omega))
        replace HLk := Lib.hid (HLk.out.set (b := gr) (i := 3) (v := .slice SB sm sd) (by omega))
        have hss := Nat.le_of_eq (setCell_size (((w4.setCell ⟨gr, 0, none⟩ (.int .i64 v0)).setCell ⟨gr, 1, none⟩ (.int .i64 v1)).setCell ⟨gr, 2, none⟩ (.slice SA sn sc)) ⟨gr, 3, none⟩ (.slice SB sm sd))
        have hst := Nat.le_of_eq (setCell_size (((w4.setCell ⟨gr, 0, none⟩ (.int .i64 v0)).setCell ⟨gr, 1, none⟩ (.int .i64 v1)).setCell ⟨gr, 2, none⟩ (.slice SA sn sc)) ⟨gr, 3, none⟩ (.slice SB sm sd)).symm
        replace HRd := Lib.hid (show Rd g _ _ (((((w4.setCell ⟨gr, 0, none⟩ (.int .i64 v0)).setCell ⟨gr, 1, none⟩ (.int .i64 v1)).setCell ⟨gr, 2, none⟩ (.slice SA sn sc)).setCell ⟨gr, 3, none⟩ (.slice SB sm sd)).setCell ⟨gr, 4, none⟩ (.slice SC sp sq)) from HRd.out.far (p := ⟨gr, 4, none⟩) (show g ≠ gr by omega) (.slice SC sp sq))
        replace HK := Lib.hid (HK.out.setNew (b := gr) (i := 4) (by omega) (.slice SC sp sq))
        replace HE := Lib.hid (HE.out.next ((Below.refl g ((((w4.setCell ⟨gr, 0, none⟩ (.int .i64 v0)).setCell ⟨gr, 1, none⟩ (.int .i64 v1)).setCell ⟨gr, 2, none⟩ (.slice SA sn sc)).setCell ⟨gr, 3, none⟩ (.slice SB sm sd))).setCell (p := ⟨gr, 4, none⟩) (show g ≤ gr by omega) (.slice SC sp sq)))
        replace HZ : Hid (Blk (((((w4.setCell ⟨gr, 0, none⟩ (.int .i64 v0)).setCell ⟨gr, 1, none⟩ (.int .i64 v1)).setCell ⟨gr, 2, none⟩ (.slice SA sn sc)).setCell ⟨gr, 3, none⟩ (.slice SB sm sd)).setCell ⟨gr, 4, none⟩ (.slice SC sp sq)) gr 42 #[.int .i64 v0, .int .i64 v1, .slice SA sn sc, .slice SB sm sd, .slice SC sp sq, .slice none 0 0]) := HZ.out.set_ 4 (.slice SC sp sq)
        replace HC := Lib.hid (HC.out.far (p := ⟨gr, 4, none⟩) (show gc ≠ gr by omega) (.slice SC sp sq))
        replace HS := Lib.hid (HS.out.set (b := gr) (i := 4) (v := .slice SC sp sq) (by omega))
        replace HLk := Lib.hid (HLk.out.set (b := gr) (i := 4) (v := .slice SC sp sq) (by omega))
        have hss := Nat.le_of_eq (setCell_size ((((w4.setCell ⟨gr, 0, none⟩ (.int .i64 v0)).setCell ⟨gr, 1, none⟩ (.int .i64 v1)).setCell ⟨gr, 2, none⟩ (.slice SA sn sc)).setCell ⟨gr, 3, none⟩ (.slice SB sm sd)) ⟨gr, 4, none⟩ (.slice SC sp sq))
        have hst := Nat.le_of_eq (setCell_size ((((w4.setCell ⟨gr, 0, none⟩ (.int .i64 v0)).setCell ⟨gr, 1, none⟩ (.int .i64 v1)).setCell ⟨gr, 2, none⟩ (.slice SA sn sc)).setCell ⟨gr, 3, none⟩ (.slice SB sm sd)) ⟨gr, 4, none⟩ (.slice SC sp sq)).symm
        replace HRd := Lib.hid (show Rd g _ _ ((((((w4.setCell ⟨gr, 0, none⟩ (.int .i64 v0)).setCell ⟨gr, 1, none⟩ (.int .i64 v1)).setCell ⟨gr, 2, none⟩ (.slice SA sn sc)).setCell ⟨gr, 3, none⟩ (.slice SB sm sd)).setCell ⟨gr, 4, none⟩ (.slice SC sp sq)).setCell ⟨gr, 5, none⟩ (.slice LA xs.length lcp)) from HRd.out.far (p := ⟨gr, 5, none⟩) (show g ≠ gr by omega) (.slice LA xs.length lcp))
        replace HK := Lib.hid (HK.out.setNew (b := gr) (i := 5) (by omega) (.slice LA xs.length lcp))
        replace HE := Lib.hid (HE.out.next ((Below.refl g (((((w4.setCell ⟨gr, 0, none⟩ (.int .i64 v0)).setCell ⟨gr, 1, none⟩ (.int .i64 v1)).setCell ⟨gr, 2, none⟩ (.slice SA sn sc)).setCell ⟨gr, 3, none⟩ (.slice SB sm sd)).setCell ⟨gr, 4, none⟩ (.slice SC sp sq))).setCell (p := ⟨gr, 5, none⟩) (show g ≤ gr by omega) (.slice LA xs.length lcp)))
        replace HZ : Hid (Blk ((((((w4.setCell ⟨gr, 0, none⟩ (.int .i64 v0)).setCell ⟨gr, 1, none⟩ (.int .i64 v1)).setCell ⟨gr, 2, none⟩ (.slice SA sn sc)).setCell ⟨gr, 3, none⟩ (.slice SB sm sd)).setCell ⟨gr, 4, none⟩ (.slice SC sp sq)).setCell ⟨gr, 5, none⟩ (.slice LA xs.length lcp)) gr 42 #[.int .i64 v0, .int .i64 v1, .slice SA sn sc, .slice SB sm sd, .slice SC sp sq, .slice LA xs.length lcp]) := HZ.out.set_ 5 (.slice LA xs.length lcp)
        replace HC := Lib.hid (HC.out.far (p := ⟨gr, 5, none⟩) (show gc ≠ gr by omega) (.slice LA xs.length lcp))
        replace HS := Lib.hid (HS.out.set (b := gr) (i := 5) (v := .slice LA xs.length lcp) (by omega))
        replace HLk := Lib.hid (HLk.out.set (b := gr) (i := 5) (v := .slice LA xs.length lcp) (by omega))
        have hss := Nat.le_of_eq (setCell_size (((((w4.setCell ⟨gr, 0, none⟩ (.int .i64 v0)).setCell ⟨gr, 1, none⟩ (.int .i64 v1)).setCell ⟨gr, 2, none⟩ (.slice SA sn sc)).setCell ⟨gr, 3, none⟩ (.slice SB sm sd)).setCell ⟨gr, 4, none⟩ (.slice SC sp sq)) ⟨gr, 5, none⟩ (.slice LA xs.length lcp))
        have hst := Nat.le_of_eq (setCell_size (((((w4.setCell ⟨gr, 0, none⟩ (.int .i64 v0)).setCell ⟨gr, 1, none⟩ (.int .i64 v1)).setCell ⟨gr, 2, none⟩ (.slice SA sn sc)).setCell ⟨gr, 3, none⟩ (.slice SB sm sd)).setCell ⟨gr, 4, none⟩ (.slice SC sp sq)) ⟨gr, 5, none⟩ (.slice LA xs.length lcp)).symm
        go_wp2_with fail
        refine bodyPost_ret (resC Tryz.results89 (by rfl) HZ.out) rfl ⟨HK.out, ?_⟩
        have ho : certP s l = .ok ⟨v0, v1, st, xs⟩ s9 l9 := by unfold certP; rw [HN0.out, bind_ok, show [t0, t1, t2, t3].getD 0 [] = t0 from rfl, HI0.out, bind_ok, show [t0, t1, t2, t3].getD 1 [] = t1 from rfl, HI1.out, bind_ok, show [t0, t1, t2, t3].getD 2 [] = t2 from rfl, HI2.out, bind_ok, show [t0, t1, t2, t3].getD 3 [] = t3 from rfl, HI3.out, bind_ok, Int.toNat_natCast, Int.toNat_natCast, HSt.out, bind_ok, HLP.out, bind_ok, HXe.out]; rfl
        rw [ho]
        refine ⟨_, rfl, HRd.out, [.int .i64 v0, .int .i64 v1, .slice SA sn sc, .slice SB sm sd, .slice SC sp sq, .slice LA xs.length lcp], rfl, ?_⟩
        refine ((HS.out.ly (lo := gr) (by omega) (by simp only [setCell_size]; omega)).and (HLk.out.ly (lo := gr) (by omega) (by simp only [setCell_size]; omega))).imp ?_
        rintro W ⟨⟨h1, h2, h3⟩, h4⟩
        exact ⟨_, _, _, _, _, _, _, _, _, _, _, _, rfl, h1, h2, h3, h4⟩

end Go.Proofs.YtekajoifgdpmlaaGreatDoor
