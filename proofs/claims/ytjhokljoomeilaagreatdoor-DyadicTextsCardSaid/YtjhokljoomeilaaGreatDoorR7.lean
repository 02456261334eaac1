/- The reference: Sum, Product, Add, Sub, Mul, Scale: what each call computes. (Printed by gen_r7.py.) -/
import Derived.Test.YtjhokljoomeilaaGreatDoorR6
import Derived.Test.YtjhokljoomeilaaGreatDoorVar
import Derived.Test.YtjhokljoomeilaaGreatDoorL2
namespace Go.Proofs.YtjhokljoomeilaaGreatDoor
open Go.RowKit Pl Go.Shelf

/-- A number that may lie where an argument lies. -/
def RetW (d : Dy) (O : Nat → Prop) (w : World) (e : Ending) (w' : World) : Prop := ∃ A n c, e = .returned (.agg #[.bool d.neg, .slice A n c, .int .i64 d.e]) ∧ SL w' A n c d.l ∧ (∀ g, g < w.heap.size → O g → Off A n g) ∧ Below w.heap.size w w'
def RetX (d : Dy) (k : Int) (O : Nat → Prop) (w : World) (e : Ending) (w' : World) : Prop := ∃ A n c, e = .returned (.tuple #[.agg #[.bool d.neg, .slice A n c, .int .i64 d.e], .int .i64 k]) ∧ SL w' A n c d.l ∧ (∀ g, g < w.heap.size → O g → Off A n g) ∧ Below w.heap.size w w'
theorem Off.zero {A : Option Addr} {g : Nat} : Off A 0 g := fun h => absurd h (by omega)
/-- The sum, in range or not. -/
def rsumD (d d' : Dy) : Dy := if d.l = [] then d' else if d'.l = [] then d else
  if d.neg = d'.neg then canonD d.neg (val d.l * 2 ^ (d.e - min d.e d'.e).toNat + val d'.l * 2 ^ (d'.e - min d.e d'.e).toNat) (min d.e d'.e)
  else if val d'.l * 2 ^ (d'.e - min d.e d'.e).toNat ≤ val d.l * 2 ^ (d.e - min d.e d'.e).toNat then canonD d.neg (val d.l * 2 ^ (d.e - min d.e d'.e).toNat - val d'.l * 2 ^ (d'.e - min d.e d'.e).toNat) (min d.e d'.e)
  else canonD d'.neg (val d'.l * 2 ^ (d'.e - min d.e d'.e).toNat - val d.l * 2 ^ (d.e - min d.e d'.e).toNat) (min d.e d'.e)
def chk (d : Dy) : Dy × Int := if vld d = true then (d, 0) else (zeroD, 9)
theorem chk_canon (n : Bool) (v : Nat) (e : Int) : chk (canonD n v e) = checkD n v e := by
  unfold chk checkD
  rw [vld_canon]
theorem chk_sum {d d' : Dy} (hv : vld d = true) (hv' : vld d' = true) : chk (rsumD d d') = sumD d d' := by
  unfold rsumD sumD
  by_cases h : d.l = []
  · rw [if_pos h, if_pos h]; unfold chk; rw [if_pos hv']
  · rw [if_neg h, if_neg h]
    by_cases h' : d'.l = []
    · rw [if_pos h', if_pos h']; unfold chk; rw [if_pos hv]
    · rw [if_neg h', if_neg h']
      generalize val d.l * 2 ^ (d.e - min d.e d'.e).toNat = P
      generalize val d'.l * 2 ^ (d'.e - min d.e d'.e).toNat = Q
      unfold sumV
      by_cases hn : d.neg = d'.neg
      · rw [if_pos hn, if_pos hn, chk_canon]
      · rw [if_neg hn, if_neg hn]
        by_cases hq : Q ≤ P
        · rw [if_pos hq, if_neg (by omega), chk_canon]
        · rw [if_neg hq, if_pos (by omega), chk_canon]
theorem sum_short_at {P Q E k : Nat} (hP : blen P ≤ E) (hQ : blen Q ≤ E) (hk : E + 1 ≤ 32 * k) : (digs (P + Q)).length ≤ k ∧ (digs P).length ≤ k ∧ (digs Q).length ≤ k ∧ (digs (P - Q)).length ≤ k ∧ (digs (Q - P)).length ≤ k := by
  have key : ∀ v, v < 2 ^ (E + 1) → (digs v).length ≤ k := fun v hv => digs_len_blen v k (Nat.le_trans (blen_le_of v _ hv) (by omega))
  have hp : P < 2 ^ E := Nat.lt_of_lt_of_le (lt_blen P) (Nat.pow_le_pow_right (by omega) hP)
  have hq : Q < 2 ^ E := Nat.lt_of_lt_of_le (lt_blen Q) (Nat.pow_le_pow_right (by omega) hQ)
  have e : 2 ^ (E + 1) = 2 ^ E + 2 ^ E := by rw [Nat.pow_succ]; omega
  rw [e] at key
  generalize 2 ^ E = T at *
  exact ⟨key _ (by omega), key _ (by omega), key _ (by omega), key _ (by omega), key _ (by omega)⟩
theorem sum_short {P Q : Nat} (hP : blen P ≤ 40000) (hQ : blen Q ≤ 40000) : (digs (P + Q)).length ≤ 2000 ∧ (digs P).length ≤ 2000 ∧ (digs Q).length ≤ 2000 ∧ (digs (P - Q)).length ≤ 2000 ∧ (digs (Q - P)).length ≤ 2000 := sum_short_at hP hQ (by omega)
theorem prod_short {al bl : List Nat} (hL : Limbs al) (hL' : Limbs bl) : (digs (val al * val bl)).length ≤ al.length + bl.length :=
  digs_length_lt _ _ (by rw [Nat.pow_add]; exact Nat.mul_lt_mul'' (val_lt al hL) (val_lt bl hL'))
theorem canon_len (n : Bool) (v : Nat) (e : Int) : (canonD n v e).l.length ≤ (digs v).length := by
  unfold canonD
  split
  · simp [zeroD]
  · exact digs_length_lt _ _ (Nat.lt_of_le_of_lt (Nat.div_le_self _ _) (lt_digs_length v))
theorem rsum_len {d d' r : Dy} (hv : vld d = true) (hv' : vld d' = true) (h : r = rsumD d d') : r.l.length ≤ 2000 := by
  subst h
  unfold rsumD
  by_cases h : d.l = []
  · rw [if_pos h]; have := vld_short hv'; omega
  · rw [if_neg h]
    by_cases h' : d'.l = []
    · rw [if_pos h']; have := vld_short hv; omega
    · rw [if_neg h']
      obtain ⟨_, _, b3, b4, _⟩ := vld_bounds hv h
      obtain ⟨_, _, c3, c4, _⟩ := vld_bounds hv' h'
      have x := vld_exp hv
      have x' := vld_exp hv'
      obtain ⟨s1, _, _, s4, s5⟩ := sum_short (P := val d.l * 2 ^ (d.e - min d.e d'.e).toNat) (Q := val d'.l * 2 ^ (d'.e - min d.e d'.e).toNat) (by rw [blen_mul_pow _ _ (by omega)]; omega) (by rw [blen_mul_pow _ _ (by omega)]; omega)
      generalize val d.l * 2 ^ (d.e - min d.e d'.e).toNat = P at *
      generalize val d'.l * 2 ^ (d'.e - min d.e d'.e).toNat = Q at *
      split
      · exact Nat.le_trans (canon_len _ _ _) s1
      · split
        · exact Nat.le_trans (canon_len _ _ _) s4
        · exact Nat.le_trans (canon_len _ _ _) s5
theorem rprod_len {al bl : List Nat} {n : Bool} {e : Int} {r : Dy} (hL : Limbs al) (hL' : Limbs bl) (h1 : al.length ≤ 256) (h2 : bl.length ≤ 256) (h : r = canonD n (val al * val bl) e) : r.l.length ≤ 2000 := by
  subst h
  exact Nat.le_trans (canon_len _ _ _) (Nat.le_trans (prod_short hL hL') (by omega))

set_option maxRecDepth 100000 in
set_option maxHeartbeats 8000000 in
theorem rsum_any (an : Bool) (aA : Option Addr) (aS ac : Nat) (al : List Nat) (ae : Int) (bn : Bool) (bA : Option Addr) (bs bc : Nat) (bl : List Nat) (be : Int) (w : World) (ha : SL w aA aS ac al) (hb : SL w bA bs bc bl) (hva : vld ⟨an, al, ae⟩ = true) (hvb : vld ⟨bn, bl, be⟩ = true) :
    Calls Tryz.prog 30 #[.agg #[.bool an, .slice aA aS ac, .int .i64 ae], .agg #[.bool bn, .slice bA bs bc, .int .i64 be]] w (RetW (rsumD ⟨an, al, ae⟩ ⟨bn, bl, be⟩) (fun g => Off aA aS g ∧ Off bA bs g) w) := by
  obtain ⟨mn, hmn⟩ : ∃ mn, min ae be = mn := ⟨_, rfl⟩
  have xa := vld_exp hva
  have xb := vld_exp hvb
  dsimp only at xa xb
  have hsa : aS ≤ 256 := by rw [← ha.len]; exact vld_short hva
  have hsb : bs ≤ 256 := by rw [← hb.len]; exact vld_short hvb
  by_cases a0 : aS = 0
  · subst a0
    have HR : Hid (rsumD ⟨an, al, ae⟩ ⟨bn, bl, be⟩ = ⟨bn, bl, be⟩) := by unfold Hid rsumD; rw [if_pos (ha.empty rfl)]
    rw [HR.out]
    clear HR hmn
    go_enter Tryz.func30, Tryz.ntmps30
    have hbw := bnext (bnext (ballo w (.cells #[.bool an, .slice aA 0 ac, .int .i64 ae] 24)) (ballo (w.alloc (.cells #[.bool an, .slice aA 0 ac, .int .i64 ae] 24)) (.cells #[.bool bn, .slice bA bs bc, .int .i64 be] 24))) (ballo ((w.alloc (.cells #[.bool an, .slice aA 0 ac, .int .i64 ae] 24)).alloc (.cells #[.bool bn, .slice bA bs bc, .int .i64 be] 24)) (.cells #[.bool false, .slice none 0 0, .int .i64 0] 24))
    have va := ((Var.new w an ae ha).next (ballo (w.alloc (.cells #[.bool an, .slice aA 0 ac, .int .i64 ae] 24)) (.cells #[.bool bn, .slice bA bs bc, .int .i64 be] 24))).next (ballo ((w.alloc (.cells #[.bool an, .slice aA 0 ac, .int .i64 ae] 24)).alloc (.cells #[.bool bn, .slice bA bs bc, .int .i64 be] 24)) (.cells #[.bool false, .slice none 0 0, .int .i64 0] 24))
    have vb := (Var.newAt (w.alloc (.cells #[.bool an, .slice aA 0 ac, .int .i64 ae] 24)) bn be (g := w.heap.size + 1) (by simp) (hb.below (ballo w (.cells #[.bool an, .slice aA 0 ac, .int .i64 ae] 24)))).next (ballo ((w.alloc (.cells #[.bool an, .slice aA 0 ac, .int .i64 ae] 24)).alloc (.cells #[.bool bn, .slice bA bs bc, .int .i64 be] 24)) (.cells #[.bool false, .slice none 0 0, .int .i64 0] 24))
    have kz := Blk.newAt ((w.alloc (.cells #[.bool an, .slice aA 0 ac, .int .i64 ae] 24)).alloc (.cells #[.bool bn, .slice bA bs bc, .int .i64 be] 24)) 24 #[.bool false, .slice none 0 0, .int .i64 0] (g := w.heap.size + 1 + 1) (by simp)
    have oa : Off aA 0 (w.heap.size + 1 + 1) := Off.old ha (by omega)
    have ob : Off bA bs (w.heap.size + 1 + 1) := Off.old hb (by omega)
    obtain ⟨aq0, aq1, aq2⟩ := va.cells
    obtain ⟨bq0, bq1, bq2⟩ := vb.cells
    go_wp2_with fail
    refine bodyPost_ret (resD Tryz.results30 rfl (Blk.newAt _ _ _ (by simp))) rfl ?_
    exact ⟨bA, bs, bc, rfl, hb.below (bnext (bnext (ballo w _) (ballo _ _)) (ballo _ _)), (fun g _ ho => ho.2), bnext (bnext (ballo w _) (ballo _ _)) (ballo _ _)⟩
  by_cases b0 : bs = 0
  · subst b0
    have HR : Hid (rsumD ⟨an, al, ae⟩ ⟨bn, bl, be⟩ = ⟨an, al, ae⟩) := by unfold Hid rsumD; rw [if_neg ((ne_nil_iff ha).2 a0), if_pos (hb.empty rfl)]
    rw [HR.out]
    clear HR hmn
    have a1 : ((aS : Int) == 0) = false := by simp; omega
    go_enter Tryz.func30, Tryz.ntmps30
    have hbw := bnext (bnext (ballo w (.cells #[.bool an, .slice aA aS ac, .int .i64 ae] 24)) (ballo (w.alloc (.cells #[.bool an, .slice aA aS ac, .int .i64 ae] 24)) (.cells #[.bool bn, .slice bA 0 bc, .int .i64 be] 24))) (ballo ((w.alloc (.cells #[.bool an, .slice aA aS ac, .int .i64 ae] 24)).alloc (.cells #[.bool bn, .slice bA 0 bc, .int .i64 be] 24)) (.cells #[.bool false, .slice none 0 0, .int .i64 0] 24))
    have va := ((Var.new w an ae ha).next (ballo (w.alloc (.cells #[.bool an, .slice aA aS ac, .int .i64 ae] 24)) (.cells #[.bool bn, .slice bA 0 bc, .int .i64 be] 24))).next (ballo ((w.alloc (.cells #[.bool an, .slice aA aS ac, .int .i64 ae] 24)).alloc (.cells #[.bool bn, .slice bA 0 bc, .int .i64 be] 24)) (.cells #[.bool false, .slice none 0 0, .int .i64 0] 24))
    have vb := (Var.newAt (w.alloc (.cells #[.bool an, .slice aA aS ac, .int .i64 ae] 24)) bn be (g := w.heap.size + 1) (by simp) (hb.below (ballo w (.cells #[.bool an, .slice aA aS ac, .int .i64 ae] 24)))).next (ballo ((w.alloc (.cells #[.bool an, .slice aA aS ac, .int .i64 ae] 24)).alloc (.cells #[.bool bn, .slice bA 0 bc, .int .i64 be] 24)) (.cells #[.bool false, .slice none 0 0, .int .i64 0] 24))
    have kz := Blk.newAt ((w.alloc (.cells #[.bool an, .slice aA aS ac, .int .i64 ae] 24)).alloc (.cells #[.bool bn, .slice bA 0 bc, .int .i64 be] 24)) 24 #[.bool false, .slice none 0 0, .int .i64 0] (g := w.heap.size + 1 + 1) (by simp)
    have oa : Off aA aS (w.heap.size + 1 + 1) := Off.old ha (by omega)
    have ob : Off bA 0 (w.heap.size + 1 + 1) := Off.old hb (by omega)
    obtain ⟨aq0, aq1, aq2⟩ := va.cells
    obtain ⟨bq0, bq1, bq2⟩ := vb.cells
    go_wp2_with fail
    refine bodyPost_ret (resD Tryz.results30 rfl (Blk.newAt _ _ _ (by simp))) rfl ?_
    exact ⟨aA, aS, ac, rfl, ha.below (bnext (bnext (ballo w _) (ballo _ _)) (ballo _ _)), (fun g _ ho => ho.1), bnext (bnext (ballo w _) (ballo _ _)) (ballo _ _)⟩
  have a1 : ((aS : Int) == 0) = false := by simp; omega
  have b1 : ((bs : Int) == 0) = false := by simp; omega
  obtain ⟨u1, u2, u3, u4, -⟩ := vld_bounds hva ((ne_nil_iff ha).2 a0)
  obtain ⟨t1, t2, t3, t4, -⟩ := vld_bounds hvb ((ne_nil_iff hb).2 b0)
  dsimp only at u3 u4 t3 t4
  obtain ⟨i, hi⟩ : ∃ i : Nat, ae - mn = (i : Int) := ⟨(ae - mn).toNat, by omega⟩
  obtain ⟨j, hj⟩ : ∃ j : Nat, be - mn = (j : Int) := ⟨(be - mn).toNat, by omega⟩
  have hib : i ≤ 32768 := by omega
  have hjb : j ≤ 32768 := by omega
  obtain ⟨P, hP⟩ : ∃ P, P = val al * 2 ^ i := ⟨_, rfl⟩
  obtain ⟨Q, hQ⟩ : ∃ Q, Q = val bl * 2 ^ j := ⟨_, rfl⟩
  obtain ⟨d1, d2, d3, d4, d5⟩ := sum_short (P := P) (Q := Q) (by rw [hP, blen_mul_pow _ _ (by omega)]; omega) (by rw [hQ, blen_mul_pow _ _ (by omega)]; omega)
  have HR : Hid (rsumD ⟨an, al, ae⟩ ⟨bn, bl, be⟩ = if an = bn then canonD an (P + Q) mn else if Q ≤ P then canonD an (P - Q) mn else canonD bn (Q - P) mn) := by unfold Hid rsumD; rw [if_neg ((ne_nil_iff ha).2 a0), if_neg ((ne_nil_iff hb).2 b0)]; simp only [hmn, hi, hj, Int.toNat_natCast, ← hP, ← hQ]
  generalize rsumD ⟨an, al, ae⟩ ⟨bn, bl, be⟩ = r at *
  have W1 : IntKind.i64.wrap (ae - mn) = (i : Int) := by rw [hi]; exact IntWalk.i64_in _ (by omega)
  have W2 : IntKind.i64.wrap (be - mn) = (j : Int) := by rw [hj]; exact IntWalk.i64_in _ (by omega)
  have hm1 : -16384 ≤ mn := by omega
  have hm2 : mn ≤ 16384 := by omega
  have HMN := Lib.hid hmn
  have HP := Lib.hid hP
  have HQ := Lib.hid hQ
  clear hmn hi hj hP hQ u1 u2 u3 u4 t1 t2 t3 t4 xa xb a0 b0 hva hvb
  go_enter Tryz.func30, Tryz.ntmps30
  have hbw := bnext (bnext (ballo w (.cells #[.bool an, .slice aA aS ac, .int .i64 ae] 24)) (ballo (w.alloc (.cells #[.bool an, .slice aA aS ac, .int .i64 ae] 24)) (.cells #[.bool bn, .slice bA bs bc, .int .i64 be] 24))) (ballo ((w.alloc (.cells #[.bool an, .slice aA aS ac, .int .i64 ae] 24)).alloc (.cells #[.bool bn, .slice bA bs bc, .int .i64 be] 24)) (.cells #[.bool false, .slice none 0 0, .int .i64 0] 24))
  have va := ((Var.new w an ae ha).next (ballo (w.alloc (.cells #[.bool an, .slice aA aS ac, .int .i64 ae] 24)) (.cells #[.bool bn, .slice bA bs bc, .int .i64 be] 24))).next (ballo ((w.alloc (.cells #[.bool an, .slice aA aS ac, .int .i64 ae] 24)).alloc (.cells #[.bool bn, .slice bA bs bc, .int .i64 be] 24)) (.cells #[.bool false, .slice none 0 0, .int .i64 0] 24))
  have vb := (Var.newAt (w.alloc (.cells #[.bool an, .slice aA aS ac, .int .i64 ae] 24)) bn be (g := w.heap.size + 1) (by simp) (hb.below (ballo w (.cells #[.bool an, .slice aA aS ac, .int .i64 ae] 24)))).next (ballo ((w.alloc (.cells #[.bool an, .slice aA aS ac, .int .i64 ae] 24)).alloc (.cells #[.bool bn, .slice bA bs bc, .int .i64 be] 24)) (.cells #[.bool false, .slice none 0 0, .int .i64 0] 24))
  have kz := Blk.newAt ((w.alloc (.cells #[.bool an, .slice aA aS ac, .int .i64 ae] 24)).alloc (.cells #[.bool bn, .slice bA bs bc, .int .i64 be] 24)) 24 #[.bool false, .slice none 0 0, .int .i64 0] (g := w.heap.size + 1 + 1) (by simp)
  have oa : Off aA aS (w.heap.size + 1 + 1) := Off.old ha (by omega)
  have ob : Off bA bs (w.heap.size + 1 + 1) := Off.old hb (by omega)
  go_wp2_with fail
  generalize ((w.alloc (.cells #[.bool an, .slice aA aS ac, .int .i64 ae] 24)).alloc (.cells #[.bool bn, .slice bA bs bc, .int .i64 be] 24)).alloc (.cells #[.bool false, .slice none 0 0, .int .i64 0] 24) = W0 at *
  obtain ⟨aq0, aq1, aq2⟩ := va.cells
  obtain ⟨bq0, bq1, bq2⟩ := vb.cells
  go_wp2_with fail
  rw [HMN.out]
  clear aq0 aq1 aq2 bq0 bq1 bq2
  have HK : Hid (∀ V, Below W0.heap.size W0 V → (fun V => (V.cell? ⟨w.heap.size, 0, none⟩ = some (.bool an) ∧ V.cell? ⟨w.heap.size, 1, none⟩ = some (.slice aA aS ac) ∧ V.cell? ⟨w.heap.size, 2, none⟩ = some (.int .i64 ae)) ∧ (V.cell? ⟨(w.heap.size + 1), 0, none⟩ = some (.bool bn) ∧ V.cell? ⟨(w.heap.size + 1), 1, none⟩ = some (.slice bA bs bc) ∧ V.cell? ⟨(w.heap.size + 1), 2, none⟩ = some (.int .i64 be)) ∧ Below W0.heap.size W0 V) V) := fun V hV => ⟨va.keep V hV, vb.keep V hV, hV⟩
  have hB := bdrew W0
  refine wp_region_held_drew (S := (fun V => (V.cell? ⟨w.heap.size, 0, none⟩ = some (.bool an) ∧ V.cell? ⟨w.heap.size, 1, none⟩ = some (.slice aA aS ac) ∧ V.cell? ⟨w.heap.size, 2, none⟩ = some (.int .i64 ae)) ∧ (V.cell? ⟨(w.heap.size + 1), 0, none⟩ = some (.bool bn) ∧ V.cell? ⟨(w.heap.size + 1), 1, none⟩ = some (.slice bA bs bc) ∧ V.cell? ⟨(w.heap.size + 1), 2, none⟩ = some (.int .i64 be)) ∧ Below W0.heap.size W0 V)) (by kernel_rfl) (HK.out _ hB) (fun hH => ?_)
  refine wpAnyH_take (i := 0) (oi := ⟨_, _, _, _, _, _⟩) (v := ?_) rfl (by kernel_rfl) (by kernel_rfl) (by kernel_rfl) (fun _ _ _ h => h) (Or.inl ⟨by rfl, ?_⟩) hH ?_
  rotate_left
  · (intro w hSw; (try dsimp only at hSw); go_simp; try (with_reducible rfl))
  simp only [Act.put, List.setIfInBounds_toArray, List.set_cons_zero, List.set_cons_succ]
  refine wpAnyH_take (i := 1) (oi := ⟨_, _, _, _, _, _⟩) (v := ?_) rfl (by kernel_rfl) (by kernel_rfl) (by kernel_rfl) (fun _ _ _ h => h) (Or.inl ⟨by rfl, ?_⟩) hH ?_
  rotate_left
  · (intro w hSw; (try dsimp only at hSw); go_simp; try (with_reducible rfl))
  simp only [Act.put, List.setIfInBounds_toArray, List.set_cons_zero, List.set_cons_succ]
  refine wpAnyH_take (i := 2) (oi := ⟨_, _, _, _, _, _⟩) (v := ?_) rfl (by kernel_rfl) (by kernel_rfl) (by kernel_rfl) (fun _ _ _ h => h) (Or.inl ⟨by rfl, ?_⟩) hH ?_
  rotate_left
  · (intro w hSw; (try dsimp only at hSw); go_simp; try (with_reducible rfl))
  simp only [Act.put, List.setIfInBounds_toArray, List.set_cons_zero, List.set_cons_succ]
  refine wpAnyH_take (i := 3) (oi := ⟨_, _, _, _, _, _⟩) (v := ?_) rfl (by kernel_rfl) (by kernel_rfl) (by kernel_rfl) (fun _ _ _ h => h) (Or.inl ⟨by rfl, ?_⟩) hH ?_
  rotate_left
  · (intro w hSw; (try dsimp only at hSw); go_simp; try (with_reducible rfl))
  simp only [Act.put, List.setIfInBounds_toArray, List.set_cons_zero, List.set_cons_succ]
  refine wpAnyH_take (i := 4) (oi := ⟨_, _, _, _, _, _⟩) (v := ?_) rfl (by kernel_rfl) (by kernel_rfl) (by kernel_rfl) (fun _ _ _ h => h) (Or.inl ⟨by rfl, ?_⟩) hH ?_
  rotate_left
  · (intro w hSw; (try dsimp only at hSw); go_simp; try (with_reducible rfl))
  simp only [Act.put, List.setIfInBounds_toArray, List.set_cons_zero, List.set_cons_succ]
  refine wpAnyH_take (i := 5) (oi := ⟨_, _, _, _, _, _⟩) (v := ?_) rfl (by kernel_rfl) (by kernel_rfl) (by kernel_rfl) (fun _ _ _ h => h) (Or.inl ⟨by rfl, ?_⟩) hH ?_
  rotate_left
  · (intro w hSw; (try dsimp only at hSw); go_simp; try (with_reducible rfl))
  simp only [Act.put, List.setIfInBounds_toArray, List.set_cons_zero, List.set_cons_succ]
  refine wpAnyH_take (i := 7) (oi := ⟨_, _, _, _, _, _⟩) (v := ?_) rfl (by kernel_rfl) (by kernel_rfl) (by kernel_rfl) (fun _ _ _ h => h) (Or.inl ⟨by rfl, ?_⟩) hH ?_
  rotate_left
  · (intro w hSw; (try dsimp only at hSw); go_simp; try (with_reducible rfl))
  simp only [Act.put, List.setIfInBounds_toArray, List.set_cons_zero, List.set_cons_succ]
  refine wpAnyH_take (i := 8) (oi := ⟨_, _, _, _, _, _⟩) (v := ?_) rfl (by kernel_rfl) (by kernel_rfl) (by kernel_rfl) (fun _ _ _ h => h) (Or.inl ⟨by rfl, ?_⟩) hH ?_
  rotate_left
  · (intro w hSw; (try dsimp only at hSw); go_simp; try (with_reducible rfl))
  simp only [Act.put, List.setIfInBounds_toArray, List.set_cons_zero, List.set_cons_succ]
  refine wpAnyH_take (i := 9) (oi := ⟨_, _, _, _, _, _⟩) (v := ?_) rfl (by kernel_rfl) (by kernel_rfl) (by kernel_rfl) (fun _ _ _ h => h) (Or.inl ⟨by rfl, ?_⟩) hH ?_
  rotate_left
  · (intro w hSw; (try dsimp only at hSw); go_simp; try (with_reducible rfl))
  simp only [Act.put, List.setIfInBounds_toArray, List.set_cons_zero, List.set_cons_succ]
  refine wpAnyH_take (i := 10) (oi := ⟨_, _, _, _, _, _⟩) (v := ?_) rfl (by kernel_rfl) (by kernel_rfl) (by kernel_rfl) (fun _ _ _ h => h) (Or.inl ⟨by rfl, ?_⟩) hH ?_
  rotate_left
  · (intro w hSw; (try dsimp only at hSw); go_simp; try (with_reducible rfl))
  simp only [Act.put, List.setIfInBounds_toArray, List.set_cons_zero, List.set_cons_succ]
  refine wpAnyH_take (i := 11) (oi := ⟨_, _, _, _, _, _⟩) (v := ?_) rfl (by kernel_rfl) (by kernel_rfl) (by kernel_rfl) (fun _ _ _ h => h) (Or.inl ⟨by rfl, ?_⟩) hH ?_
  rotate_left
  · (intro w hSw; (try dsimp only at hSw); go_simp; try (with_reducible rfl))
  simp only [Act.put, List.setIfInBounds_toArray, List.set_cons_zero, List.set_cons_succ]
  refine wpAnyH_take (i := 12) (oi := ⟨_, _, _, _, _, _⟩) (v := ?_) rfl (by kernel_rfl) (by kernel_rfl) (by kernel_rfl) (fun _ _ _ h => h) (Or.inl ⟨by rfl, ?_⟩) hH ?_
  rotate_left
  · (intro w hSw; (try dsimp only at hSw); go_simp; try (with_reducible rfl))
  simp only [Act.put, List.setIfInBounds_toArray, List.set_cons_zero, List.set_cons_succ]
  refine wpAnyH_ready (rs := [6]) (by kernel_rfl) (by simp) ?_
  refine AllReadyH.cons (o := ⟨_, _, _, _, _, _⟩) rfl (fun K hK => ?_) AllReadyH.nil
  go_simp
  refine (rleft_any aA aS ac i al _ (va.sl.below hB) (by omega) (by omega)).mono ?_
  rw [← HP.out]
  rintro e w1 ⟨pA, ps, pc, rfl, hsp, hfp, hc⟩
  replace hB := bnext hB hc
  clear hc
  go_wp2_with fail
  refine hK.out _ _ (HK.out _ hB) (fun hH => ?_)
  clear hK K
  refine wpAnyH_ready (rs := [13]) (by kernel_rfl) (by simp) ?_
  refine AllReadyH.cons (o := ⟨_, _, _, _, _, _⟩) rfl (fun K hK => ?_) AllReadyH.nil
  go_simp
  refine (rleft_any bA bs bc j bl _ (vb.sl.below hB) (by omega) (by omega)).mono ?_
  rw [← HQ.out]
  rintro e w2 ⟨qA, qs, qc, rfl, hsq, hfq, hc⟩
  replace hB := bnext hB hc
  replace hsp := hsp.below hc
  clear hc
  go_wp2_with fail
  refine hK.out _ _ (HK.out _ hB) (fun hH => ?_)
  clear hK K
  refine wpAnyH_take (i := 14) (oi := ⟨_, _, _, _, _, _⟩) (v := ?_) rfl (by kernel_rfl) (by kernel_rfl) (by kernel_rfl) (fun _ _ _ h => h) (Or.inl ⟨by rfl, ?_⟩) hH ?_
  rotate_left
  · (intro w hSw; (try dsimp only at hSw); go_simp; try (with_reducible rfl))
  simp only [Act.put, List.setIfInBounds_toArray, List.set_cons_zero, List.set_cons_succ]
  refine wpAnyH_take (i := 15) (oi := ⟨_, _, _, _, _, _⟩) (v := ?_) rfl (by kernel_rfl) (by kernel_rfl) (by kernel_rfl) (fun _ _ _ h => h) (Or.inl ⟨by rfl, ?_⟩) hH ?_
  rotate_left
  · (intro w hSw; (try dsimp only at hSw); go_simp; try (with_reducible rfl))
  simp only [Act.put, List.setIfInBounds_toArray, List.set_cons_zero, List.set_cons_succ]
  refine wpAnyH_done (by kernel_rfl) ?_ _
  clear hH HK
  replace va := va.next hB
  replace vb := vb.next hB
  replace kz := kz.below hB kz.lt
  replace hbw := bnext hbw hB
  clear hB hfp hfq
  have hps : ps ≤ 2000 := by rw [← hsp.len]; exact d2
  have hqs : qs ≤ 2000 := by rw [← hsq.len]; exact d3
  by_cases hnn : an = bn
  · subst hnn
    replace HR : Hid (r = canonD an (P + Q) mn) := by unfold Hid; rw [HR.out, if_pos rfl]
    obtain ⟨aq0, aq1, aq2⟩ := va.cells
    obtain ⟨bq0, bq1, bq2⟩ := vb.cells
    go_wp2_with fail
    clear aq0 aq1 aq2 bq0 bq1 bq2
    obtain ⟨⟨rn, rl, re⟩, hr⟩ : ∃ d, d = canonD an (P + Q) mn := ⟨_, rfl⟩
    rw [← hr] at HR
    have HRR := Lib.hid hr
    clear hr
    have HK : Hid (∀ V, Below w2.heap.size w2 V → (fun V => (V.cell? ⟨w.heap.size, 0, none⟩ = some (.bool an) ∧ V.cell? ⟨w.heap.size, 1, none⟩ = some (.slice aA aS ac) ∧ V.cell? ⟨w.heap.size, 2, none⟩ = some (.int .i64 ae))) V) := fun V hV => va.keep V hV
    have hB := bdrew w2
    refine wp_region_held_drew (S := (fun V => (V.cell? ⟨w.heap.size, 0, none⟩ = some (.bool an) ∧ V.cell? ⟨w.heap.size, 1, none⟩ = some (.slice aA aS ac) ∧ V.cell? ⟨w.heap.size, 2, none⟩ = some (.int .i64 ae)))) (by kernel_rfl) (HK.out _ hB) (fun hH => ?_)
    refine wpAnyH_take (i := 0) (oi := ⟨_, _, _, _, _, _⟩) (v := ?_) rfl (by kernel_rfl) (by kernel_rfl) (by kernel_rfl) (fun _ _ _ h => h) (Or.inl ⟨by rfl, ?_⟩) hH ?_
    rotate_left
    · (intro w hSw; (try dsimp only at hSw); go_simp; try (with_reducible rfl))
    simp only [Act.put, List.setIfInBounds_toArray, List.set_cons_zero, List.set_cons_succ]
    refine wpAnyH_take (i := 1) (oi := ⟨_, _, _, _, _, _⟩) (v := ?_) rfl (by kernel_rfl) (by kernel_rfl) (by kernel_rfl) (fun _ _ _ h => h) (Or.inl ⟨by rfl, ?_⟩) hH ?_
    rotate_left
    · (intro w hSw; (try dsimp only at hSw); go_simp; try (with_reducible rfl))
    simp only [Act.put, List.setIfInBounds_toArray, List.set_cons_zero, List.set_cons_succ]
    refine wpAnyH_take (i := 2) (oi := ⟨_, _, _, _, _, _⟩) (v := ?_) rfl (by kernel_rfl) (by kernel_rfl) (by kernel_rfl) (fun _ _ _ h => h) (Or.inl ⟨by rfl, ?_⟩) hH ?_
    rotate_left
    · (intro w hSw; (try dsimp only at hSw); go_simp; try (with_reducible rfl))
    simp only [Act.put, List.setIfInBounds_toArray, List.set_cons_zero, List.set_cons_succ]
    refine wpAnyH_take (i := 3) (oi := ⟨_, _, _, _, _, _⟩) (v := ?_) rfl (by kernel_rfl) (by kernel_rfl) (by kernel_rfl) (fun _ _ _ h => h) (Or.inl ⟨by rfl, ?_⟩) hH ?_
    rotate_left
    · (intro w hSw; (try dsimp only at hSw); go_simp; try (with_reducible rfl))
    simp only [Act.put, List.setIfInBounds_toArray, List.set_cons_zero, List.set_cons_succ]
    refine wpAnyH_take (i := 5) (oi := ⟨_, _, _, _, _, _⟩) (v := ?_) rfl (by kernel_rfl) (by kernel_rfl) (by kernel_rfl) (fun _ _ _ h => h) (Or.inl ⟨by rfl, ?_⟩) hH ?_
    rotate_left
    · (intro w hSw; (try dsimp only at hSw); go_simp; try (with_reducible rfl))
    simp only [Act.put, List.setIfInBounds_toArray, List.set_cons_zero, List.set_cons_succ]
    refine wpAnyH_ready (rs := [4]) (by kernel_rfl) (by simp) ?_
    refine AllReadyH.cons (o := ⟨_, _, _, _, _, _⟩) rfl (fun K hK => ?_) AllReadyH.nil
    go_simp
    refine (rplus_any pA qA ps pc qs qc _ _ _ (hsp.below hB) (hsq.below hB) (by omega) (by omega)).mono ?_
    rw [val_digs, val_digs]
    rintro e w3 ⟨mA, ms, mc, rfl, hsm, hfm, hc⟩
    replace hB := bnext hB hc
    clear hc
    go_wp2_with fail
    refine hK.out _ _ (HK.out _ hB) (fun hH => ?_)
    clear hK K
    have hms : ms ≤ 2000 := by rw [← hsm.len]; exact d1
    refine wpAnyH_ready (rs := [6]) (by kernel_rfl) (by simp) ?_
    refine AllReadyH.cons (o := ⟨_, _, _, _, _, _⟩) rfl (fun K hK => ?_) AllReadyH.nil
    go_simp
    refine (rof_any an mA ms mc _ mn _ hsm (by omega) (by omega) (by omega)).mono ?_
    rw [val_digs, ← HRR.out]
    rintro e w4 ⟨zA, zs, zc, rfl, hsz, hfz, hc⟩
    have oz : Off zA zs (w.heap.size + 1 + 1) := Off.fresh hfz (Nat.lt_of_lt_of_le kz.lt hB.size)
    have ozz : ∀ g, g < w.heap.size → Off zA zs g := fun g hg => Off.fresh hfz (Nat.lt_of_lt_of_le hg (Nat.le_trans hbw.size hB.size))
    replace hB := bnext hB hc
    clear hc
    go_wp2_with fail
    refine hK.out _ _ (HK.out _ hB) (fun hH => ?_)
    clear hK K
    replace kz := kz.below hB kz.lt
    have vk := va.next hB
    refine wpAnyH_ready (rs := [7]) (by kernel_rfl) (by simp) ?_
    refine AllReadyH.cons (o := ⟨_, _, _, _, _, _⟩) rfl (fun K hK => ?_) AllReadyH.nil
    obtain ⟨z0, z1, z2⟩ := kz.cells3
    have f0 := kz.frozen 0
    have f1 := kz.frozen 1
    have f2 := kz.frozen 2
    go_simp
    clear z0 z1 z2 f0 f1 f2
    refine hK.out _ _ ((vk.blk.off3 (by omega) _ _ _).cells3) (fun hH => ?_)
    clear hK K
    refine wpAnyH_done (by kernel_rfl) ?_ _
    go_wp2_with fail
    refine bodyPost_ret (resD Tryz.results30 rfl (kz.set3 _ _ _)) rfl ?_
    rw [HR.out]
    exact ⟨zA, zs, zc, rfl, hsz.off3 oz _ _ _, (fun g hg _ => ozz g hg), below_set3 (bnext hbw hB) (by omega) _ _ _⟩
  have hnn' : (an == bn) = false := by simp [hnn]
  have HC : Hid (cmpL (digs P) (digs Q) = cmpN P Q) := by unfold Hid; rw [cmpL_trim (limbs_digs _) (limbs_digs _) (trim_digs _) (trim_digs _), val_digs, val_digs]
  obtain ⟨aq0, aq1, aq2⟩ := va.cells
  obtain ⟨bq0, bq1, bq2⟩ := vb.cells
  go_wp2_with fail
  refine (rcompare_any pA qA ps pc qs qc _ _ _ hsp hsq).mono ?_
  rw [HC.out]
  rintro e w9 ⟨rfl, qd, rfl⟩
  clear aq0 aq1 aq2 bq0 bq1 bq2
  have hbd := below_drewN (Below.refl w2.heap.size w2) qd
  replace hsp := hsp.drewN qd
  replace hsq := hsq.drewN qd
  replace va := va.next hbd
  replace vb := vb.next hbd
  replace kz := kz.below hbd kz.lt
  replace hbw := bnext hbw hbd
  clear hbd
  generalize w2.drewN qd = W9 at *
  by_cases hPQ : Q ≤ P
  · replace HR : Hid (r = canonD an (P - Q) mn) := by unfold Hid; rw [HR.out, if_neg hnn, if_pos hPQ]
    have hc0 : 0 ≤ cmpN P Q := by unfold cmpN; rw [if_neg (by omega)]; split <;> omega
    generalize cmpN P Q = cm at *
    go_wp2_with fail
    obtain ⟨⟨rn, rl, re⟩, hr⟩ : ∃ d, d = canonD an (P - Q) mn := ⟨_, rfl⟩
    rw [← hr] at HR
    have HRR := Lib.hid hr
    clear hr
    have HK : Hid (∀ V, Below W9.heap.size W9 V → (fun V => (V.cell? ⟨w.heap.size, 0, none⟩ = some (.bool an) ∧ V.cell? ⟨w.heap.size, 1, none⟩ = some (.slice aA aS ac) ∧ V.cell? ⟨w.heap.size, 2, none⟩ = some (.int .i64 ae))) V) := fun V hV => va.keep V hV
    have hB := bdrew W9
    refine wp_region_held_drew (S := (fun V => (V.cell? ⟨w.heap.size, 0, none⟩ = some (.bool an) ∧ V.cell? ⟨w.heap.size, 1, none⟩ = some (.slice aA aS ac) ∧ V.cell? ⟨w.heap.size, 2, none⟩ = some (.int .i64 ae)))) (by kernel_rfl) (HK.out _ hB) (fun hH => ?_)
    refine wpAnyH_take (i := 0) (oi := ⟨_, _, _, _, _, _⟩) (v := ?_) rfl (by kernel_rfl) (by kernel_rfl) (by kernel_rfl) (fun _ _ _ h => h) (Or.inl ⟨by rfl, ?_⟩) hH ?_
    rotate_left
    · (intro w hSw; (try dsimp only at hSw); go_simp; try (with_reducible rfl))
    simp only [Act.put, List.setIfInBounds_toArray, List.set_cons_zero, List.set_cons_succ]
    refine wpAnyH_take (i := 1) (oi := ⟨_, _, _, _, _, _⟩) (v := ?_) rfl (by kernel_rfl) (by kernel_rfl) (by kernel_rfl) (fun _ _ _ h => h) (Or.inl ⟨by rfl, ?_⟩) hH ?_
    rotate_left
    · (intro w hSw; (try dsimp only at hSw); go_simp; try (with_reducible rfl))
    simp only [Act.put, List.setIfInBounds_toArray, List.set_cons_zero, List.set_cons_succ]
    refine wpAnyH_take (i := 2) (oi := ⟨_, _, _, _, _, _⟩) (v := ?_) rfl (by kernel_rfl) (by kernel_rfl) (by kernel_rfl) (fun _ _ _ h => h) (Or.inl ⟨by rfl, ?_⟩) hH ?_
    rotate_left
    · (intro w hSw; (try dsimp only at hSw); go_simp; try (with_reducible rfl))
    simp only [Act.put, List.setIfInBounds_toArray, List.set_cons_zero, List.set_cons_succ]
    refine wpAnyH_take (i := 3) (oi := ⟨_, _, _, _, _, _⟩) (v := ?_) rfl (by kernel_rfl) (by kernel_rfl) (by kernel_rfl) (fun _ _ _ h => h) (Or.inl ⟨by rfl, ?_⟩) hH ?_
    rotate_left
    · (intro w hSw; (try dsimp only at hSw); go_simp; try (with_reducible rfl))
    simp only [Act.put, List.setIfInBounds_toArray, List.set_cons_zero, List.set_cons_succ]
    refine wpAnyH_take (i := 5) (oi := ⟨_, _, _, _, _, _⟩) (v := ?_) rfl (by kernel_rfl) (by kernel_rfl) (by kernel_rfl) (fun _ _ _ h => h) (Or.inl ⟨by rfl, ?_⟩) hH ?_
    rotate_left
    · (intro w hSw; (try dsimp only at hSw); go_simp; try (with_reducible rfl))
    simp only [Act.put, List.setIfInBounds_toArray, List.set_cons_zero, List.set_cons_succ]
    refine wpAnyH_ready (rs := [4]) (by kernel_rfl) (by simp) ?_
    refine AllReadyH.cons (o := ⟨_, _, _, _, _, _⟩) rfl (fun K hK => ?_) AllReadyH.nil
    go_simp
    refine (rminus_any pA qA ps pc qs qc _ _ _ (hsp.below hB) (hsq.below hB) (by omega) (by rw [val_digs, val_digs]; exact hPQ)).mono ?_
    rw [val_digs, val_digs]
    rintro e w3 ⟨mA, ms, mc, rfl, hsm, hfm, hc⟩
    replace hB := bnext hB hc
    clear hc
    go_wp2_with fail
    refine hK.out _ _ (HK.out _ hB) (fun hH => ?_)
    clear hK K
    have hms : ms ≤ 2000 := by rw [← hsm.len]; exact d4
    refine wpAnyH_ready (rs := [6]) (by kernel_rfl) (by simp) ?_
    refine AllReadyH.cons (o := ⟨_, _, _, _, _, _⟩) rfl (fun K hK => ?_) AllReadyH.nil
    go_simp
    refine (rof_any an mA ms mc _ mn _ hsm (by omega) (by omega) (by omega)).mono ?_
    rw [val_digs, ← HRR.out]
    rintro e w4 ⟨zA, zs, zc, rfl, hsz, hfz, hc⟩
    have oz : Off zA zs (w.heap.size + 1 + 1) := Off.fresh hfz (Nat.lt_of_lt_of_le kz.lt hB.size)
    have ozz : ∀ g, g < w.heap.size → Off zA zs g := fun g hg => Off.fresh hfz (Nat.lt_of_lt_of_le hg (Nat.le_trans hbw.size hB.size))
    replace hB := bnext hB hc
    clear hc
    go_wp2_with fail
    refine hK.out _ _ (HK.out _ hB) (fun hH => ?_)
    clear hK K
    replace kz := kz.below hB kz.lt
    have vk := va.next hB
    refine wpAnyH_ready (rs := [7]) (by kernel_rfl) (by simp) ?_
    refine AllReadyH.cons (o := ⟨_, _, _, _, _, _⟩) rfl (fun K hK => ?_) AllReadyH.nil
    obtain ⟨z0, z1, z2⟩ := kz.cells3
    have f0 := kz.frozen 0
    have f1 := kz.frozen 1
    have f2 := kz.frozen 2
    go_simp
    clear z0 z1 z2 f0 f1 f2
    refine hK.out _ _ ((vk.blk.off3 (by omega) _ _ _).cells3) (fun hH => ?_)
    clear hK K
    refine wpAnyH_done (by kernel_rfl) ?_ _
    go_wp2_with fail
    refine bodyPost_ret (resD Tryz.results30 rfl (kz.set3 _ _ _)) rfl ?_
    rw [HR.out]
    exact ⟨zA, zs, zc, rfl, hsz.off3 oz _ _ _, (fun g hg _ => ozz g hg), below_set3 (bnext hbw hB) (by omega) _ _ _⟩
  · replace HR : Hid (r = canonD bn (Q - P) mn) := by unfold Hid; rw [HR.out, if_neg hnn, if_neg hPQ]
    have hc0 : cmpN P Q < 0 := by rw [cmpN_lt (by omega)]; omega
    generalize cmpN P Q = cm at *
    go_wp2_with fail
    obtain ⟨⟨rn, rl, re⟩, hr⟩ : ∃ d, d = canonD bn (Q - P) mn := ⟨_, rfl⟩
    rw [← hr] at HR
    have HRR := Lib.hid hr
    clear hr
    have HK : Hid (∀ V, Below W9.heap.size W9 V → (fun V => (V.cell? ⟨(w.heap.size + 1), 0, none⟩ = some (.bool bn) ∧ V.cell? ⟨(w.heap.size + 1), 1, none⟩ = some (.slice bA bs bc) ∧ V.cell? ⟨(w.heap.size + 1), 2, none⟩ = some (.int .i64 be))) V) := fun V hV => vb.keep V hV
    have hB := bdrew W9
    refine wp_region_held_drew (S := (fun V => (V.cell? ⟨(w.heap.size + 1), 0, none⟩ = some (.bool bn) ∧ V.cell? ⟨(w.heap.size + 1), 1, none⟩ = some (.slice bA bs bc) ∧ V.cell? ⟨(w.heap.size + 1), 2, none⟩ = some (.int .i64 be)))) (by kernel_rfl) (HK.out _ hB) (fun hH => ?_)
    refine wpAnyH_take (i := 0) (oi := ⟨_, _, _, _, _, _⟩) (v := ?_) rfl (by kernel_rfl) (by kernel_rfl) (by kernel_rfl) (fun _ _ _ h => h) (Or.inl ⟨by rfl, ?_⟩) hH ?_
    rotate_left
    · (intro w hSw; (try dsimp only at hSw); go_simp; try (with_reducible rfl))
    simp only [Act.put, List.setIfInBounds_toArray, List.set_cons_zero, List.set_cons_succ]
    refine wpAnyH_take (i := 1) (oi := ⟨_, _, _, _, _, _⟩) (v := ?_) rfl (by kernel_rfl) (by kernel_rfl) (by kernel_rfl) (fun _ _ _ h => h) (Or.inl ⟨by rfl, ?_⟩) hH ?_
    rotate_left
    · (intro w hSw; (try dsimp only at hSw); go_simp; try (with_reducible rfl))
    simp only [Act.put, List.setIfInBounds_toArray, List.set_cons_zero, List.set_cons_succ]
    refine wpAnyH_take (i := 2) (oi := ⟨_, _, _, _, _, _⟩) (v := ?_) rfl (by kernel_rfl) (by kernel_rfl) (by kernel_rfl) (fun _ _ _ h => h) (Or.inl ⟨by rfl, ?_⟩) hH ?_
    rotate_left
    · (intro w hSw; (try dsimp only at hSw); go_simp; try (with_reducible rfl))
    simp only [Act.put, List.setIfInBounds_toArray, List.set_cons_zero, List.set_cons_succ]
    refine wpAnyH_take (i := 3) (oi := ⟨_, _, _, _, _, _⟩) (v := ?_) rfl (by kernel_rfl) (by kernel_rfl) (by kernel_rfl) (fun _ _ _ h => h) (Or.inl ⟨by rfl, ?_⟩) hH ?_
    rotate_left
    · (intro w hSw; (try dsimp only at hSw); go_simp; try (with_reducible rfl))
    simp only [Act.put, List.setIfInBounds_toArray, List.set_cons_zero, List.set_cons_succ]
    refine wpAnyH_take (i := 5) (oi := ⟨_, _, _, _, _, _⟩) (v := ?_) rfl (by kernel_rfl) (by kernel_rfl) (by kernel_rfl) (fun _ _ _ h => h) (Or.inl ⟨by rfl, ?_⟩) hH ?_
    rotate_left
    · (intro w hSw; (try dsimp only at hSw); go_simp; try (with_reducible rfl))
    simp only [Act.put, List.setIfInBounds_toArray, List.set_cons_zero, List.set_cons_succ]
    refine wpAnyH_ready (rs := [4]) (by kernel_rfl) (by simp) ?_
    refine AllReadyH.cons (o := ⟨_, _, _, _, _, _⟩) rfl (fun K hK => ?_) AllReadyH.nil
    go_simp
    refine (rminus_any qA pA qs qc ps pc _ _ _ (hsq.below hB) (hsp.below hB) (by omega) (by rw [val_digs, val_digs]; omega)).mono ?_
    rw [val_digs, val_digs]
    rintro e w3 ⟨mA, ms, mc, rfl, hsm, hfm, hc⟩
    replace hB := bnext hB hc
    clear hc
    go_wp2_with fail
    refine hK.out _ _ (HK.out _ hB) (fun hH => ?_)
    clear hK K
    have hms : ms ≤ 2000 := by rw [← hsm.len]; exact d5
    refine wpAnyH_ready (rs := [6]) (by kernel_rfl) (by simp) ?_
    refine AllReadyH.cons (o := ⟨_, _, _, _, _, _⟩) rfl (fun K hK => ?_) AllReadyH.nil
    go_simp
    refine (rof_any bn mA ms mc _ mn _ hsm (by omega) (by omega) (by omega)).mono ?_
    rw [val_digs, ← HRR.out]
    rintro e w4 ⟨zA, zs, zc, rfl, hsz, hfz, hc⟩
    have oz : Off zA zs (w.heap.size + 1 + 1) := Off.fresh hfz (Nat.lt_of_lt_of_le kz.lt hB.size)
    have ozz : ∀ g, g < w.heap.size → Off zA zs g := fun g hg => Off.fresh hfz (Nat.lt_of_lt_of_le hg (Nat.le_trans hbw.size hB.size))
    replace hB := bnext hB hc
    clear hc
    go_wp2_with fail
    refine hK.out _ _ (HK.out _ hB) (fun hH => ?_)
    clear hK K
    replace kz := kz.below hB kz.lt
    have vk := vb.next hB
    refine wpAnyH_ready (rs := [7]) (by kernel_rfl) (by simp) ?_
    refine AllReadyH.cons (o := ⟨_, _, _, _, _, _⟩) rfl (fun K hK => ?_) AllReadyH.nil
    obtain ⟨z0, z1, z2⟩ := kz.cells3
    have f0 := kz.frozen 0
    have f1 := kz.frozen 1
    have f2 := kz.frozen 2
    go_simp
    clear z0 z1 z2 f0 f1 f2
    refine hK.out _ _ ((vk.blk.off3 (by omega) _ _ _).cells3) (fun hH => ?_)
    clear hK K
    refine wpAnyH_done (by kernel_rfl) ?_ _
    go_wp2_with fail
    refine bodyPost_ret (resD Tryz.results30 rfl (kz.set3 _ _ _)) rfl ?_
    rw [HR.out]
    exact ⟨zA, zs, zc, rfl, hsz.off3 oz _ _ _, (fun g hg _ => ozz g hg), below_set3 (bnext hbw hB) (by omega) _ _ _⟩

set_option maxRecDepth 100000 in
set_option maxHeartbeats 4000000 in
theorem rproduct_any (an : Bool) (aA : Option Addr) (aS ac : Nat) (al : List Nat) (ae : Int) (bn : Bool) (bA : Option Addr) (bs bc : Nat) (bl : List Nat) (be : Int) (w : World) (ha : SL w aA aS ac al) (hb : SL w bA bs bc bl) (hva : vld ⟨an, al, ae⟩ = true) (hvb : vld ⟨bn, bl, be⟩ = true) :
    Calls Tryz.prog 37 #[.agg #[.bool an, .slice aA aS ac, .int .i64 ae], .agg #[.bool bn, .slice bA bs bc, .int .i64 be]] w (RetW (canonD (an != bn) (val al * val bl) (ae + be)) (fun g => Off aA aS g ∧ Off bA bs g) w) := by
  have xa := vld_exp hva
  have xb := vld_exp hvb
  dsimp only at xa xb
  have hsa : aS ≤ 256 := by rw [← ha.len]; exact vld_short hva
  have hsb : bs ≤ 256 := by rw [← hb.len]; exact vld_short hvb
  have hwe : IntKind.i64.wrap (ae + be) = ae + be := IntWalk.i64_in _ (by omega)
  have hlv : (digs (val al * val bl)).length ≤ 512 := by have := prod_short ha.lt hb.lt; rw [ha.len, hb.len] at this; omega
  obtain ⟨⟨rn, rl, re⟩, hr⟩ : ∃ d, d = canonD (an != bn) (val al * val bl) (ae + be) := ⟨_, rfl⟩
  rw [← hr]
  have HRR := Lib.hid hr
  have HLV := Lib.hid hlv
  clear hr hva hvb hlv
  go_enter Tryz.func37, Tryz.ntmps37
  have hbw := bnext (bnext (ballo w (.cells #[.bool an, .slice aA aS ac, .int .i64 ae] 24)) (ballo (w.alloc (.cells #[.bool an, .slice aA aS ac, .int .i64 ae] 24)) (.cells #[.bool bn, .slice bA bs bc, .int .i64 be] 24))) (ballo ((w.alloc (.cells #[.bool an, .slice aA aS ac, .int .i64 ae] 24)).alloc (.cells #[.bool bn, .slice bA bs bc, .int .i64 be] 24)) (.cells #[.bool false, .slice none 0 0, .int .i64 0] 24))
  have va := ((Var.new w an ae ha).next (ballo (w.alloc (.cells #[.bool an, .slice aA aS ac, .int .i64 ae] 24)) (.cells #[.bool bn, .slice bA bs bc, .int .i64 be] 24))).next (ballo ((w.alloc (.cells #[.bool an, .slice aA aS ac, .int .i64 ae] 24)).alloc (.cells #[.bool bn, .slice bA bs bc, .int .i64 be] 24)) (.cells #[.bool false, .slice none 0 0, .int .i64 0] 24))
  have vb := (Var.newAt (w.alloc (.cells #[.bool an, .slice aA aS ac, .int .i64 ae] 24)) bn be (g := w.heap.size + 1) (by simp) (hb.below (ballo w (.cells #[.bool an, .slice aA aS ac, .int .i64 ae] 24)))).next (ballo ((w.alloc (.cells #[.bool an, .slice aA aS ac, .int .i64 ae] 24)).alloc (.cells #[.bool bn, .slice bA bs bc, .int .i64 be] 24)) (.cells #[.bool false, .slice none 0 0, .int .i64 0] 24))
  have kz := Blk.newAt ((w.alloc (.cells #[.bool an, .slice aA aS ac, .int .i64 ae] 24)).alloc (.cells #[.bool bn, .slice bA bs bc, .int .i64 be] 24)) 24 #[.bool false, .slice none 0 0, .int .i64 0] (g := w.heap.size + 1 + 1) (by simp)
  have oa : Off aA aS (w.heap.size + 1 + 1) := Off.old ha (by omega)
  have ob : Off bA bs (w.heap.size + 1 + 1) := Off.old hb (by omega)
  go_wp2_with fail
  generalize ((w.alloc (.cells #[.bool an, .slice aA aS ac, .int .i64 ae] 24)).alloc (.cells #[.bool bn, .slice bA bs bc, .int .i64 be] 24)).alloc (.cells #[.bool false, .slice none 0 0, .int .i64 0] 24) = W0 at *
  have HK : Hid (∀ V, Below W0.heap.size W0 V → (fun V => (V.cell? ⟨w.heap.size, 0, none⟩ = some (.bool an) ∧ V.cell? ⟨w.heap.size, 1, none⟩ = some (.slice aA aS ac) ∧ V.cell? ⟨w.heap.size, 2, none⟩ = some (.int .i64 ae)) ∧ (V.cell? ⟨(w.heap.size + 1), 0, none⟩ = some (.bool bn) ∧ V.cell? ⟨(w.heap.size + 1), 1, none⟩ = some (.slice bA bs bc) ∧ V.cell? ⟨(w.heap.size + 1), 2, none⟩ = some (.int .i64 be))) V) := fun V hV => ⟨va.keep V hV, vb.keep V hV⟩
  have hB := bdrew W0
  refine wp_region_held_drew (S := (fun V => (V.cell? ⟨w.heap.size, 0, none⟩ = some (.bool an) ∧ V.cell? ⟨w.heap.size, 1, none⟩ = some (.slice aA aS ac) ∧ V.cell? ⟨w.heap.size, 2, none⟩ = some (.int .i64 ae)) ∧ (V.cell? ⟨(w.heap.size + 1), 0, none⟩ = some (.bool bn) ∧ V.cell? ⟨(w.heap.size + 1), 1, none⟩ = some (.slice bA bs bc) ∧ V.cell? ⟨(w.heap.size + 1), 2, none⟩ = some (.int .i64 be)))) (by kernel_rfl) (HK.out _ hB) (fun hH => ?_)
  refine wpAnyH_take (i := 0) (oi := ⟨_, _, _, _, _, _⟩) (v := ?_) rfl (by kernel_rfl) (by kernel_rfl) (by kernel_rfl) (fun _ _ _ h => h) (Or.inl ⟨by rfl, ?_⟩) hH ?_
  rotate_left
  · (intro w hSw; (try dsimp only at hSw); go_simp; try (with_reducible rfl))
  simp only [Act.put, List.setIfInBounds_toArray, List.set_cons_zero, List.set_cons_succ]
  refine wpAnyH_take (i := 1) (oi := ⟨_, _, _, _, _, _⟩) (v := ?_) rfl (by kernel_rfl) (by kernel_rfl) (by kernel_rfl) (fun _ _ _ h => h) (Or.inl ⟨by rfl, ?_⟩) hH ?_
  rotate_left
  · (intro w hSw; (try dsimp only at hSw); go_simp; try (with_reducible rfl))
  simp only [Act.put, List.setIfInBounds_toArray, List.set_cons_zero, List.set_cons_succ]
  refine wpAnyH_take (i := 2) (oi := ⟨_, _, _, _, _, _⟩) (v := ?_) rfl (by kernel_rfl) (by kernel_rfl) (by kernel_rfl) (fun _ _ _ h => h) (Or.inl ⟨by rfl, ?_⟩) hH ?_
  rotate_left
  · (intro w hSw; (try dsimp only at hSw); go_simp; try (with_reducible rfl))
  simp only [Act.put, List.setIfInBounds_toArray, List.set_cons_zero, List.set_cons_succ]
  refine wpAnyH_take (i := 3) (oi := ⟨_, _, _, _, _, _⟩) (v := ?_) rfl (by kernel_rfl) (by kernel_rfl) (by kernel_rfl) (fun _ _ _ h => h) (Or.inl ⟨by rfl, ?_⟩) hH ?_
  rotate_left
  · (intro w hSw; (try dsimp only at hSw); go_simp; try (with_reducible rfl))
  simp only [Act.put, List.setIfInBounds_toArray, List.set_cons_zero, List.set_cons_succ]
  refine wpAnyH_take (i := 4) (oi := ⟨_, _, _, _, _, _⟩) (v := ?_) rfl (by kernel_rfl) (by kernel_rfl) (by kernel_rfl) (fun _ _ _ h => h) (Or.inl ⟨by rfl, ?_⟩) hH ?_
  rotate_left
  · (intro w hSw; (try dsimp only at hSw); go_simp; try (with_reducible rfl))
  simp only [Act.put, List.setIfInBounds_toArray, List.set_cons_zero, List.set_cons_succ]
  refine wpAnyH_take (i := 5) (oi := ⟨_, _, _, _, _, _⟩) (v := ?_) rfl (by kernel_rfl) (by kernel_rfl) (by kernel_rfl) (fun _ _ _ h => h) (Or.inl ⟨by rfl, ?_⟩) hH ?_
  rotate_left
  · (intro w hSw; (try dsimp only at hSw); go_simp; try (with_reducible rfl))
  simp only [Act.put, List.setIfInBounds_toArray, List.set_cons_zero, List.set_cons_succ]
  refine wpAnyH_take (i := 6) (oi := ⟨_, _, _, _, _, _⟩) (v := ?_) rfl (by kernel_rfl) (by kernel_rfl) (by kernel_rfl) (fun _ _ _ h => h) (Or.inl ⟨by rfl, ?_⟩) hH ?_
  rotate_left
  · (intro w hSw; (try dsimp only at hSw); go_simp; try (with_reducible rfl))
  simp only [Act.put, List.setIfInBounds_toArray, List.set_cons_zero, List.set_cons_succ]
  refine wpAnyH_take (i := 7) (oi := ⟨_, _, _, _, _, _⟩) (v := ?_) rfl (by kernel_rfl) (by kernel_rfl) (by kernel_rfl) (fun _ _ _ h => h) (Or.inl ⟨by rfl, ?_⟩) hH ?_
  rotate_left
  · (intro w hSw; (try dsimp only at hSw); go_simp; try (with_reducible rfl))
  simp only [Act.put, List.setIfInBounds_toArray, List.set_cons_zero, List.set_cons_succ]
  refine wpAnyH_take (i := 8) (oi := ⟨_, _, _, _, _, _⟩) (v := ?_) rfl (by kernel_rfl) (by kernel_rfl) (by kernel_rfl) (fun _ _ _ h => h) (Or.inl ⟨by rfl, ?_⟩) hH ?_
  rotate_left
  · (intro w hSw; (try dsimp only at hSw); go_simp; try (with_reducible rfl))
  simp only [Act.put, List.setIfInBounds_toArray, List.set_cons_zero, List.set_cons_succ]
  refine wpAnyH_take (i := 10) (oi := ⟨_, _, _, _, _, _⟩) (v := ?_) rfl (by kernel_rfl) (by kernel_rfl) (by kernel_rfl) (fun _ _ _ h => h) (Or.inl ⟨by rfl, ?_⟩) hH ?_
  rotate_left
  · (intro w hSw; (try dsimp only at hSw); go_simp; try (with_reducible rfl))
  simp only [Act.put, List.setIfInBounds_toArray, List.set_cons_zero, List.set_cons_succ]
  refine wpAnyH_take (i := 11) (oi := ⟨_, _, _, _, _, _⟩) (v := ?_) rfl (by kernel_rfl) (by kernel_rfl) (by kernel_rfl) (fun _ _ _ h => h) (Or.inl ⟨by rfl, ?_⟩) hH ?_
  rotate_left
  · (intro w hSw; (try dsimp only at hSw); go_simp; try (with_reducible rfl))
  simp only [Act.put, List.setIfInBounds_toArray, List.set_cons_zero, List.set_cons_succ]
  refine wpAnyH_take (i := 12) (oi := ⟨_, _, _, _, _, _⟩) (v := ?_) rfl (by kernel_rfl) (by kernel_rfl) (by kernel_rfl) (fun _ _ _ h => h) (Or.inl ⟨by rfl, ?_⟩) hH ?_
  rotate_left
  · (intro w hSw; (try dsimp only at hSw); go_simp; try (with_reducible rfl))
  simp only [Act.put, List.setIfInBounds_toArray, List.set_cons_zero, List.set_cons_succ]
  refine wpAnyH_take (i := 13) (oi := ⟨_, _, _, _, _, _⟩) (v := ?_) rfl (by kernel_rfl) (by kernel_rfl) (by kernel_rfl) (fun _ _ _ h => h) (Or.inl ⟨by rfl, ?_⟩) hH ?_
  rotate_left
  · (intro w hSw; (try dsimp only at hSw); go_simp; try (with_reducible rfl))
  simp only [Act.put, List.setIfInBounds_toArray, List.set_cons_zero, List.set_cons_succ]
  refine wpAnyH_take (i := 14) (oi := ⟨_, _, _, _, _, _⟩) (v := ?_) rfl (by kernel_rfl) (by kernel_rfl) (by kernel_rfl) (fun _ _ _ h => h) (Or.inl ⟨by rfl, ?_⟩) hH ?_
  rotate_left
  · (intro w hSw; (try dsimp only at hSw); go_simp; try (with_reducible rfl))
  simp only [Act.put, List.setIfInBounds_toArray, List.set_cons_zero, List.set_cons_succ]
  refine wpAnyH_ready (rs := [9]) (by kernel_rfl) (by simp) ?_
  refine AllReadyH.cons (o := ⟨_, _, _, _, _, _⟩) rfl (fun K hK => ?_) AllReadyH.nil
  go_simp
  refine (rtimes_any aA bA aS ac bs bc al bl _ (va.sl.below hB) (vb.sl.below hB) (by omega) (by omega)).mono ?_
  rintro e w1 ⟨mA, ms, mc, rfl, hsm, hfm, hc⟩
  replace hB := bnext hB hc
  clear hc
  go_wp2_with fail
  refine hK.out _ _ (HK.out _ hB) (fun hH => ?_)
  clear hK K
  have hms : ms ≤ 512 := by rw [← hsm.len]; exact HLV.out
  refine wpAnyH_ready (rs := [15]) (by kernel_rfl) (by simp) ?_
  refine AllReadyH.cons (o := ⟨_, _, _, _, _, _⟩) rfl (fun K hK => ?_) AllReadyH.nil
  go_simp
  refine (rof_any (an != bn) mA ms mc _ (ae + be) _ hsm (by omega) (by omega) (by omega)).mono ?_
  rw [val_digs, ← HRR.out]
  rintro e w2 ⟨zA, zs, zc, rfl, hsz, hfz, hc⟩
  have oz : Off zA zs (w.heap.size + 1 + 1) := Off.fresh hfz (Nat.lt_of_lt_of_le kz.lt hB.size)
  have ozz : ∀ g, g < w.heap.size → Off zA zs g := fun g hg => Off.fresh hfz (Nat.lt_of_lt_of_le hg (Nat.le_trans hbw.size hB.size))
  replace hB := bnext hB hc
  clear hc
  go_wp2_with fail
  refine hK.out _ _ (HK.out _ hB) (fun hH => ?_)
  clear hK K
  replace kz := kz.below hB kz.lt
  have vk := va.next hB
  have vk' := vb.next hB
  refine wpAnyH_ready (rs := [16]) (by kernel_rfl) (by simp) ?_
  refine AllReadyH.cons (o := ⟨_, _, _, _, _, _⟩) rfl (fun K hK => ?_) AllReadyH.nil
  obtain ⟨z0, z1, z2⟩ := kz.cells3
  have f0 := kz.frozen 0
  have f1 := kz.frozen 1
  have f2 := kz.frozen 2
  go_simp
  clear z0 z1 z2 f0 f1 f2
  refine hK.out _ _ (⟨(vk.blk.off3 (by omega) _ _ _).cells3, (vk'.blk.off3 (by omega) _ _ _).cells3⟩) (fun hH => ?_)
  clear hK K
  refine wpAnyH_done (by kernel_rfl) ?_ _
  go_wp2_with fail
  refine bodyPost_ret (resD Tryz.results37 rfl (kz.set3 _ _ _)) rfl ?_
  exact ⟨zA, zs, zc, rfl, hsz.off3 oz _ _ _, (fun g hg _ => ozz g hg), below_set3 (bnext hbw hB) (by omega) _ _ _⟩

set_option maxRecDepth 100000 in
set_option maxHeartbeats 4000000 in
theorem radd_any (an : Bool) (aA : Option Addr) (aS ac : Nat) (al : List Nat) (ae : Int) (bn : Bool) (bA : Option Addr) (bs bc : Nat) (bl : List Nat) (be : Int) (w : World) (ha : SL w aA aS ac al) (hb : SL w bA bs bc bl) (hla : aS ≤ 1000000) (hlb : bs ≤ 1000000) :
    Calls Tryz.prog 9 #[.agg #[.bool an, .slice aA aS ac, .int .i64 ae], .agg #[.bool bn, .slice bA bs bc, .int .i64 be]] w (RetX (addD ⟨an, al, ae⟩ ⟨bn, bl, be⟩).1 (addD ⟨an, al, ae⟩ ⟨bn, bl, be⟩).2 (fun g => Off aA aS g ∧ Off bA bs g) w) := by
  obtain ⟨X, hX⟩ : ∃ X, X = addD ⟨an, al, ae⟩ ⟨bn, bl, be⟩ := ⟨_, rfl⟩
  rw [← hX]
  have HX := Lib.hid hX
  clear hX
  go_enter Tryz.func9, Tryz.ntmps9
  have hbw := bnext (bnext (ballo w (.cells #[.bool an, .slice aA aS ac, .int .i64 ae] 24)) (ballo (w.alloc (.cells #[.bool an, .slice aA aS ac, .int .i64 ae] 24)) (.cells #[.bool bn, .slice bA bs bc, .int .i64 be] 24))) (ballo ((w.alloc (.cells #[.bool an, .slice aA aS ac, .int .i64 ae] 24)).alloc (.cells #[.bool bn, .slice bA bs bc, .int .i64 be] 24)) (.cells #[.bool false, .slice none 0 0, .int .i64 0] 24))
  have va := ((Var.new w an ae ha).next (ballo (w.alloc (.cells #[.bool an, .slice aA aS ac, .int .i64 ae] 24)) (.cells #[.bool bn, .slice bA bs bc, .int .i64 be] 24))).next (ballo ((w.alloc (.cells #[.bool an, .slice aA aS ac, .int .i64 ae] 24)).alloc (.cells #[.bool bn, .slice bA bs bc, .int .i64 be] 24)) (.cells #[.bool false, .slice none 0 0, .int .i64 0] 24))
  have vb := (Var.newAt (w.alloc (.cells #[.bool an, .slice aA aS ac, .int .i64 ae] 24)) bn be (g := w.heap.size + 1) (by simp) (hb.below (ballo w (.cells #[.bool an, .slice aA aS ac, .int .i64 ae] 24)))).next (ballo ((w.alloc (.cells #[.bool an, .slice aA aS ac, .int .i64 ae] 24)).alloc (.cells #[.bool bn, .slice bA bs bc, .int .i64 be] 24)) (.cells #[.bool false, .slice none 0 0, .int .i64 0] 24))
  have kz := Blk.newAt ((w.alloc (.cells #[.bool an, .slice aA aS ac, .int .i64 ae] 24)).alloc (.cells #[.bool bn, .slice bA bs bc, .int .i64 be] 24)) 24 #[.bool false, .slice none 0 0, .int .i64 0] (g := w.heap.size + 1 + 1) (by simp)
  have oa : Off aA aS (w.heap.size + 1 + 1) := Off.old ha (by omega)
  have ob : Off bA bs (w.heap.size + 1 + 1) := Off.old hb (by omega)
  go_wp2_with fail
  generalize ((w.alloc (.cells #[.bool an, .slice aA aS ac, .int .i64 ae] 24)).alloc (.cells #[.bool bn, .slice bA bs bc, .int .i64 be] 24)).alloc (.cells #[.bool false, .slice none 0 0, .int .i64 0] 24) = W0 at *
  refine (rvalid_any an aA aS ac al ae _ va.sl (by omega)).mono ?_
  rintro e w1 ⟨rfl, hb1⟩
  replace va := va.next hb1
  replace vb := vb.next hb1
  replace kz := kz.below hb1 kz.lt
  replace hbw := bnext hbw hb1
  clear hb1
  cases hva : vld ⟨an, al, ae⟩
  · have HBAD : Hid (addD ⟨an, al, ae⟩ ⟨bn, bl, be⟩ = (zeroD, 1)) := by unfold Hid addD; rw [hva]; rfl
    obtain ⟨z0, z1, z2⟩ := kz.cells3
    have f0 := kz.frozen 0
    have f1 := kz.frozen 1
    have f2 := kz.frozen 2
    go_wp2_with fail
    clear z0 z1 z2 f0 f1 f2
    refine bodyPost_ret (resDE Tryz.results9 rfl (kz.set3 _ _ _)) rfl ?_
    rw [HX.out, HBAD.out]
    exact ⟨none, 0, 0, rfl, SL.nil _, (fun _ _ _ => Off.zero), below_set3 hbw (by omega) _ _ _⟩
  have HVA := Lib.hid hva
  clear hva
  obtain ⟨bq0, bq1, bq2⟩ := vb.cells
  go_wp2_with fail
  clear bq0 bq1 bq2
  refine (rvalid_any bn bA bs bc bl be _ vb.sl (by omega)).mono ?_
  rintro e w2 ⟨rfl, hb2⟩
  replace va := va.next hb2
  replace vb := vb.next hb2
  replace kz := kz.below hb2 kz.lt
  replace hbw := bnext hbw hb2
  clear hb2
  cases hvb : vld ⟨bn, bl, be⟩
  · have HBAD : Hid (addD ⟨an, al, ae⟩ ⟨bn, bl, be⟩ = (zeroD, 1)) := by unfold Hid addD; rw [hvb]; simp
    obtain ⟨z0, z1, z2⟩ := kz.cells3
    have f0 := kz.frozen 0
    have f1 := kz.frozen 1
    have f2 := kz.frozen 2
    go_wp2_with fail
    clear z0 z1 z2 f0 f1 f2
    refine bodyPost_ret (resDE Tryz.results9 rfl (kz.set3 _ _ _)) rfl ?_
    rw [HX.out, HBAD.out]
    exact ⟨none, 0, 0, rfl, SL.nil _, (fun _ _ _ => Off.zero), below_set3 hbw (by omega) _ _ _⟩
  have HVB := Lib.hid hvb
  clear hvb
  obtain ⟨aq0, aq1, aq2⟩ := va.cells
  obtain ⟨bq0, bq1, bq2⟩ := vb.cells
  go_wp2_with fail
  clear aq0 aq1 aq2 bq0 bq1 bq2
  have HE : Hid (addD ⟨an, al, ae⟩ ⟨bn, bl, be⟩ = chk (rsumD ⟨an, al, ae⟩ ⟨bn, bl, be⟩)) := by unfold Hid addD; rw [if_pos ⟨HVA.out, HVB.out⟩]; rw [chk_sum HVA.out HVB.out]
  obtain ⟨⟨rn, rl, re⟩, hr⟩ : ∃ d, d = rsumD ⟨an, al, ae⟩ ⟨bn, bl, be⟩ := ⟨_, rfl⟩
  rw [← hr] at HE
  have HRR := Lib.hid hr
  clear hr
  refine (rsum_any an aA aS ac al ae bn bA bs bc bl be _ va.sl vb.sl HVA.out HVB.out).mono ?_
  rw [← HRR.out]
  rintro e w3 ⟨rA, rs, rc, rfl, hsr, hor, hb3⟩
  have orr := hor _ kz.lt ⟨oa, ob⟩
  have or2 : ∀ g, g < w.heap.size → (Off aA aS g ∧ Off bA bs g) → Off rA rs g := fun g hg ho => hor g (Nat.lt_of_lt_of_le hg hbw.size) ho
  clear hor
  dsimp only at hsr
  replace va := va.next hb3
  replace vb := vb.next hb3
  replace kz := kz.below hb3 kz.lt
  replace hbw := bnext hbw hb3
  clear hb3
  have hrs : rs ≤ 2000 := by rw [← hsr.len]; exact rsum_len HVA.out HVB.out HRR.out
  go_wp2_with fail
  cases hvr : vld ⟨rn, rl, re⟩
  · refine (rchecked_big rn rA rs rc rl re _ hsr (by omega) hvr).mono ?_
    rintro e w4 ⟨rfl, hb4⟩
    replace va := va.next hb4
    replace vb := vb.next hb4
    replace kz := kz.below hb4 kz.lt
    replace hbw := bnext hbw hb4
    clear hb4
    obtain ⟨z0, z1, z2⟩ := kz.cells3
    have f0 := kz.frozen 0
    have f1 := kz.frozen 1
    have f2 := kz.frozen 2
    go_wp2_with fail
    clear z0 z1 z2 f0 f1 f2
    refine bodyPost_ret (resDE Tryz.results9 rfl (kz.set3 _ _ _)) rfl ?_
    rw [HX.out, HE.out, chk, hvr]
    exact ⟨none, 0, 0, rfl, SL.nil _, (fun _ _ _ => Off.zero), below_set3 hbw (by omega) _ _ _⟩
  · refine (rchecked_ok rn rA rs rc rl re _ hsr (by omega) hvr).mono ?_
    rintro e w4 ⟨rfl, hb4⟩
    replace va := va.next hb4
    replace vb := vb.next hb4
    replace kz := kz.below hb4 kz.lt
    replace hbw := bnext hbw hb4
    replace hsr := hsr.below hb4
    clear hb4
    obtain ⟨z0, z1, z2⟩ := kz.cells3
    have f0 := kz.frozen 0
    have f1 := kz.frozen 1
    have f2 := kz.frozen 2
    go_wp2_with fail
    clear z0 z1 z2 f0 f1 f2
    refine bodyPost_ret (resDE Tryz.results9 rfl (kz.set3 _ _ _)) rfl ?_
    rw [HX.out, HE.out, chk, hvr]
    exact ⟨rA, rs, rc, rfl, hsr.off3 orr _ _ _, or2, below_set3 hbw (by omega) _ _ _⟩

set_option maxRecDepth 100000 in
set_option maxHeartbeats 4000000 in
theorem rmul_any (an : Bool) (aA : Option Addr) (aS ac : Nat) (al : List Nat) (ae : Int) (bn : Bool) (bA : Option Addr) (bs bc : Nat) (bl : List Nat) (be : Int) (w : World) (ha : SL w aA aS ac al) (hb : SL w bA bs bc bl) (hla : aS ≤ 1000000) (hlb : bs ≤ 1000000) :
    Calls Tryz.prog 14 #[.agg #[.bool an, .slice aA aS ac, .int .i64 ae], .agg #[.bool bn, .slice bA bs bc, .int .i64 be]] w (RetX (mulD ⟨an, al, ae⟩ ⟨bn, bl, be⟩).1 (mulD ⟨an, al, ae⟩ ⟨bn, bl, be⟩).2 (fun g => Off aA aS g ∧ Off bA bs g) w) := by
  obtain ⟨X, hX⟩ : ∃ X, X = mulD ⟨an, al, ae⟩ ⟨bn, bl, be⟩ := ⟨_, rfl⟩
  rw [← hX]
  have HX := Lib.hid hX
  clear hX
  go_enter Tryz.func14, Tryz.ntmps14
  have hbw := bnext (bnext (ballo w (.cells #[.bool an, .slice aA aS ac, .int .i64 ae] 24)) (ballo (w.alloc (.cells #[.bool an, .slice aA aS ac, .int .i64 ae] 24)) (.cells #[.bool bn, .slice bA bs bc, .int .i64 be] 24))) (ballo ((w.alloc (.cells #[.bool an, .slice aA aS ac, .int .i64 ae] 24)).alloc (.cells #[.bool bn, .slice bA bs bc, .int .i64 be] 24)) (.cells #[.bool false, .slice none 0 0, .int .i64 0] 24))
  have va := ((Var.new w an ae ha).next (ballo (w.alloc (.cells #[.bool an, .slice aA aS ac, .int .i64 ae] 24)) (.cells #[.bool bn, .slice bA bs bc, .int .i64 be] 24))).next (ballo ((w.alloc (.cells #[.bool an, .slice aA aS ac, .int .i64 ae] 24)).alloc (.cells #[.bool bn, .slice bA bs bc, .int .i64 be] 24)) (.cells #[.bool false, .slice none 0 0, .int .i64 0] 24))
  have vb := (Var.newAt (w.alloc (.cells #[.bool an, .slice aA aS ac, .int .i64 ae] 24)) bn be (g := w.heap.size + 1) (by simp) (hb.below (ballo w (.cells #[.bool an, .slice aA aS ac, .int .i64 ae] 24)))).next (ballo ((w.alloc (.cells #[.bool an, .slice aA aS ac, .int .i64 ae] 24)).alloc (.cells #[.bool bn, .slice bA bs bc, .int .i64 be] 24)) (.cells #[.bool false, .slice none 0 0, .int .i64 0] 24))
  have kz := Blk.newAt ((w.alloc (.cells #[.bool an, .slice aA aS ac, .int .i64 ae] 24)).alloc (.cells #[.bool bn, .slice bA bs bc, .int .i64 be] 24)) 24 #[.bool false, .slice none 0 0, .int .i64 0] (g := w.heap.size + 1 + 1) (by simp)
  have oa : Off aA aS (w.heap.size + 1 + 1) := Off.old ha (by omega)
  have ob : Off bA bs (w.heap.size + 1 + 1) := Off.old hb (by omega)
  go_wp2_with fail
  generalize ((w.alloc (.cells #[.bool an, .slice aA aS ac, .int .i64 ae] 24)).alloc (.cells #[.bool bn, .slice bA bs bc, .int .i64 be] 24)).alloc (.cells #[.bool false, .slice none 0 0, .int .i64 0] 24) = W0 at *
  refine (rvalid_any an aA aS ac al ae _ va.sl (by omega)).mono ?_
  rintro e w1 ⟨rfl, hb1⟩
  replace va := va.next hb1
  replace vb := vb.next hb1
  replace kz := kz.below hb1 kz.lt
  replace hbw := bnext hbw hb1
  clear hb1
  cases hva : vld ⟨an, al, ae⟩
  · have HBAD : Hid (mulD ⟨an, al, ae⟩ ⟨bn, bl, be⟩ = (zeroD, 1)) := by unfold Hid mulD; rw [hva]; rfl
    obtain ⟨z0, z1, z2⟩ := kz.cells3
    have f0 := kz.frozen 0
    have f1 := kz.frozen 1
    have f2 := kz.frozen 2
    go_wp2_with fail
    clear z0 z1 z2 f0 f1 f2
    refine bodyPost_ret (resDE Tryz.results14 rfl (kz.set3 _ _ _)) rfl ?_
    rw [HX.out, HBAD.out]
    exact ⟨none, 0, 0, rfl, SL.nil _, (fun _ _ _ => Off.zero), below_set3 hbw (by omega) _ _ _⟩
  have HVA := Lib.hid hva
  clear hva
  obtain ⟨bq0, bq1, bq2⟩ := vb.cells
  go_wp2_with fail
  clear bq0 bq1 bq2
  refine (rvalid_any bn bA bs bc bl be _ vb.sl (by omega)).mono ?_
  rintro e w2 ⟨rfl, hb2⟩
  replace va := va.next hb2
  replace vb := vb.next hb2
  replace kz := kz.below hb2 kz.lt
  replace hbw := bnext hbw hb2
  clear hb2
  cases hvb : vld ⟨bn, bl, be⟩
  · have HBAD : Hid (mulD ⟨an, al, ae⟩ ⟨bn, bl, be⟩ = (zeroD, 1)) := by unfold Hid mulD; rw [hvb]; simp
    obtain ⟨z0, z1, z2⟩ := kz.cells3
    have f0 := kz.frozen 0
    have f1 := kz.frozen 1
    have f2 := kz.frozen 2
    go_wp2_with fail
    clear z0 z1 z2 f0 f1 f2
    refine bodyPost_ret (resDE Tryz.results14 rfl (kz.set3 _ _ _)) rfl ?_
    rw [HX.out, HBAD.out]
    exact ⟨none, 0, 0, rfl, SL.nil _, (fun _ _ _ => Off.zero), below_set3 hbw (by omega) _ _ _⟩
  have HVB := Lib.hid hvb
  clear hvb
  obtain ⟨aq0, aq1, aq2⟩ := va.cells
  obtain ⟨bq0, bq1, bq2⟩ := vb.cells
  go_wp2_with fail
  clear aq0 aq1 aq2 bq0 bq1 bq2
  have HE : Hid (mulD ⟨an, al, ae⟩ ⟨bn, bl, be⟩ = chk (canonD (an != bn) (val al * val bl) (ae + be))) := by unfold Hid mulD; rw [if_pos ⟨HVA.out, HVB.out⟩]; rw [chk_canon]
  obtain ⟨⟨rn, rl, re⟩, hr⟩ : ∃ d, d = canonD (an != bn) (val al * val bl) (ae + be) := ⟨_, rfl⟩
  rw [← hr] at HE
  have HRR := Lib.hid hr
  clear hr
  refine (rproduct_any an aA aS ac al ae bn bA bs bc bl be _ va.sl vb.sl HVA.out HVB.out).mono ?_
  rw [← HRR.out]
  rintro e w3 ⟨rA, rs, rc, rfl, hsr, hor, hb3⟩
  have orr := hor _ kz.lt ⟨oa, ob⟩
  have or2 : ∀ g, g < w.heap.size → (Off aA aS g ∧ Off bA bs g) → Off rA rs g := fun g hg ho => hor g (Nat.lt_of_lt_of_le hg hbw.size) ho
  clear hor
  dsimp only at hsr
  replace va := va.next hb3
  replace vb := vb.next hb3
  replace kz := kz.below hb3 kz.lt
  replace hbw := bnext hbw hb3
  clear hb3
  have hrs : rs ≤ 2000 := by rw [← hsr.len]; exact rprod_len ha.lt hb.lt (vld_short HVA.out) (vld_short HVB.out) HRR.out
  go_wp2_with fail
  cases hvr : vld ⟨rn, rl, re⟩
  · refine (rchecked_big rn rA rs rc rl re _ hsr (by omega) hvr).mono ?_
    rintro e w4 ⟨rfl, hb4⟩
    replace va := va.next hb4
    replace vb := vb.next hb4
    replace kz := kz.below hb4 kz.lt
    replace hbw := bnext hbw hb4
    clear hb4
    obtain ⟨z0, z1, z2⟩ := kz.cells3
    have f0 := kz.frozen 0
    have f1 := kz.frozen 1
    have f2 := kz.frozen 2
    go_wp2_with fail
    clear z0 z1 z2 f0 f1 f2
    refine bodyPost_ret (resDE Tryz.results14 rfl (kz.set3 _ _ _)) rfl ?_
    rw [HX.out, HE.out, chk, hvr]
    exact ⟨none, 0, 0, rfl, SL.nil _, (fun _ _ _ => Off.zero), below_set3 hbw (by omega) _ _ _⟩
  · refine (rchecked_ok rn rA rs rc rl re _ hsr (by omega) hvr).mono ?_
    rintro e w4 ⟨rfl, hb4⟩
    replace va := va.next hb4
    replace vb := vb.next hb4
    replace kz := kz.below hb4 kz.lt
    replace hbw := bnext hbw hb4
    replace hsr := hsr.below hb4
    clear hb4
    obtain ⟨z0, z1, z2⟩ := kz.cells3
    have f0 := kz.frozen 0
    have f1 := kz.frozen 1
    have f2 := kz.frozen 2
    go_wp2_with fail
    clear z0 z1 z2 f0 f1 f2
    refine bodyPost_ret (resDE Tryz.results14 rfl (kz.set3 _ _ _)) rfl ?_
    rw [HX.out, HE.out, chk, hvr]
    exact ⟨rA, rs, rc, rfl, hsr.off3 orr _ _ _, or2, below_set3 hbw (by omega) _ _ _⟩

set_option maxRecDepth 100000 in
set_option maxHeartbeats 4000000 in
theorem rsub_any (an : Bool) (aA : Option Addr) (aS ac : Nat) (al : List Nat) (ae : Int) (bn : Bool) (bA : Option Addr) (bs bc : Nat) (bl : List Nat) (be : Int) (w : World) (ha : SL w aA aS ac al) (hb : SL w bA bs bc bl) (hla : aS ≤ 1000000) (hlb : bs ≤ 1000000) :
    Calls Tryz.prog 12 #[.agg #[.bool an, .slice aA aS ac, .int .i64 ae], .agg #[.bool bn, .slice bA bs bc, .int .i64 be]] w (RetX (subD ⟨an, al, ae⟩ ⟨bn, bl, be⟩).1 (subD ⟨an, al, ae⟩ ⟨bn, bl, be⟩).2 (fun g => Off aA aS g ∧ Off bA bs g) w) := by
  obtain ⟨X, hX⟩ : ∃ X, X = subD ⟨an, al, ae⟩ ⟨bn, bl, be⟩ := ⟨_, rfl⟩
  rw [← hX]
  have HX := Lib.hid hX
  clear hX
  go_enter Tryz.func12, Tryz.ntmps12
  have hbw := bnext (bnext (ballo w (.cells #[.bool an, .slice aA aS ac, .int .i64 ae] 24)) (ballo (w.alloc (.cells #[.bool an, .slice aA aS ac, .int .i64 ae] 24)) (.cells #[.bool bn, .slice bA bs bc, .int .i64 be] 24))) (ballo ((w.alloc (.cells #[.bool an, .slice aA aS ac, .int .i64 ae] 24)).alloc (.cells #[.bool bn, .slice bA bs bc, .int .i64 be] 24)) (.cells #[.bool false, .slice none 0 0, .int .i64 0] 24))
  have va := ((Var.new w an ae ha).next (ballo (w.alloc (.cells #[.bool an, .slice aA aS ac, .int .i64 ae] 24)) (.cells #[.bool bn, .slice bA bs bc, .int .i64 be] 24))).next (ballo ((w.alloc (.cells #[.bool an, .slice aA aS ac, .int .i64 ae] 24)).alloc (.cells #[.bool bn, .slice bA bs bc, .int .i64 be] 24)) (.cells #[.bool false, .slice none 0 0, .int .i64 0] 24))
  have vb := (Var.newAt (w.alloc (.cells #[.bool an, .slice aA aS ac, .int .i64 ae] 24)) bn be (g := w.heap.size + 1) (by simp) (hb.below (ballo w (.cells #[.bool an, .slice aA aS ac, .int .i64 ae] 24)))).next (ballo ((w.alloc (.cells #[.bool an, .slice aA aS ac, .int .i64 ae] 24)).alloc (.cells #[.bool bn, .slice bA bs bc, .int .i64 be] 24)) (.cells #[.bool false, .slice none 0 0, .int .i64 0] 24))
  have kz := Blk.newAt ((w.alloc (.cells #[.bool an, .slice aA aS ac, .int .i64 ae] 24)).alloc (.cells #[.bool bn, .slice bA bs bc, .int .i64 be] 24)) 24 #[.bool false, .slice none 0 0, .int .i64 0] (g := w.heap.size + 1 + 1) (by simp)
  have oa : Off aA aS (w.heap.size + 1 + 1) := Off.old ha (by omega)
  have ob : Off bA bs (w.heap.size + 1 + 1) := Off.old hb (by omega)
  go_wp2_with fail
  generalize ((w.alloc (.cells #[.bool an, .slice aA aS ac, .int .i64 ae] 24)).alloc (.cells #[.bool bn, .slice bA bs bc, .int .i64 be] 24)).alloc (.cells #[.bool false, .slice none 0 0, .int .i64 0] 24) = W0 at *
  refine (rvalid_any an aA aS ac al ae _ va.sl (by omega)).mono ?_
  rintro e w1 ⟨rfl, hb1⟩
  replace va := va.next hb1
  replace vb := vb.next hb1
  replace kz := kz.below hb1 kz.lt
  replace hbw := bnext hbw hb1
  clear hb1
  cases hva : vld ⟨an, al, ae⟩
  · have HBAD : Hid (subD ⟨an, al, ae⟩ ⟨bn, bl, be⟩ = (zeroD, 1)) := by unfold Hid subD; rw [hva]; rfl
    obtain ⟨z0, z1, z2⟩ := kz.cells3
    have f0 := kz.frozen 0
    have f1 := kz.frozen 1
    have f2 := kz.frozen 2
    go_wp2_with fail
    clear z0 z1 z2 f0 f1 f2
    refine bodyPost_ret (resDE Tryz.results12 rfl (kz.set3 _ _ _)) rfl ?_
    rw [HX.out, HBAD.out]
    exact ⟨none, 0, 0, rfl, SL.nil _, (fun _ _ _ => Off.zero), below_set3 hbw (by omega) _ _ _⟩
  have HVA := Lib.hid hva
  clear hva
  obtain ⟨bq0, bq1, bq2⟩ := vb.cells
  go_wp2_with fail
  clear bq0 bq1 bq2
  refine (rvalid_any bn bA bs bc bl be _ vb.sl (by omega)).mono ?_
  rintro e w2 ⟨rfl, hb2⟩
  replace va := va.next hb2
  replace vb := vb.next hb2
  replace kz := kz.below hb2 kz.lt
  replace hbw := bnext hbw hb2
  clear hb2
  cases hvb : vld ⟨bn, bl, be⟩
  · have HBAD : Hid (subD ⟨an, al, ae⟩ ⟨bn, bl, be⟩ = (zeroD, 1)) := by unfold Hid subD; rw [hvb]; simp
    obtain ⟨z0, z1, z2⟩ := kz.cells3
    have f0 := kz.frozen 0
    have f1 := kz.frozen 1
    have f2 := kz.frozen 2
    go_wp2_with fail
    clear z0 z1 z2 f0 f1 f2
    refine bodyPost_ret (resDE Tryz.results12 rfl (kz.set3 _ _ _)) rfl ?_
    rw [HX.out, HBAD.out]
    exact ⟨none, 0, 0, rfl, SL.nil _, (fun _ _ _ => Off.zero), below_set3 hbw (by omega) _ _ _⟩
  have HVB := Lib.hid hvb
  clear hvb
  obtain ⟨aq0, aq1, aq2⟩ := va.cells
  obtain ⟨bq0, bq1, bq2⟩ := vb.cells
  go_wp2_with fail
  clear aq0 aq1 aq2 bq0 bq1 bq2
  have HE : Hid (subD ⟨an, al, ae⟩ ⟨bn, bl, be⟩ = chk (rsumD ⟨an, al, ae⟩ (negD ⟨bn, bl, be⟩))) := by unfold Hid subD; rw [if_pos ⟨HVA.out, HVB.out⟩]; rw [chk_sum HVA.out (vld_neg HVB.out)]
  obtain ⟨⟨nn, nl, ne⟩, hne⟩ : ∃ d, d = negD ⟨bn, bl, be⟩ := ⟨_, rfl⟩
  have HNE : Hid (rnegD ⟨bn, bl, be⟩ = ⟨nn, nl, ne⟩) := by unfold Hid; rw [hne]; exact rneg_eq _ HVB.out
  have hvn : Hid (vld ⟨nn, nl, ne⟩ = true) := by unfold Hid; rw [hne]; exact vld_neg HVB.out
  rw [← hne] at HE
  clear hne
  have hn1 : Hid ((rnegD ⟨bn, bl, be⟩).neg = nn) := by unfold Hid; rw [HNE.out]
  have hn2 : nl = bl := by have := HNE.out; unfold rnegD at this; injection this with _ h _; exact h.symm
  have hn3 : ne = be := by have := HNE.out; unfold rnegD at this; injection this with _ _ h; exact h.symm
  subst hn2 hn3
  clear HNE
  obtain ⟨⟨rn, rl, re⟩, hr⟩ : ∃ d, d = rsumD ⟨an, al, ae⟩ ⟨nn, nl, ne⟩ := ⟨_, rfl⟩
  rw [← hr] at HE
  have HRR := Lib.hid hr
  clear hr
  cases hvr : vld ⟨rn, rl, re⟩
  · have HK : Hid (∀ V, Below w2.heap.size w2 V → (fun V => (V.cell? ⟨w.heap.size, 0, none⟩ = some (.bool an) ∧ V.cell? ⟨w.heap.size, 1, none⟩ = some (.slice aA aS ac) ∧ V.cell? ⟨w.heap.size, 2, none⟩ = some (.int .i64 ae)) ∧ (V.cell? ⟨(w.heap.size + 1), 0, none⟩ = some (.bool bn) ∧ V.cell? ⟨(w.heap.size + 1), 1, none⟩ = some (.slice bA bs bc) ∧ V.cell? ⟨(w.heap.size + 1), 2, none⟩ = some (.int .i64 ne))) V) := fun V hV => ⟨va.keep V hV, vb.keep V hV⟩
    have hB := bdrew w2
    refine wp_region_held_drew (S := (fun V => (V.cell? ⟨w.heap.size, 0, none⟩ = some (.bool an) ∧ V.cell? ⟨w.heap.size, 1, none⟩ = some (.slice aA aS ac) ∧ V.cell? ⟨w.heap.size, 2, none⟩ = some (.int .i64 ae)) ∧ (V.cell? ⟨(w.heap.size + 1), 0, none⟩ = some (.bool bn) ∧ V.cell? ⟨(w.heap.size + 1), 1, none⟩ = some (.slice bA bs bc) ∧ V.cell? ⟨(w.heap.size + 1), 2, none⟩ = some (.int .i64 ne)))) (by kernel_rfl) (HK.out _ hB) (fun hH => ?_)
    refine wpAnyH_take (i := 0) (oi := ⟨_, _, _, _, _, _⟩) (v := ?_) rfl (by kernel_rfl) (by kernel_rfl) (by kernel_rfl) (fun _ _ _ h => h) (Or.inl ⟨by rfl, ?_⟩) hH ?_
    rotate_left
    · (intro w hSw; (try dsimp only at hSw); go_simp; try (with_reducible rfl))
    simp only [Act.put, List.setIfInBounds_toArray, List.set_cons_zero, List.set_cons_succ]
    refine wpAnyH_take (i := 1) (oi := ⟨_, _, _, _, _, _⟩) (v := ?_) rfl (by kernel_rfl) (by kernel_rfl) (by kernel_rfl) (fun _ _ _ h => h) (Or.inl ⟨by rfl, ?_⟩) hH ?_
    rotate_left
    · (intro w hSw; (try dsimp only at hSw); go_simp; try (with_reducible rfl))
    simp only [Act.put, List.setIfInBounds_toArray, List.set_cons_zero, List.set_cons_succ]
    refine wpAnyH_ready (rs := [2]) (by kernel_rfl) (by simp) ?_
    refine AllReadyH.cons (o := ⟨_, _, _, _, _, _⟩) rfl (fun K hK => ?_) AllReadyH.nil
    go_simp
    refine (rneg_any bn bA bs bc nl ne _ (vb.sl.below hB)).mono ?_
    rw [hn1.out]
    rintro e w3 ⟨rfl, hc⟩
    replace hB := bnext hB hc
    clear hc
    go_wp2_with fail
    refine hK.out _ _ (HK.out _ hB) (fun hH => ?_)
    clear hK K
    refine wpAnyH_ready (rs := [3]) (by kernel_rfl) (by simp) ?_
    refine AllReadyH.cons (o := ⟨_, _, _, _, _, _⟩) rfl (fun K hK => ?_) AllReadyH.nil
    go_simp
    refine (rsum_any an aA aS ac al ae nn bA bs bc nl ne _ (va.sl.below hB) (vb.sl.below hB) HVA.out hvn.out).mono ?_
    rw [← HRR.out]
    rintro e w4 ⟨rA, rs, rc, rfl, hsr, hor, hc⟩
    have orr := hor _ (Nat.lt_of_lt_of_le kz.lt hB.size) ⟨oa, ob⟩
    have or2 : ∀ g, g < w.heap.size → (Off aA aS g ∧ Off bA bs g) → Off rA rs g := fun g hg ho => hor g (Nat.lt_of_lt_of_le hg (Nat.le_trans hbw.size hB.size)) ho
    clear hor
    replace hB := bnext hB hc
    dsimp only at hsr
    clear hc
    go_wp2_with fail
    refine hK.out _ _ (HK.out _ hB) (fun hH => ?_)
    clear hK K
    have hrs : rs ≤ 2000 := by rw [← hsr.len]; exact rsum_len HVA.out hvn.out HRR.out
    refine wpAnyH_ready (rs := [4]) (by kernel_rfl) (by simp) ?_
    refine AllReadyH.cons (o := ⟨_, _, _, _, _, _⟩) rfl (fun K hK => ?_) AllReadyH.nil
    go_simp
    refine (rchecked_big rn rA rs rc rl re _ hsr (by omega) hvr).mono ?_
    rintro e w5 ⟨rfl, hc⟩
    replace hB := bnext hB hc
    replace hsr := hsr.below hc
    clear hc
    go_wp2_with fail
    refine hK.out _ _ (HK.out _ hB) (fun hH => ?_)
    clear hK K
    refine wpAnyH_take (i := 5) (oi := ⟨_, _, _, _, _, _⟩) (v := ?_) rfl (by kernel_rfl) (by kernel_rfl) (by kernel_rfl) (fun _ _ _ h => h) (Or.inl ⟨by rfl, ?_⟩) hH ?_
    rotate_left
    · (intro w hSw; (try dsimp only at hSw); go_simp; try (with_reducible rfl))
    simp only [Act.put, List.setIfInBounds_toArray, List.set_cons_zero, List.set_cons_succ]
    replace kz := kz.below hB kz.lt
    have vk := va.next hB
    have vk' := vb.next hB
    refine wpAnyH_take (i := 6) (oi := ⟨_, _, _, _, _, _⟩) (v := ?_) rfl (by kernel_rfl) (by kernel_rfl) (by kernel_rfl) (fun _ _ _ h => h) (Or.inl ⟨by rfl, ?_⟩) hH ?_
    rotate_left
    · (intro w hSw; (try dsimp only at hSw); go_simp; try (with_reducible rfl))
    simp only [Act.put, List.setIfInBounds_toArray, List.set_cons_zero, List.set_cons_succ]
    refine wpAnyH_ready (rs := [7]) (by kernel_rfl) (by simp) ?_
    refine AllReadyH.cons (o := ⟨_, _, _, _, _, _⟩) rfl (fun K hK => ?_) AllReadyH.nil
    obtain ⟨z0, z1, z2⟩ := kz.cells3
    have f0 := kz.frozen 0
    have f1 := kz.frozen 1
    have f2 := kz.frozen 2
    go_simp
    clear z0 z1 z2 f0 f1 f2
    refine hK.out _ _ (⟨(vk.blk.off3 (by omega) _ _ _).cells3, (vk'.blk.off3 (by omega) _ _ _).cells3⟩) (fun hH => ?_)
    clear hK K
    refine wpAnyH_take (i := 8) (oi := ⟨_, _, _, _, _, _⟩) (v := ?_) rfl (by kernel_rfl) (by kernel_rfl) (by kernel_rfl) (fun _ _ _ h => h) (Or.inl ⟨by rfl, ?_⟩) hH ?_
    rotate_left
    · (intro w hSw; (try dsimp only at hSw); go_simp; try (with_reducible rfl))
    simp only [Act.put, List.setIfInBounds_toArray, List.set_cons_zero, List.set_cons_succ]
    refine wpAnyH_done (by kernel_rfl) ?_ _
    go_wp2_with fail
    refine bodyPost_ret (resDE Tryz.results12 rfl (kz.set3 _ _ _)) rfl ?_
    rw [HX.out, HE.out, chk, hvr]
    exact ⟨none, 0, 0, rfl, SL.nil _, (fun _ _ _ => Off.zero), below_set3 (bnext hbw hB) (by omega) _ _ _⟩
  · have HK : Hid (∀ V, Below w2.heap.size w2 V → (fun V => (V.cell? ⟨w.heap.size, 0, none⟩ = some (.bool an) ∧ V.cell? ⟨w.heap.size, 1, none⟩ = some (.slice aA aS ac) ∧ V.cell? ⟨w.heap.size, 2, none⟩ = some (.int .i64 ae)) ∧ (V.cell? ⟨(w.heap.size + 1), 0, none⟩ = some (.bool bn) ∧ V.cell? ⟨(w.heap.size + 1), 1, none⟩ = some (.slice bA bs bc) ∧ V.cell? ⟨(w.heap.size + 1), 2, none⟩ = some (.int .i64 ne))) V) := fun V hV => ⟨va.keep V hV, vb.keep V hV⟩
    have hB := bdrew w2
    refine wp_region_held_drew (S := (fun V => (V.cell? ⟨w.heap.size, 0, none⟩ = some (.bool an) ∧ V.cell? ⟨w.heap.size, 1, none⟩ = some (.slice aA aS ac) ∧ V.cell? ⟨w.heap.size, 2, none⟩ = some (.int .i64 ae)) ∧ (V.cell? ⟨(w.heap.size + 1), 0, none⟩ = some (.bool bn) ∧ V.cell? ⟨(w.heap.size + 1), 1, none⟩ = some (.slice bA bs bc) ∧ V.cell? ⟨(w.heap.size + 1), 2, none⟩ = some (.int .i64 ne)))) (by kernel_rfl) (HK.out _ hB) (fun hH => ?_)
    refine wpAnyH_take (i := 0) (oi := ⟨_, _, _, _, _, _⟩) (v := ?_) rfl (by kernel_rfl) (by kernel_rfl) (by kernel_rfl) (fun _ _ _ h => h) (Or.inl ⟨by rfl, ?_⟩) hH ?_
    rotate_left
    · (intro w hSw; (try dsimp only at hSw); go_simp; try (with_reducible rfl))
    simp only [Act.put, List.setIfInBounds_toArray, List.set_cons_zero, List.set_cons_succ]
    refine wpAnyH_take (i := 1) (oi := ⟨_, _, _, _, _, _⟩) (v := ?_) rfl (by kernel_rfl) (by kernel_rfl) (by kernel_rfl) (fun _ _ _ h => h) (Or.inl ⟨by rfl, ?_⟩) hH ?_
    rotate_left
    · (intro w hSw; (try dsimp only at hSw); go_simp; try (with_reducible rfl))
    simp only [Act.put, List.setIfInBounds_toArray, List.set_cons_zero, List.set_cons_succ]
    refine wpAnyH_ready (rs := [2]) (by kernel_rfl) (by simp) ?_
    refine AllReadyH.cons (o := ⟨_, _, _, _, _, _⟩) rfl (fun K hK => ?_) AllReadyH.nil
    go_simp
    refine (rneg_any bn bA bs bc nl ne _ (vb.sl.below hB)).mono ?_
    rw [hn1.out]
    rintro e w3 ⟨rfl, hc⟩
    replace hB := bnext hB hc
    clear hc
    go_wp2_with fail
    refine hK.out _ _ (HK.out _ hB) (fun hH => ?_)
    clear hK K
    refine wpAnyH_ready (rs := [3]) (by kernel_rfl) (by simp) ?_
    refine AllReadyH.cons (o := ⟨_, _, _, _, _, _⟩) rfl (fun K hK => ?_) AllReadyH.nil
    go_simp
    refine (rsum_any an aA aS ac al ae nn bA bs bc nl ne _ (va.sl.below hB) (vb.sl.below hB) HVA.out hvn.out).mono ?_
    rw [← HRR.out]
    rintro e w4 ⟨rA, rs, rc, rfl, hsr, hor, hc⟩
    have orr := hor _ (Nat.lt_of_lt_of_le kz.lt hB.size) ⟨oa, ob⟩
    have or2 : ∀ g, g < w.heap.size → (Off aA aS g ∧ Off bA bs g) → Off rA rs g := fun g hg ho => hor g (Nat.lt_of_lt_of_le hg (Nat.le_trans hbw.size hB.size)) ho
    clear hor
    replace hB := bnext hB hc
    dsimp only at hsr
    clear hc
    go_wp2_with fail
    refine hK.out _ _ (HK.out _ hB) (fun hH => ?_)
    clear hK K
    have hrs : rs ≤ 2000 := by rw [← hsr.len]; exact rsum_len HVA.out hvn.out HRR.out
    refine wpAnyH_ready (rs := [4]) (by kernel_rfl) (by simp) ?_
    refine AllReadyH.cons (o := ⟨_, _, _, _, _, _⟩) rfl (fun K hK => ?_) AllReadyH.nil
    go_simp
    refine (rchecked_ok rn rA rs rc rl re _ hsr (by omega) hvr).mono ?_
    rintro e w5 ⟨rfl, hc⟩
    replace hB := bnext hB hc
    replace hsr := hsr.below hc
    clear hc
    go_wp2_with fail
    refine hK.out _ _ (HK.out _ hB) (fun hH => ?_)
    clear hK K
    refine wpAnyH_take (i := 5) (oi := ⟨_, _, _, _, _, _⟩) (v := ?_) rfl (by kernel_rfl) (by kernel_rfl) (by kernel_rfl) (fun _ _ _ h => h) (Or.inl ⟨by rfl, ?_⟩) hH ?_
    rotate_left
    · (intro w hSw; (try dsimp only at hSw); go_simp; try (with_reducible rfl))
    simp only [Act.put, List.setIfInBounds_toArray, List.set_cons_zero, List.set_cons_succ]
    replace kz := kz.below hB kz.lt
    have vk := va.next hB
    have vk' := vb.next hB
    refine wpAnyH_take (i := 6) (oi := ⟨_, _, _, _, _, _⟩) (v := ?_) rfl (by kernel_rfl) (by kernel_rfl) (by kernel_rfl) (fun _ _ _ h => h) (Or.inl ⟨by rfl, ?_⟩) hH ?_
    rotate_left
    · (intro w hSw; (try dsimp only at hSw); go_simp; try (with_reducible rfl))
    simp only [Act.put, List.setIfInBounds_toArray, List.set_cons_zero, List.set_cons_succ]
    refine wpAnyH_ready (rs := [7]) (by kernel_rfl) (by simp) ?_
    refine AllReadyH.cons (o := ⟨_, _, _, _, _, _⟩) rfl (fun K hK => ?_) AllReadyH.nil
    obtain ⟨z0, z1, z2⟩ := kz.cells3
    have f0 := kz.frozen 0
    have f1 := kz.frozen 1
    have f2 := kz.frozen 2
    go_simp
    clear z0 z1 z2 f0 f1 f2
    refine hK.out _ _ (⟨(vk.blk.off3 (by omega) _ _ _).cells3, (vk'.blk.off3 (by omega) _ _ _).cells3⟩) (fun hH => ?_)
    clear hK K
    refine wpAnyH_take (i := 8) (oi := ⟨_, _, _, _, _, _⟩) (v := ?_) rfl (by kernel_rfl) (by kernel_rfl) (by kernel_rfl) (fun _ _ _ h => h) (Or.inl ⟨by rfl, ?_⟩) hH ?_
    rotate_left
    · (intro w hSw; (try dsimp only at hSw); go_simp; try (with_reducible rfl))
    simp only [Act.put, List.setIfInBounds_toArray, List.set_cons_zero, List.set_cons_succ]
    refine wpAnyH_done (by kernel_rfl) ?_ _
    go_wp2_with fail
    refine bodyPost_ret (resDE Tryz.results12 rfl (kz.set3 _ _ _)) rfl ?_
    rw [HX.out, HE.out, chk, hvr]
    exact ⟨rA, rs, rc, rfl, hsr.off3 orr _ _ _, or2, below_set3 (bnext hbw hB) (by omega) _ _ _⟩

set_option maxRecDepth 100000 in
set_option maxHeartbeats 4000000 in
theorem rscale_any (an : Bool) (aA : Option Addr) (aS ac : Nat) (al : List Nat) (ae : Int) (k : Int) (w : World) (ha : SL w aA aS ac al) (hla : aS ≤ 1000000) :
    Calls Tryz.prog 16 #[.agg #[.bool an, .slice aA aS ac, .int .i64 ae], .int .i64 k] w (RetX (scaleD ⟨an, al, ae⟩ k).1 (scaleD ⟨an, al, ae⟩ k).2 (fun g => Off aA aS g) w) := by
  obtain ⟨X, hX⟩ : ∃ X, X = scaleD ⟨an, al, ae⟩ k := ⟨_, rfl⟩
  rw [← hX]
  have HX := Lib.hid hX
  clear hX
  go_enter Tryz.func16, Tryz.ntmps16
  have hbw := bnext (ballo w (.cells #[.bool an, .slice aA aS ac, .int .i64 ae] 24)) (ballo (w.alloc (.cells #[.bool an, .slice aA aS ac, .int .i64 ae] 24)) (.cells #[.bool false, .slice none 0 0, .int .i64 0] 24))
  have va := (Var.new w an ae ha).next (ballo (w.alloc (.cells #[.bool an, .slice aA aS ac, .int .i64 ae] 24)) (.cells #[.bool false, .slice none 0 0, .int .i64 0] 24))
  have kz := Blk.newAt (w.alloc (.cells #[.bool an, .slice aA aS ac, .int .i64 ae] 24)) 24 #[.bool false, .slice none 0 0, .int .i64 0] (g := w.heap.size + 1) (by simp)
  go_wp2_with fail
  generalize (w.alloc (.cells #[.bool an, .slice aA aS ac, .int .i64 ae] 24)).alloc (.cells #[.bool false, .slice none 0 0, .int .i64 0] 24) = W0 at *
  refine (rvalid_any an aA aS ac al ae _ va.sl (by omega)).mono ?_
  rintro e w1 ⟨rfl, hb1⟩
  replace va := va.next hb1
  replace kz := kz.below hb1 kz.lt
  replace hbw := bnext hbw hb1
  clear hb1
  cases hva : vld ⟨an, al, ae⟩
  · have HBAD : Hid (scaleD ⟨an, al, ae⟩ k = (zeroD, 1)) := by unfold Hid scaleD; rw [hva]; rfl
    obtain ⟨z0, z1, z2⟩ := kz.cells3
    have f0 := kz.frozen 0
    have f1 := kz.frozen 1
    have f2 := kz.frozen 2
    go_wp2_with fail
    clear z0 z1 z2 f0 f1 f2
    refine bodyPost_ret (resDE Tryz.results16 rfl (kz.set3 _ _ _)) rfl ?_
    rw [HX.out, HBAD.out]
    exact ⟨none, 0, 0, rfl, SL.nil _, (fun _ _ _ => Off.zero), below_set3 hbw (by omega) _ _ _⟩
  have HVA := Lib.hid hva
  clear hva
  go_wp2_with fail
  refine (rexponent_any k _).mono ?_
  rintro e w2 ⟨rfl, rfl⟩
  cases hke : expB k
  · have HBAD : Hid (scaleD ⟨an, al, ae⟩ k = (zeroD, 1)) := by unfold Hid scaleD; rw [hke]; simp
    obtain ⟨z0, z1, z2⟩ := kz.cells3
    have f0 := kz.frozen 0
    have f1 := kz.frozen 1
    have f2 := kz.frozen 2
    go_wp2_with fail
    clear z0 z1 z2 f0 f1 f2
    refine bodyPost_ret (resDE Tryz.results16 rfl (kz.set3 _ _ _)) rfl ?_
    rw [HX.out, HBAD.out]
    exact ⟨none, 0, 0, rfl, SL.nil _, (fun _ _ _ => Off.zero), below_set3 hbw (by omega) _ _ _⟩
  have hkb : -32768 ≤ k ∧ k ≤ 32768 := by simpa [expB] using hke
  obtain ⟨hk1, hk2⟩ := hkb
  have xa := vld_exp HVA.out
  dsimp only at xa
  have HE : Hid (scaleD ⟨an, al, ae⟩ k = chk (canonD an (val al) (ae + k))) := by unfold Hid scaleD; rw [if_pos ⟨HVA.out, hke⟩, chk_canon]
  clear hke
  have hwe : IntKind.i64.wrap (ae + k) = ae + k := IntWalk.i64_in _ (by omega)
  obtain ⟨⟨rn, rl, re⟩, hr⟩ : ∃ d, d = canonD an (val al) (ae + k) := ⟨_, rfl⟩
  rw [← hr] at HE
  have HRR := Lib.hid hr
  clear hr
  obtain ⟨aq0, aq1, aq2⟩ := va.cells
  go_wp2_with fail
  clear aq0 aq1 aq2
  refine (rof_any an aA aS ac al (ae + k) _ va.sl (by omega) (by omega) (by omega)).mono ?_
  rw [← HRR.out]
  rintro e w3 ⟨rA, rs, rc, rfl, hsr, hfr, hb3⟩
  dsimp only at hsr
  have orr : Off rA rs (w.heap.size + 1) := Off.fresh hfr kz.lt
  have or2 : ∀ g, g < w.heap.size → Off aA aS g → Off rA rs g := fun g hg _ => Off.fresh hfr (Nat.lt_of_lt_of_le hg hbw.size)
  replace va := va.next hb3
  replace kz := kz.below hb3 kz.lt
  replace hbw := bnext hbw hb3
  clear hb3 hfr
  have hrs : rs ≤ 1000000 := by rw [← hsr.len]; have h1 := canon_len an (val al) (ae + k); rw [← HRR.out] at h1; have h2 := digs_val_len al ha.lt; rw [ha.len] at h2; dsimp only at h1; omega
  go_wp2_with fail
  cases hvr : vld ⟨rn, rl, re⟩
  · refine (rchecked_big rn rA rs rc rl re _ hsr (by omega) hvr).mono ?_
    rintro e w4 ⟨rfl, hb4⟩
    replace va := va.next hb4
    replace kz := kz.below hb4 kz.lt
    replace hbw := bnext hbw hb4
    clear hb4
    obtain ⟨z0, z1, z2⟩ := kz.cells3
    have f0 := kz.frozen 0
    have f1 := kz.frozen 1
    have f2 := kz.frozen 2
    go_wp2_with fail
    clear z0 z1 z2 f0 f1 f2
    refine bodyPost_ret (resDE Tryz.results16 rfl (kz.set3 _ _ _)) rfl ?_
    rw [HX.out, HE.out, chk, hvr]
    exact ⟨none, 0, 0, rfl, SL.nil _, (fun _ _ _ => Off.zero), below_set3 hbw (by omega) _ _ _⟩
  · refine (rchecked_ok rn rA rs rc rl re _ hsr (by omega) hvr).mono ?_
    rintro e w4 ⟨rfl, hb4⟩
    replace va := va.next hb4
    replace kz := kz.below hb4 kz.lt
    replace hbw := bnext hbw hb4
    replace hsr := hsr.below hb4
    clear hb4
    obtain ⟨z0, z1, z2⟩ := kz.cells3
    have f0 := kz.frozen 0
    have f1 := kz.frozen 1
    have f2 := kz.frozen 2
    go_wp2_with fail
    clear z0 z1 z2 f0 f1 f2
    refine bodyPost_ret (resDE Tryz.results16 rfl (kz.set3 _ _ _)) rfl ?_
    rw [HX.out, HE.out, chk, hvr]
    exact ⟨rA, rs, rc, rfl, hsr.off3 orr _ _ _, or2, below_set3 hbw (by omega) _ _ _⟩

end Go.Proofs.YtjhokljoomeilaaGreatDoor
