/- Bundle 8: what the laws' walks stand on: M6, R7. -/
import Derived.Test.YtekajoifgdpmlaaGreatDoorZ3
import Derived.Test.YtekajoifgdpmlaaGreatDoorZ5
/-! M6 -/
namespace Go.Proofs.YtekajoifgdpmlaaGreatDoor.Pl

theorem val_set (L : List Nat) (i z y : Nat) (h : L[i]? = some z) : val (L.set i y) + 4294967296 ^ i * z = val L + 4294967296 ^ i * y := by
  induction L generalizing i with
  | nil => simp at h
  | cons a t ih =>
    cases i with
    | zero =>
      simp at h
      subst h
      simp [val]
      omega
    | succ i =>
      have := ih i (by simpa using h)
      simp only [List.set_cons_succ, val, Nat.pow_succ]
      have e1 : 4294967296 ^ i * 4294967296 * z = 4294967296 * (4294967296 ^ i * z) := by rw [Nat.mul_comm (4294967296 ^ i), Nat.mul_assoc]
      have e2 : 4294967296 ^ i * 4294967296 * y = 4294967296 * (4294967296 ^ i * y) := by rw [Nat.mul_comm (4294967296 ^ i), Nat.mul_assoc]
      rw [e1, e2]
      omega
theorem Limbs.set {L : List Nat} (h : Limbs L) (i : Nat) {y : Nat} (hy : y < 4294967296) : Limbs (L.set i y) := fun x hx => by
  rcases List.mem_or_eq_of_mem_set hx with h' | h'
  · exact h x h'
  · omega

/-- What the inner loop keeps: the row's limbs and the carry, T is what stands in the row ahead of the round plus the limb's product so far. -/
structure Mul (N i m k cy V x : Nat) (b L : List Nat) : Prop where
  len : L.length = N
  lim : Limbs L
  sum : val L + 4294967296 ^ (i + k) * cy = V + 4294967296 ^ i * (x * val (b.take k))
  zero : ∀ j, i + m ≤ j → j < N → L[j]? = some 0

theorem mul_bound {x y z c : Nat} (hx : x < 4294967296) (hy : y < 4294967296) (hz : z < 4294967296) (hc : c < 4294967296) : x * y + z + c < 18446744073709551616 := by
  have : x * y ≤ 4294967295 * 4294967295 := Nat.mul_le_mul (by omega) (by omega)
  omega

theorem Mul.step {N i m k cy V x : Nat} {b L : List Nat} (h : Mul N i m k cy V x b L) (hk : k < m) {y z : Nat} (hy : b[k]? = some y) (hz : L[i + k]? = some z) (hx : x < 4294967296) (hyl : y < 4294967296) (hc : cy < 4294967296) :
    Mul N i m (k + 1) ((x * y + z + cy) / 4294967296) V x b (L.set (i + k) ((x * y + z + cy) % 4294967296)) ∧ (x * y + z + cy) / 4294967296 < 4294967296 := by
  have hzl := h.lim.get hz
  have hb := mul_bound hx hyl hzl hc
  refine ⟨⟨by simp [h.len], h.lim.set _ (Nat.mod_lt _ (by omega)), ?_, fun j h1 h2 => ?_⟩, by omega⟩
  · have e := val_set L (i + k) z ((x * y + z + cy) % 4294967296) hz
    have s := h.sum
    rw [val_take_succ b k y hy, Nat.mul_add, Nat.mul_add, ← Nat.add_assoc, ← Nat.add_assoc]
    have e3 : 4294967296 ^ i * (x * (4294967296 ^ k * y)) = 4294967296 ^ (i + k) * (x * y) := by
      rw [Nat.pow_add, Nat.mul_left_comm x, Nat.mul_assoc]
    rw [e3, ← s, Nat.pow_succ]
    generalize 4294967296 ^ (i + k) = P at *
    have d := Nat.div_add_mod (x * y + z + cy) 4294967296
    generalize (x * y + z + cy) / 4294967296 = q at *
    generalize (x * y + z + cy) % 4294967296 = r at *
    have e4 : P * 4294967296 * q = P * (4294967296 * q) := Nat.mul_assoc _ _ _
    rw [e4]
    have e5 : P * (4294967296 * q) + P * r = P * (x * y) + P * z + P * cy := by rw [← Nat.mul_add, d, Nat.mul_add, Nat.mul_add]
    omega
  · rw [List.getElem?_set_ne (by omega)]
    exact h.zero j h1 h2

theorem Mul.done {N i m cy V x : Nat} {a b L : List Nat} (h : Mul N i m m cy V x b L) (hb : b.length = m) (hi : i + m < N) (hx : a[i]? = some x) (hV : V = val (a.take i) * val b) (hc : cy < 4294967296) :
    (L.set (i + m) cy).length = N ∧ Limbs (L.set (i + m) cy) ∧ val (L.set (i + m) cy) = val (a.take (i + 1)) * val b ∧ ∀ j, i + 1 + m ≤ j → j < N → (L.set (i + m) cy)[j]? = some 0 := by
  refine ⟨by simp [h.len], h.lim.set _ hc, ?_, fun j h1 h2 => ?_⟩
  · have e := val_set L (i + m) 0 cy (h.zero (i + m) (Nat.le_refl _) hi)
    have s := h.sum
    rw [List.take_of_length_le (by omega)] at s
    rw [val_take_succ a i x hx, Nat.add_mul, ← hV, Nat.mul_assoc, ← s]
    omega
  · rw [List.getElem?_set_ne (by omega)]
    exact h.zero j (by omega) h2

end Go.Proofs.YtekajoifgdpmlaaGreatDoor.Pl

/-! R7 -/
namespace Go.Proofs.YtekajoifgdpmlaaGreatDoor
open Go.RowKit Pl Go.Shelf

/-- A number that may lie where an argument lies. -/
def RetW (d : Dy) (O : Nat → Prop) (w : World) (e : Ending) (w' : World) : Prop := ∃ A n c, e = .returned (.agg #[.bool d.neg, .slice A n c, .int .i64 d.e]) ∧ SL w' A n c d.l ∧ (∀ g, g < w.heap.size → O g → Off A n g) ∧ Below w.heap.size w w'
theorem Off.zero {A : Option Addr} {g : Nat} : Off A 0 g := fun h => absurd h (by omega)
/-- The sum, in range or not. -/
def rsumD (d d' : Dy) : Dy := if d.l = [] then d' else if d'.l = [] then d else
  if d.neg = d'.neg then canonD d.neg (val d.l * 2 ^ (d.e - min d.e d'.e).toNat + val d'.l * 2 ^ (d'.e - min d.e d'.e).toNat) (min d.e d'.e)
  else if val d'.l * 2 ^ (d'.e - min d.e d'.e).toNat ≤ val d.l * 2 ^ (d.e - min d.e d'.e).toNat then canonD d.neg (val d.l * 2 ^ (d.e - min d.e d'.e).toNat - val d'.l * 2 ^ (d'.e - min d.e d'.e).toNat) (min d.e d'.e)
  else canonD d'.neg (val d'.l * 2 ^ (d'.e - min d.e d'.e).toNat - val d.l * 2 ^ (d.e - min d.e d'.e).toNat) (min d.e d'.e)
def chk (d : Dy) : Dy × Int := if vld d = true then (d, 0) else (zeroD, 9)
theorem chk_canon (n : Bool) (v : Nat) (e : Int) : chk (canonD n v e) = checkD n v e := by
  unfold chk checkD
  rw [vld_canon]
theorem sum_short_at {P Q E k : Nat} (hP : blen P ≤ E) (hQ : blen Q ≤ E) (hk : E + 1 ≤ 32 * k) : (digs (P + Q)).length ≤ k ∧ (digs P).length ≤ k ∧ (digs Q).length ≤ k ∧ (digs (P - Q)).length ≤ k ∧ (digs (Q - P)).length ≤ k := by
  have key : ∀ v, v < 2 ^ (E + 1) → (digs v).length ≤ k := fun v hv => digs_len_blen v k (Nat.le_trans (blen_le_of v _ hv) (by omega))
  have hp : P < 2 ^ E := Nat.lt_of_lt_of_le (lt_blen P) (Nat.pow_le_pow_right (by omega) hP)
  have hq : Q < 2 ^ E := Nat.lt_of_lt_of_le (lt_blen Q) (Nat.pow_le_pow_right (by omega) hQ)
  have e : 2 ^ (E + 1) = 2 ^ E + 2 ^ E := by rw [Nat.pow_succ]; omega
  rw [e] at key
  generalize 2 ^ E = T at *
  exact ⟨key _ (by omega), key _ (by omega), key _ (by omega), key _ (by omega), key _ (by omega)⟩
theorem sum_short {P Q : Nat} (hP : blen P ≤ 40000) (hQ : blen Q ≤ 40000) : (digs (P + Q)).length ≤ 2000 ∧ (digs P).length ≤ 2000 ∧ (digs Q).length ≤ 2000 ∧ (digs (P - Q)).length ≤ 2000 ∧ (digs (Q - P)).length ≤ 2000 := sum_short_at hP hQ (by omega)
theorem canon_len (n : Bool) (v : Nat) (e : Int) : (canonD n v e).l.length ≤ (digs v).length := by
  unfold canonD
  split
  · simp [zeroD]
  · exact digs_length_lt _ _ (Nat.lt_of_le_of_lt (Nat.div_le_self _ _) (lt_digs_length v))
set_option maxRecDepth 100000 in
set_option maxHeartbeats 8000000 in
theorem rsum_any (an : Bool) (aA : Option Addr) (aS ac : Nat) (al : List Nat) (ae : Int) (bn : Bool) (bA : Option Addr) (bs bc : Nat) (bl : List Nat) (be : Int) (w : World) (ha : SL w aA aS ac al) (hb : SL w bA bs bc bl) (hva : vld ⟨an, al, ae⟩ = true) (hvb : vld ⟨bn, bl, be⟩ = true) :
    Calls Tryz.prog 217 #[.agg #[.bool an, .slice aA aS ac, .int .i64 ae], .agg #[.bool bn, .slice bA bs bc, .int .i64 be]] w (RetW (rsumD ⟨an, al, ae⟩ ⟨bn, bl, be⟩) (fun g => Off aA aS g ∧ Off bA bs g) w) := by
  obtain ⟨mn, hmn⟩ : ∃ mn, min ae be = mn := ⟨_, rfl⟩
  have xa := vld_exp hva
  have xb := vld_exp hvb
  dsimp only at xa xb
  have hsa : aS ≤ 256 := by rw [← ha.len]; exact vld_short hva
  have hsb : bs ≤ 256 := by rw [← hb.len]; exact vld_short hvb
  by_cases a0 : aS = 0
  · subst a0
    have HR : Hid (rsumD ⟨an, al, ae⟩ ⟨bn, bl, be⟩ = ⟨bn, bl, be⟩) := by unfold Hid rsumD; rw [if_pos (ha.empty rfl)]
    rw [HR.out]
    clear HR hmn
    go_enter Tryz.func217, Tryz.ntmps217
    have hbw := bnext (bnext (ballo w (.cells #[.bool an, .slice aA 0 ac, .int .i64 ae] 25)) (ballo (w.alloc (.cells #[.bool an, .slice aA 0 ac, .int .i64 ae] 25)) (.cells #[.bool bn, .slice bA bs bc, .int .i64 be] 25))) (ballo ((w.alloc (.cells #[.bool an, .slice aA 0 ac, .int .i64 ae] 25)).alloc (.cells #[.bool bn, .slice bA bs bc, .int .i64 be] 25)) (.cells #[.bool false, .slice none 0 0, .int .i64 0] 25))
    have va := ((Var.new w an ae ha).next (ballo (w.alloc (.cells #[.bool an, .slice aA 0 ac, .int .i64 ae] 25)) (.cells #[.bool bn, .slice bA bs bc, .int .i64 be] 25))).next (ballo ((w.alloc (.cells #[.bool an, .slice aA 0 ac, .int .i64 ae] 25)).alloc (.cells #[.bool bn, .slice bA bs bc, .int .i64 be] 25)) (.cells #[.bool false, .slice none 0 0, .int .i64 0] 25))
    have vb := (Var.newAt (w.alloc (.cells #[.bool an, .slice aA 0 ac, .int .i64 ae] 25)) bn be (g := w.heap.size + 1) (by simp) (hb.below (ballo w (.cells #[.bool an, .slice aA 0 ac, .int .i64 ae] 25)))).next (ballo ((w.alloc (.cells #[.bool an, .slice aA 0 ac, .int .i64 ae] 25)).alloc (.cells #[.bool bn, .slice bA bs bc, .int .i64 be] 25)) (.cells #[.bool false, .slice none 0 0, .int .i64 0] 25))
    have kz := Blk.newAt ((w.alloc (.cells #[.bool an, .slice aA 0 ac, .int .i64 ae] 25)).alloc (.cells #[.bool bn, .slice bA bs bc, .int .i64 be] 25)) 25 #[.bool false, .slice none 0 0, .int .i64 0] (g := w.heap.size + 1 + 1) (by simp)
    have oa : Off aA 0 (w.heap.size + 1 + 1) := Off.old ha (by omega)
    have ob : Off bA bs (w.heap.size + 1 + 1) := Off.old hb (by omega)
    obtain ⟨aq0, aq1, aq2⟩ := va.cells
    obtain ⟨bq0, bq1, bq2⟩ := vb.cells
    go_wp2_with fail
    refine bodyPost_ret (resD Tryz.results217 rfl (Blk.newAt _ _ _ (by simp))) rfl ?_
    exact ⟨bA, bs, bc, rfl, hb.below (bnext (bnext (ballo w _) (ballo _ _)) (ballo _ _)), (fun g _ ho => ho.2), bnext (bnext (ballo w _) (ballo _ _)) (ballo _ _)⟩
  by_cases b0 : bs = 0
  · subst b0
    have HR : Hid (rsumD ⟨an, al, ae⟩ ⟨bn, bl, be⟩ = ⟨an, al, ae⟩) := by unfold Hid rsumD; rw [if_neg ((ne_nil_iff ha).2 a0), if_pos (hb.empty rfl)]
    rw [HR.out]
    clear HR hmn
    have a1 : ((aS : Int) == 0) = false := by simp; omega
    go_enter Tryz.func217, Tryz.ntmps217
    have hbw := bnext (bnext (ballo w (.cells #[.bool an, .slice aA aS ac, .int .i64 ae] 25)) (ballo (w.alloc (.cells #[.bool an, .slice aA aS ac, .int .i64 ae] 25)) (.cells #[.bool bn, .slice bA 0 bc, .int .i64 be] 25))) (ballo ((w.alloc (.cells #[.bool an, .slice aA aS ac, .int .i64 ae] 25)).alloc (.cells #[.bool bn, .slice bA 0 bc, .int .i64 be] 25)) (.cells #[.bool false, .slice none 0 0, .int .i64 0] 25))
    have va := ((Var.new w an ae ha).next (ballo (w.alloc (.cells #[.bool an, .slice aA aS ac, .int .i64 ae] 25)) (.cells #[.bool bn, .slice bA 0 bc, .int .i64 be] 25))).next (ballo ((w.alloc (.cells #[.bool an, .slice aA aS ac, .int .i64 ae] 25)).alloc (.cells #[.bool bn, .slice bA 0 bc, .int .i64 be] 25)) (.cells #[.bool false, .slice none 0 0, .int .i64 0] 25))
    have vb := (Var.newAt (w.alloc (.cells #[.bool an, .slice aA aS ac, .int .i64 ae] 25)) bn be (g := w.heap.size + 1) (by simp) (hb.below (ballo w (.cells #[.bool an, .slice aA aS ac, .int .i64 ae] 25)))).next (ballo ((w.alloc (.cells #[.bool an, .slice aA aS ac, .int .i64 ae] 25)).alloc (.cells #[.bool bn, .slice bA 0 bc, .int .i64 be] 25)) (.cells #[.bool false, .slice none 0 0, .int .i64 0] 25))
    have kz := Blk.newAt ((w.alloc (.cells #[.bool an, .slice aA aS ac, .int .i64 ae] 25)).alloc (.cells #[.bool bn, .slice bA 0 bc, .int .i64 be] 25)) 25 #[.bool false, .slice none 0 0, .int .i64 0] (g := w.heap.size + 1 + 1) (by simp)
    have oa : Off aA aS (w.heap.size + 1 + 1) := Off.old ha (by omega)
    have ob : Off bA 0 (w.heap.size + 1 + 1) := Off.old hb (by omega)
    obtain ⟨aq0, aq1, aq2⟩ := va.cells
    obtain ⟨bq0, bq1, bq2⟩ := vb.cells
    go_wp2_with fail
    refine bodyPost_ret (resD Tryz.results217 rfl (Blk.newAt _ _ _ (by simp))) rfl ?_
    exact ⟨aA, aS, ac, rfl, ha.below (bnext (bnext (ballo w _) (ballo _ _)) (ballo _ _)), (fun g _ ho => ho.1), bnext (bnext (ballo w _) (ballo _ _)) (ballo _ _)⟩
  have a1 : ((aS : Int) == 0) = false := by simp; omega
  have b1 : ((bs : Int) == 0) = false := by simp; omega
  obtain ⟨u1, u2, u3, u4, -⟩ := vld_bounds hva ((ne_nil_iff ha).2 a0)
  obtain ⟨t1, t2, t3, t4, -⟩ := vld_bounds hvb ((ne_nil_iff hb).2 b0)
  dsimp only at u3 u4 t3 t4
  obtain ⟨i, hi⟩ : ∃ i : Nat, ae - mn = (i : Int) := ⟨(ae - mn).toNat, by omega⟩
  obtain ⟨j, hj⟩ : ∃ j : Nat, be - mn = (j : Int) := ⟨(be - mn).toNat, by omega⟩
  have hib : i ≤ 32768 := by omega
  have hjb : j ≤ 32768 := by omega
  obtain ⟨P, hP⟩ : ∃ P, P = val al * 2 ^ i := ⟨_, rfl⟩
  obtain ⟨Q, hQ⟩ : ∃ Q, Q = val bl * 2 ^ j := ⟨_, rfl⟩
  obtain ⟨d1, d2, d3, d4, d5⟩ := sum_short (P := P) (Q := Q) (by rw [hP, blen_mul_pow _ _ (by omega)]; omega) (by rw [hQ, blen_mul_pow _ _ (by omega)]; omega)
  have HR : Hid (rsumD ⟨an, al, ae⟩ ⟨bn, bl, be⟩ = if an = bn then canonD an (P + Q) mn else if Q ≤ P then canonD an (P - Q) mn else canonD bn (Q - P) mn) := by unfold Hid rsumD; rw [if_neg ((ne_nil_iff ha).2 a0), if_neg ((ne_nil_iff hb).2 b0)]; simp only [hmn, hi, hj, Int.toNat_natCast, ← hP, ← hQ]
  generalize rsumD ⟨an, al, ae⟩ ⟨bn, bl, be⟩ = r at *
  have W1 : IntKind.i64.wrap (ae - mn) = (i : Int) := by rw [hi]; exact IntWalk.i64_in _ (by omega)
  have W2 : IntKind.i64.wrap (be - mn) = (j : Int) := by rw [hj]; exact IntWalk.i64_in _ (by omega)
  have hm1 : -16384 ≤ mn := by omega
  have hm2 : mn ≤ 16384 := by omega
  have HMN := Lib.hid hmn
  have HP := Lib.hid hP
  have HQ := Lib.hid hQ
  clear hmn hi hj hP hQ u1 u2 u3 u4 t1 t2 t3 t4 xa xb a0 b0 hva hvb
  go_enter Tryz.func217, Tryz.ntmps217
  have hbw := bnext (bnext (ballo w (.cells #[.bool an, .slice aA aS ac, .int .i64 ae] 25)) (ballo (w.alloc (.cells #[.bool an, .slice aA aS ac, .int .i64 ae] 25)) (.cells #[.bool bn, .slice bA bs bc, .int .i64 be] 25))) (ballo ((w.alloc (.cells #[.bool an, .slice aA aS ac, .int .i64 ae] 25)).alloc (.cells #[.bool bn, .slice bA bs bc, .int .i64 be] 25)) (.cells #[.bool false, .slice none 0 0, .int .i64 0] 25))
  have va := ((Var.new w an ae ha).next (ballo (w.alloc (.cells #[.bool an, .slice aA aS ac, .int .i64 ae] 25)) (.cells #[.bool bn, .slice bA bs bc, .int .i64 be] 25))).next (ballo ((w.alloc (.cells #[.bool an, .slice aA aS ac, .int .i64 ae] 25)).alloc (.cells #[.bool bn, .slice bA bs bc, .int .i64 be] 25)) (.cells #[.bool false, .slice none 0 0, .int .i64 0] 25))
  have vb := (Var.newAt (w.alloc (.cells #[.bool an, .slice aA aS ac, .int .i64 ae] 25)) bn be (g := w.heap.size + 1) (by simp) (hb.below (ballo w (.cells #[.bool an, .slice aA aS ac, .int .i64 ae] 25)))).next (ballo ((w.alloc (.cells #[.bool an, .slice aA aS ac, .int .i64 ae] 25)).alloc (.cells #[.bool bn, .slice bA bs bc, .int .i64 be] 25)) (.cells #[.bool false, .slice none 0 0, .int .i64 0] 25))
  have kz := Blk.newAt ((w.alloc (.cells #[.bool an, .slice aA aS ac, .int .i64 ae] 25)).alloc (.cells #[.bool bn, .slice bA bs bc, .int .i64 be] 25)) 25 #[.bool false, .slice none 0 0, .int .i64 0] (g := w.heap.size + 1 + 1) (by simp)
  have oa : Off aA aS (w.heap.size + 1 + 1) := Off.old ha (by omega)
  have ob : Off bA bs (w.heap.size + 1 + 1) := Off.old hb (by omega)
  go_wp2_with fail
  generalize ((w.alloc (.cells #[.bool an, .slice aA aS ac, .int .i64 ae] 25)).alloc (.cells #[.bool bn, .slice bA bs bc, .int .i64 be] 25)).alloc (.cells #[.bool false, .slice none 0 0, .int .i64 0] 25) = W0 at *
  obtain ⟨aq0, aq1, aq2⟩ := va.cells
  obtain ⟨bq0, bq1, bq2⟩ := vb.cells
  go_wp2_with fail
  rw [HMN.out]
  clear aq0 aq1 aq2 bq0 bq1 bq2
  have HK : Hid (∀ V, Below W0.heap.size W0 V → (fun V => (V.cell? ⟨w.heap.size, 0, none⟩ = some (.bool an) ∧ V.cell? ⟨w.heap.size, 1, none⟩ = some (.slice aA aS ac) ∧ V.cell? ⟨w.heap.size, 2, none⟩ = some (.int .i64 ae)) ∧ (V.cell? ⟨(w.heap.size + 1), 0, none⟩ = some (.bool bn) ∧ V.cell? ⟨(w.heap.size + 1), 1, none⟩ = some (.slice bA bs bc) ∧ V.cell? ⟨(w.heap.size + 1), 2, none⟩ = some (.int .i64 be)) ∧ Below W0.heap.size W0 V) V) := fun V hV => ⟨va.keep V hV, vb.keep V hV, hV⟩
  have hB := bdrew W0
  refine wp_region_held_drew (S := (fun V => (V.cell? ⟨w.heap.size, 0, none⟩ = some (.bool an) ∧ V.cell? ⟨w.heap.size, 1, none⟩ = some (.slice aA aS ac) ∧ V.cell? ⟨w.heap.size, 2, none⟩ = some (.int .i64 ae)) ∧ (V.cell? ⟨(w.heap.size + 1), 0, none⟩ = some (.bool bn) ∧ V.cell? ⟨(w.heap.size + 1), 1, none⟩ = some (.slice bA bs bc) ∧ V.cell? ⟨(w.heap.size + 1), 2, none⟩ = some (.int .i64 be)) ∧ Below W0.heap.size W0 V)) (by kernel_rfl) (HK.out _ hB) (fun hH => ?_)
  refine wpAnyH_take (i := 0) (oi := ⟨_, _, _, _, _, _⟩) (v := ?_) rfl (by kernel_rfl) (by kernel_rfl) (by kernel_rfl) (fun _ _ _ h => h) (Or.inl ⟨by rfl, ?_⟩) hH ?_
  rotate_left
  · (intro w hSw; (try dsimp only at hSw); go_simp; try (with_reducible rfl))
  simp only [Act.put, List.setIfInBounds_toArray, List.set_cons_zero, List.set_cons_succ]
  refine wpAnyH_take (i := 1) (oi := ⟨_, _, _, _, _, _⟩) (v := ?_) rfl (by kernel_rfl) (by kernel_rfl) (by kernel_rfl) (fun _ _ _ h => h) (Or.inl ⟨by rfl, ?_⟩) hH ?_
  rotate_left
  · (intro w hSw; (try dsimp only at hSw); go_simp; try (with_reducible rfl))
  simp only [Act.put, List.setIfInBounds_toArray, List.set_cons_zero, List.set_cons_succ]
  refine wpAnyH_take (i := 2) (oi := ⟨_, _, _, _, _, _⟩) (v := ?_) rfl (by kernel_rfl) (by kernel_rfl) (by kernel_rfl) (fun _ _ _ h => h) (Or.inl ⟨by rfl, ?_⟩) hH ?_
  rotate_left
  · (intro w hSw; (try dsimp only at hSw); go_simp; try (with_reducible rfl))
  simp only [Act.put, List.setIfInBounds_toArray, List.set_cons_zero, List.set_cons_succ]
  refine wpAnyH_take (i := 3) (oi := ⟨_, _, _, _, _, _⟩) (v := ?_) rfl (by kernel_rfl) (by kernel_rfl) (by kernel_rfl) (fun _ _ _ h => h) (Or.inl ⟨by rfl, ?_⟩) hH ?_
  rotate_left
  · (intro w hSw; (try dsimp only at hSw); go_simp; try (with_reducible rfl))
  simp only [Act.put, List.setIfInBounds_toArray, List.set_cons_zero, List.set_cons_succ]
  refine wpAnyH_take (i := 4) (oi := ⟨_, _, _, _, _, _⟩) (v := ?_) rfl (by kernel_rfl) (by kernel_rfl) (by kernel_rfl) (fun _ _ _ h => h) (Or.inl ⟨by rfl, ?_⟩) hH ?_
  rotate_left
  · (intro w hSw; (try dsimp only at hSw); go_simp; try (with_reducible rfl))
  simp only [Act.put, List.setIfInBounds_toArray, List.set_cons_zero, List.set_cons_succ]
  refine wpAnyH_take (i := 5) (oi := ⟨_, _, _, _, _, _⟩) (v := ?_) rfl (by kernel_rfl) (by kernel_rfl) (by kernel_rfl) (fun _ _ _ h => h) (Or.inl ⟨by rfl, ?_⟩) hH ?_
  rotate_left
  · (intro w hSw; (try dsimp only at hSw); go_simp; try (with_reducible rfl))
  simp only [Act.put, List.setIfInBounds_toArray, List.set_cons_zero, List.set_cons_succ]
  refine wpAnyH_take (i := 7) (oi := ⟨_, _, _, _, _, _⟩) (v := ?_) rfl (by kernel_rfl) (by kernel_rfl) (by kernel_rfl) (fun _ _ _ h => h) (Or.inl ⟨by rfl, ?_⟩) hH ?_
  rotate_left
  · (intro w hSw; (try dsimp only at hSw); go_simp; try (with_reducible rfl))
  simp only [Act.put, List.setIfInBounds_toArray, List.set_cons_zero, List.set_cons_succ]
  refine wpAnyH_take (i := 8) (oi := ⟨_, _, _, _, _, _⟩) (v := ?_) rfl (by kernel_rfl) (by kernel_rfl) (by kernel_rfl) (fun _ _ _ h => h) (Or.inl ⟨by rfl, ?_⟩) hH ?_
  rotate_left
  · (intro w hSw; (try dsimp only at hSw); go_simp; try (with_reducible rfl))
  simp only [Act.put, List.setIfInBounds_toArray, List.set_cons_zero, List.set_cons_succ]
  refine wpAnyH_take (i := 9) (oi := ⟨_, _, _, _, _, _⟩) (v := ?_) rfl (by kernel_rfl) (by kernel_rfl) (by kernel_rfl) (fun _ _ _ h => h) (Or.inl ⟨by rfl, ?_⟩) hH ?_
  rotate_left
  · (intro w hSw; (try dsimp only at hSw); go_simp; try (with_reducible rfl))
  simp only [Act.put, List.setIfInBounds_toArray, List.set_cons_zero, List.set_cons_succ]
  refine wpAnyH_take (i := 10) (oi := ⟨_, _, _, _, _, _⟩) (v := ?_) rfl (by kernel_rfl) (by kernel_rfl) (by kernel_rfl) (fun _ _ _ h => h) (Or.inl ⟨by rfl, ?_⟩) hH ?_
  rotate_left
  · (intro w hSw; (try dsimp only at hSw); go_simp; try (with_reducible rfl))
  simp only [Act.put, List.setIfInBounds_toArray, List.set_cons_zero, List.set_cons_succ]
  refine wpAnyH_take (i := 11) (oi := ⟨_, _, _, _, _, _⟩) (v := ?_) rfl (by kernel_rfl) (by kernel_rfl) (by kernel_rfl) (fun _ _ _ h => h) (Or.inl ⟨by rfl, ?_⟩) hH ?_
  rotate_left
  · (intro w hSw; (try dsimp only at hSw); go_simp; try (with_reducible rfl))
  simp only [Act.put, List.setIfInBounds_toArray, List.set_cons_zero, List.set_cons_succ]
  refine wpAnyH_take (i := 12) (oi := ⟨_, _, _, _, _, _⟩) (v := ?_) rfl (by kernel_rfl) (by kernel_rfl) (by kernel_rfl) (fun _ _ _ h => h) (Or.inl ⟨by rfl, ?_⟩) hH ?_
  rotate_left
  · (intro w hSw; (try dsimp only at hSw); go_simp; try (with_reducible rfl))
  simp only [Act.put, List.setIfInBounds_toArray, List.set_cons_zero, List.set_cons_succ]
  refine wpAnyH_ready (rs := [6]) (by kernel_rfl) (by simp) ?_
  refine AllReadyH.cons (o := ⟨_, _, _, _, _, _⟩) rfl (fun K hK => ?_) AllReadyH.nil
  go_simp
  refine (rleft_any aA aS ac i al _ (va.sl.below hB) (by omega) (by omega)).mono ?_
  rw [← HP.out]
  rintro e w1 ⟨pA, ps, pc, rfl, hsp, hfp, hc⟩
  replace hB := bnext hB hc
  clear hc
  go_wp2_with fail
  refine hK.out _ _ (HK.out _ hB) (fun hH => ?_)
  clear hK K
  refine wpAnyH_ready (rs := [13]) (by kernel_rfl) (by simp) ?_
  refine AllReadyH.cons (o := ⟨_, _, _, _, _, _⟩) rfl (fun K hK => ?_) AllReadyH.nil
  go_simp
  refine (rleft_any bA bs bc j bl _ (vb.sl.below hB) (by omega) (by omega)).mono ?_
  rw [← HQ.out]
  rintro e w2 ⟨qA, qs, qc, rfl, hsq, hfq, hc⟩
  replace hB := bnext hB hc
  replace hsp := hsp.below hc
  clear hc
  go_wp2_with fail
  refine hK.out _ _ (HK.out _ hB) (fun hH => ?_)
  clear hK K
  refine wpAnyH_take (i := 14) (oi := ⟨_, _, _, _, _, _⟩) (v := ?_) rfl (by kernel_rfl) (by kernel_rfl) (by kernel_rfl) (fun _ _ _ h => h) (Or.inl ⟨by rfl, ?_⟩) hH ?_
  rotate_left
  · (intro w hSw; (try dsimp only at hSw); go_simp; try (with_reducible rfl))
  simp only [Act.put, List.setIfInBounds_toArray, List.set_cons_zero, List.set_cons_succ]
  refine wpAnyH_take (i := 15) (oi := ⟨_, _, _, _, _, _⟩) (v := ?_) rfl (by kernel_rfl) (by kernel_rfl) (by kernel_rfl) (fun _ _ _ h => h) (Or.inl ⟨by rfl, ?_⟩) hH ?_
  rotate_left
  · (intro w hSw; (try dsimp only at hSw); go_simp; try (with_reducible rfl))
  simp only [Act.put, List.setIfInBounds_toArray, List.set_cons_zero, List.set_cons_succ]
  refine wpAnyH_done (by kernel_rfl) ?_ _
  clear hH HK
  replace va := va.next hB
  replace vb := vb.next hB
  replace kz := kz.below hB kz.lt
  replace hbw := bnext hbw hB
  clear hB hfp hfq
  have hps : ps ≤ 2000 := by rw [← hsp.len]; exact d2
  have hqs : qs ≤ 2000 := by rw [← hsq.len]; exact d3
  by_cases hnn : an = bn
  · subst hnn
    replace HR : Hid (r = canonD an (P + Q) mn) := by unfold Hid; rw [HR.out, if_pos rfl]
    obtain ⟨aq0, aq1, aq2⟩ := va.cells
    obtain ⟨bq0, bq1, bq2⟩ := vb.cells
    go_wp2_with fail
    clear aq0 aq1 aq2 bq0 bq1 bq2
    obtain ⟨⟨rn, rl, re⟩, hr⟩ : ∃ d, d = canonD an (P + Q) mn := ⟨_, rfl⟩
    rw [← hr] at HR
    have HRR := Lib.hid hr
    clear hr
    have HK : Hid (∀ V, Below w2.heap.size w2 V → (fun V => (V.cell? ⟨w.heap.size, 0, none⟩ = some (.bool an) ∧ V.cell? ⟨w.heap.size, 1, none⟩ = some (.slice aA aS ac) ∧ V.cell? ⟨w.heap.size, 2, none⟩ = some (.int .i64 ae))) V) := fun V hV => va.keep V hV
    have hB := bdrew w2
    refine wp_region_held_drew (S := (fun V => (V.cell? ⟨w.heap.size, 0, none⟩ = some (.bool an) ∧ V.cell? ⟨w.heap.size, 1, none⟩ = some (.slice aA aS ac) ∧ V.cell? ⟨w.heap.size, 2, none⟩ = some (.int .i64 ae)))) (by kernel_rfl) (HK.out _ hB) (fun hH => ?_)
    refine wpAnyH_take (i := 0) (oi := ⟨_, _, _, _, _, _⟩) (v := ?_) rfl (by kernel_rfl) (by kernel_rfl) (by kernel_rfl) (fun _ _ _ h => h) (Or.inl ⟨by rfl, ?_⟩) hH ?_
    rotate_left
    · (intro w hSw; (try dsimp only at hSw); go_simp; try (with_reducible rfl))
    simp only [Act.put, List.setIfInBounds_toArray, List.set_cons_zero, List.set_cons_succ]
    refine wpAnyH_take (i := 1) (oi := ⟨_, _, _, _, _, _⟩) (v := ?_) rfl (by kernel_rfl) (by kernel_rfl) (by kernel_rfl) (fun _ _ _ h => h) (Or.inl ⟨by rfl, ?_⟩) hH ?_
    rotate_left
    · (intro w hSw; (try dsimp only at hSw); go_simp; try (with_reducible rfl))
    simp only [Act.put, List.setIfInBounds_toArray, List.set_cons_zero, List.set_cons_succ]
    refine wpAnyH_take (i := 2) (oi := ⟨_, _, _, _, _, _⟩) (v := ?_) rfl (by kernel_rfl) (by kernel_rfl) (by kernel_rfl) (fun _ _ _ h => h) (Or.inl ⟨by rfl, ?_⟩) hH ?_
    rotate_left
    · (intro w hSw; (try dsimp only at hSw); go_simp; try (with_reducible rfl))
    simp only [Act.put, List.setIfInBounds_toArray, List.set_cons_zero, List.set_cons_succ]
    refine wpAnyH_take (i := 3) (oi := ⟨_, _, _, _, _, _⟩) (v := ?_) rfl (by kernel_rfl) (by kernel_rfl) (by kernel_rfl) (fun _ _ _ h => h) (Or.inl ⟨by rfl, ?_⟩) hH ?_
    rotate_left
    · (intro w hSw; (try dsimp only at hSw); go_simp; try (with_reducible rfl))
    simp only [Act.put, List.setIfInBounds_toArray, List.set_cons_zero, List.set_cons_succ]
    refine wpAnyH_take (i := 5) (oi := ⟨_, _, _, _, _, _⟩) (v := ?_) rfl (by kernel_rfl) (by kernel_rfl) (by kernel_rfl) (fun _ _ _ h => h) (Or.inl ⟨by rfl, ?_⟩) hH ?_
    rotate_left
    · (intro w hSw; (try dsimp only at hSw); go_simp; try (with_reducible rfl))
    simp only [Act.put, List.setIfInBounds_toArray, List.set_cons_zero, List.set_cons_succ]
    refine wpAnyH_ready (rs := [4]) (by kernel_rfl) (by simp) ?_
    refine AllReadyH.cons (o := ⟨_, _, _, _, _, _⟩) rfl (fun K hK => ?_) AllReadyH.nil
    go_simp
    refine (rplus_any pA qA ps pc qs qc _ _ _ (hsp.below hB) (hsq.below hB) (by omega) (by omega)).mono ?_
    rw [val_digs, val_digs]
    rintro e w3 ⟨mA, ms, mc, rfl, hsm, hfm, hc⟩
    replace hB := bnext hB hc
    clear hc
    go_wp2_with fail
    refine hK.out _ _ (HK.out _ hB) (fun hH => ?_)
    clear hK K
    have hms : ms ≤ 2000 := by rw [← hsm.len]; exact d1
    refine wpAnyH_ready (rs := [6]) (by kernel_rfl) (by simp) ?_
    refine AllReadyH.cons (o := ⟨_, _, _, _, _, _⟩) rfl (fun K hK => ?_) AllReadyH.nil
    go_simp
    refine (rof_any an mA ms mc _ mn _ hsm (by omega) (by omega) (by omega)).mono ?_
    rw [val_digs, ← HRR.out]
    rintro e w4 ⟨zA, zs, zc, rfl, hsz, hfz, hc⟩
    have oz : Off zA zs (w.heap.size + 1 + 1) := Off.fresh hfz (Nat.lt_of_lt_of_le kz.lt hB.size)
    have ozz : ∀ g, g < w.heap.size → Off zA zs g := fun g hg => Off.fresh hfz (Nat.lt_of_lt_of_le hg (Nat.le_trans hbw.size hB.size))
    replace hB := bnext hB hc
    clear hc
    go_wp2_with fail
    refine hK.out _ _ (HK.out _ hB) (fun hH => ?_)
    clear hK K
    replace kz := kz.below hB kz.lt
    have vk := va.next hB
    refine wpAnyH_ready (rs := [7]) (by kernel_rfl) (by simp) ?_
    refine AllReadyH.cons (o := ⟨_, _, _, _, _, _⟩) rfl (fun K hK => ?_) AllReadyH.nil
    obtain ⟨z0, z1, z2⟩ := kz.cells3
    have f0 := kz.frozen 0
    have f1 := kz.frozen 1
    have f2 := kz.frozen 2
    go_simp
    clear z0 z1 z2 f0 f1 f2
    refine hK.out _ _ ((vk.blk.off3 (by omega) _ _ _).cells3) (fun hH => ?_)
    clear hK K
    refine wpAnyH_done (by kernel_rfl) ?_ _
    go_wp2_with fail
    refine bodyPost_ret (resD Tryz.results217 rfl (kz.set3 _ _ _)) rfl ?_
    rw [HR.out]
    exact ⟨zA, zs, zc, rfl, hsz.off3 oz _ _ _, (fun g hg _ => ozz g hg), below_set3 (bnext hbw hB) (by omega) _ _ _⟩
  have hnn' : (an == bn) = false := by simp [hnn]
  have HC : Hid (cmpL (digs P) (digs Q) = cmpN P Q) := by unfold Hid; rw [cmpL_trim (limbs_digs _) (limbs_digs _) (trim_digs _) (trim_digs _), val_digs, val_digs]
  obtain ⟨aq0, aq1, aq2⟩ := va.cells
  obtain ⟨bq0, bq1, bq2⟩ := vb.cells
  go_wp2_with fail
  refine (rcompare_any pA qA ps pc qs qc _ _ _ hsp hsq).mono ?_
  rw [HC.out]
  rintro e w9 ⟨rfl, qd, rfl⟩
  clear aq0 aq1 aq2 bq0 bq1 bq2
  have hbd := below_drewN (Below.refl w2.heap.size w2) qd
  replace hsp := hsp.drewN qd
  replace hsq := hsq.drewN qd
  replace va := va.next hbd
  replace vb := vb.next hbd
  replace kz := kz.below hbd kz.lt
  replace hbw := bnext hbw hbd
  clear hbd
  generalize w2.drewN qd = W9 at *
  by_cases hPQ : Q ≤ P
  · replace HR : Hid (r = canonD an (P - Q) mn) := by unfold Hid; rw [HR.out, if_neg hnn, if_pos hPQ]
    have hc0 : 0 ≤ cmpN P Q := by unfold cmpN; rw [if_neg (by omega)]; split <;> omega
    generalize cmpN P Q = cm at *
    go_wp2_with fail
    obtain ⟨⟨rn, rl, re⟩, hr⟩ : ∃ d, d = canonD an (P - Q) mn := ⟨_, rfl⟩
    rw [← hr] at HR
    have HRR := Lib.hid hr
    clear hr
    have HK : Hid (∀ V, Below W9.heap.size W9 V → (fun V => (V.cell? ⟨w.heap.size, 0, none⟩ = some (.bool an) ∧ V.cell? ⟨w.heap.size, 1, none⟩ = some (.slice aA aS ac) ∧ V.cell? ⟨w.heap.size, 2, none⟩ = some (.int .i64 ae))) V) := fun V hV => va.keep V hV
    have hB := bdrew W9
    refine wp_region_held_drew (S := (fun V => (V.cell? ⟨w.heap.size, 0, none⟩ = some (.bool an) ∧ V.cell? ⟨w.heap.size, 1, none⟩ = some (.slice aA aS ac) ∧ V.cell? ⟨w.heap.size, 2, none⟩ = some (.int .i64 ae)))) (by kernel_rfl) (HK.out _ hB) (fun hH => ?_)
    refine wpAnyH_take (i := 0) (oi := ⟨_, _, _, _, _, _⟩) (v := ?_) rfl (by kernel_rfl) (by kernel_rfl) (by kernel_rfl) (fun _ _ _ h => h) (Or.inl ⟨by rfl, ?_⟩) hH ?_
    rotate_left
    · (intro w hSw; (try dsimp only at hSw); go_simp; try (with_reducible rfl))
    simp only [Act.put, List.setIfInBounds_toArray, List.set_cons_zero, List.set_cons_succ]
    refine wpAnyH_take (i := 1) (oi := ⟨_, _, _, _, _, _⟩) (v := ?_) rfl (by kernel_rfl) (by kernel_rfl) (by kernel_rfl) (fun _ _ _ h => h) (Or.inl ⟨by rfl, ?_⟩) hH ?_
    rotate_left
    · (intro w hSw; (try dsimp only at hSw); go_simp; try (with_reducible rfl))
    simp only [Act.put, List.setIfInBounds_toArray, List.set_cons_zero, List.set_cons_succ]
    refine wpAnyH_take (i := 2) (oi := ⟨_, _, _, _, _, _⟩) (v := ?_) rfl (by kernel_rfl) (by kernel_rfl) (by kernel_rfl) (fun _ _ _ h => h) (Or.inl ⟨by rfl, ?_⟩) hH ?_
    rotate_left
    · (intro w hSw; (try dsimp only at hSw); go_simp; try (with_reducible rfl))
    simp only [Act.put, List.setIfInBounds_toArray, List.set_cons_zero, List.set_cons_succ]
    refine wpAnyH_take (i := 3) (oi := ⟨_, _, _, _, _, _⟩) (v := ?_) rfl (by kernel_rfl) (by kernel_rfl) (by kernel_rfl) (fun _ _ _ h => h) (Or.inl ⟨by rfl, ?_⟩) hH ?_
    rotate_left
    · (intro w hSw; (try dsimp only at hSw); go_simp; try (with_reducible rfl))
    simp only [Act.put, List.setIfInBounds_toArray, List.set_cons_zero, List.set_cons_succ]
    refine wpAnyH_take (i := 5) (oi := ⟨_, _, _, _, _, _⟩) (v := ?_) rfl (by kernel_rfl) (by kernel_rfl) (by kernel_rfl) (fun _ _ _ h => h) (Or.inl ⟨by rfl, ?_⟩) hH ?_
    rotate_left
    · (intro w hSw; (try dsimp only at hSw); go_simp; try (with_reducible rfl))
    simp only [Act.put, List.setIfInBounds_toArray, List.set_cons_zero, List.set_cons_succ]
    refine wpAnyH_ready (rs := [4]) (by kernel_rfl) (by simp) ?_
    refine AllReadyH.cons (o := ⟨_, _, _, _, _, _⟩) rfl (fun K hK => ?_) AllReadyH.nil
    go_simp
    refine (rminus_any pA qA ps pc qs qc _ _ _ (hsp.below hB) (hsq.below hB) (by omega) (by rw [val_digs, val_digs]; exact hPQ)).mono ?_
    rw [val_digs, val_digs]
    rintro e w3 ⟨mA, ms, mc, rfl, hsm, hfm, hc⟩
    replace hB := bnext hB hc
    clear hc
    go_wp2_with fail
    refine hK.out _ _ (HK.out _ hB) (fun hH => ?_)
    clear hK K
    have hms : ms ≤ 2000 := by rw [← hsm.len]; exact d4
    refine wpAnyH_ready (rs := [6]) (by kernel_rfl) (by simp) ?_
    refine AllReadyH.cons (o := ⟨_, _, _, _, _, _⟩) rfl (fun K hK => ?_) AllReadyH.nil
    go_simp
    refine (rof_any an mA ms mc _ mn _ hsm (by omega) (by omega) (by omega)).mono ?_
    rw [val_digs, ← HRR.out]
    rintro e w4 ⟨zA, zs, zc, rfl, hsz, hfz, hc⟩
    have oz : Off zA zs (w.heap.size + 1 + 1) := Off.fresh hfz (Nat.lt_of_lt_of_le kz.lt hB.size)
    have ozz : ∀ g, g < w.heap.size → Off zA zs g := fun g hg => Off.fresh hfz (Nat.lt_of_lt_of_le hg (Nat.le_trans hbw.size hB.size))
    replace hB := bnext hB hc
    clear hc
    go_wp2_with fail
    refine hK.out _ _ (HK.out _ hB) (fun hH => ?_)
    clear hK K
    replace kz := kz.below hB kz.lt
    have vk := va.next hB
    refine wpAnyH_ready (rs := [7]) (by kernel_rfl) (by simp) ?_
    refine AllReadyH.cons (o := ⟨_, _, _, _, _, _⟩) rfl (fun K hK => ?_) AllReadyH.nil
    obtain ⟨z0, z1, z2⟩ := kz.cells3
    have f0 := kz.frozen 0
    have f1 := kz.frozen 1
    have f2 := kz.frozen 2
    go_simp
    clear z0 z1 z2 f0 f1 f2
    refine hK.out _ _ ((vk.blk.off3 (by omega) _ _ _).cells3) (fun hH => ?_)
    clear hK K
    refine wpAnyH_done (by kernel_rfl) ?_ _
    go_wp2_with fail
    refine bodyPost_ret (resD Tryz.results217 rfl (kz.set3 _ _ _)) rfl ?_
    rw [HR.out]
    exact ⟨zA, zs, zc, rfl, hsz.off3 oz _ _ _, (fun g hg _ => ozz g hg), below_set3 (bnext hbw hB) (by omega) _ _ _⟩
  · replace HR : Hid (r = canonD bn (Q - P) mn) := by unfold Hid; rw [HR.out, if_neg hnn, if_neg hPQ]
    have hc0 : cmpN P Q < 0 := by rw [cmpN_lt (by omega)]; omega
    generalize cmpN P Q = cm at *
    go_wp2_with fail
    obtain ⟨⟨rn, rl, re⟩, hr⟩ : ∃ d, d = canonD bn (Q - P) mn := ⟨_, rfl⟩
    rw [← hr] at HR
    have HRR := Lib.hid hr
    clear hr
    have HK : Hid (∀ V, Below W9.heap.size W9 V → (fun V => (V.cell? ⟨(w.heap.size + 1), 0, none⟩ = some (.bool bn) ∧ V.cell? ⟨(w.heap.size + 1), 1, none⟩ = some (.slice bA bs bc) ∧ V.cell? ⟨(w.heap.size + 1), 2, none⟩ = some (.int .i64 be))) V) := fun V hV => vb.keep V hV
    have hB := bdrew W9
    refine wp_region_held_drew (S := (fun V => (V.cell? ⟨(w.heap.size + 1), 0, none⟩ = some (.bool bn) ∧ V.cell? ⟨(w.heap.size + 1), 1, none⟩ = some (.slice bA bs bc) ∧ V.cell? ⟨(w.heap.size + 1), 2, none⟩ = some (.int .i64 be)))) (by kernel_rfl) (HK.out _ hB) (fun hH => ?_)
    refine wpAnyH_take (i := 0) (oi := ⟨_, _, _, _, _, _⟩) (v := ?_) rfl (by kernel_rfl) (by kernel_rfl) (by kernel_rfl) (fun _ _ _ h => h) (Or.inl ⟨by rfl, ?_⟩) hH ?_
    rotate_left
    · (intro w hSw; (try dsimp only at hSw); go_simp; try (with_reducible rfl))
    simp only [Act.put, List.setIfInBounds_toArray, List.set_cons_zero, List.set_cons_succ]
    refine wpAnyH_take (i := 1) (oi := ⟨_, _, _, _, _, _⟩) (v := ?_) rfl (by kernel_rfl) (by kernel_rfl) (by kernel_rfl) (fun _ _ _ h => h) (Or.inl ⟨by rfl, ?_⟩) hH ?_
    rotate_left
    · (intro w hSw; (try dsimp only at hSw); go_simp; try (with_reducible rfl))
    simp only [Act.put, List.setIfInBounds_toArray, List.set_cons_zero, List.set_cons_succ]
    refine wpAnyH_take (i := 2) (oi := ⟨_, _, _, _, _, _⟩) (v := ?_) rfl (by kernel_rfl) (by kernel_rfl) (by kernel_rfl) (fun _ _ _ h => h) (Or.inl ⟨by rfl, ?_⟩) hH ?_
    rotate_left
    · (intro w hSw; (try dsimp only at hSw); go_simp; try (with_reducible rfl))
    simp only [Act.put, List.setIfInBounds_toArray, List.set_cons_zero, List.set_cons_succ]
    refine wpAnyH_take (i := 3) (oi := ⟨_, _, _, _, _, _⟩) (v := ?_) rfl (by kernel_rfl) (by kernel_rfl) (by kernel_rfl) (fun _ _ _ h => h) (Or.inl ⟨by rfl, ?_⟩) hH ?_
    rotate_left
    · (intro w hSw; (try dsimp only at hSw); go_simp; try (with_reducible rfl))
    simp only [Act.put, List.setIfInBounds_toArray, List.set_cons_zero, List.set_cons_succ]
    refine wpAnyH_take (i := 5) (oi := ⟨_, _, _, _, _, _⟩) (v := ?_) rfl (by kernel_rfl) (by kernel_rfl) (by kernel_rfl) (fun _ _ _ h => h) (Or.inl ⟨by rfl, ?_⟩) hH ?_
    rotate_left
    · (intro w hSw; (try dsimp only at hSw); go_simp; try (with_reducible rfl))
    simp only [Act.put, List.setIfInBounds_toArray, List.set_cons_zero, List.set_cons_succ]
    refine wpAnyH_ready (rs := [4]) (by kernel_rfl) (by simp) ?_
    refine AllReadyH.cons (o := ⟨_, _, _, _, _, _⟩) rfl (fun K hK => ?_) AllReadyH.nil
    go_simp
    refine (rminus_any qA pA qs qc ps pc _ _ _ (hsq.below hB) (hsp.below hB) (by omega) (by rw [val_digs, val_digs]; omega)).mono ?_
    rw [val_digs, val_digs]
    rintro e w3 ⟨mA, ms, mc, rfl, hsm, hfm, hc⟩
    replace hB := bnext hB hc
    clear hc
    go_wp2_with fail
    refine hK.out _ _ (HK.out _ hB) (fun hH => ?_)
    clear hK K
    have hms : ms ≤ 2000 := by rw [← hsm.len]; exact d5
    refine wpAnyH_ready (rs := [6]) (by kernel_rfl) (by simp) ?_
    refine AllReadyH.cons (o := ⟨_, _, _, _, _, _⟩) rfl (fun K hK => ?_) AllReadyH.nil
    go_simp
    refine (rof_any bn mA ms mc _ mn _ hsm (by omega) (by omega) (by omega)).mono ?_
    rw [val_digs, ← HRR.out]
    rintro e w4 ⟨zA, zs, zc, rfl, hsz, hfz, hc⟩
    have oz : Off zA zs (w.heap.size + 1 + 1) := Off.fresh hfz (Nat.lt_of_lt_of_le kz.lt hB.size)
    have ozz : ∀ g, g < w.heap.size → Off zA zs g := fun g hg => Off.fresh hfz (Nat.lt_of_lt_of_le hg (Nat.le_trans hbw.size hB.size))
    replace hB := bnext hB hc
    clear hc
    go_wp2_with fail
    refine hK.out _ _ (HK.out _ hB) (fun hH => ?_)
    clear hK K
    replace kz := kz.below hB kz.lt
    have vk := vb.next hB
    refine wpAnyH_ready (rs := [7]) (by kernel_rfl) (by simp) ?_
    refine AllReadyH.cons (o := ⟨_, _, _, _, _, _⟩) rfl (fun K hK => ?_) AllReadyH.nil
    obtain ⟨z0, z1, z2⟩ := kz.cells3
    have f0 := kz.frozen 0
    have f1 := kz.frozen 1
    have f2 := kz.frozen 2
    go_simp
    clear z0 z1 z2 f0 f1 f2
    refine hK.out _ _ ((vk.blk.off3 (by omega) _ _ _).cells3) (fun hH => ?_)
    clear hK K
    refine wpAnyH_done (by kernel_rfl) ?_ _
    go_wp2_with fail
    refine bodyPost_ret (resD Tryz.results217 rfl (kz.set3 _ _ _)) rfl ?_
    rw [HR.out]
    exact ⟨zA, zs, zc, rfl, hsz.off3 oz _ _ _, (fun g hg _ => ozz g hg), below_set3 (bnext hbw hB) (by omega) _ _ _⟩

end Go.Proofs.YtekajoifgdpmlaaGreatDoor
